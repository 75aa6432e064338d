import Derived.Test.YtkcpmclnocmalaaGreatQMK7
set_option linter.unusedVariables false
namespace Go.Proofs.YtkcpmclnocmalaaGreat
open Go.RowKit Go.Front Go.Num Stab Sg
theorem fU{p:List Rat}{x:Rat}(h:x ∈ tz p):x ∈ p:=by
 rw [j9 p] at h;exact List.mem_of_mem_take h
theorem tP(d:Nat)(hd:1≤d):2+d≤3 ^ d:=by
 induction d with
 | zero=>omega
 | succ d ih =>
  rcases Nat.eq_zero_or_pos d with h|h
  ·subst h;decide
  ·have:=ih h;rw [nXu];omega
theorem Cb(la lb:Nat):(1+(la+1-lb))*3 ^ lb≤3 ^ max la (lb+1):=by
 rcases Nat.lt_or_ge lb la with h|h
 ·obtain ⟨d,rfl⟩:∃ d,la=lb+d:=⟨la-lb,zo⟩;rw [show max (lb+d) (lb+1)=lb+d by omega,Nat.pow_add,nYf];exact nXg _ (by have:=tP d zo;omega)
 ·rw [show max la (lb+1)=lb+1 by omega,nXu,nYf];exact nXg _ zo
theorem yV{X la lb lr L:Nat}(h:(X+1)*3 ^ max la (lb+1)≤L)(hr:lr+1≤lb):(X+(la+1-lb)*(X+1)+1)*3 ^ max lb (lr+1)≤L:=by
 have h1:X+(la+1-lb)*(X+1)+1=(X+1)*(1+(la+1-lb)):=by rw [Nat.mul_add (X+1) 1,nYf (X+1) (la+1-lb)];omega
 rw [h1,Nat.mul_assoc,show max lb (lr+1)=lb by omega];exact nXf (nXg _ (Cb la lb)) h
theorem tY(p:List Rat):ay (ay p)=ay p:=by
 by_cases h:tz p=[]
 ·rw [spl_ne.2 h];rfl
 ·exact (fu (p:=p) (q:=ay p) (bs h) (fun n=>by rw [fh p n];grind)).symm
def Zk(K X:Nat)(a b:List Rat):Prop:=(X+1)*3 ^ max a.length (b.length+1)≤K∨(Eg X a b∧3*((X+1)*(max a.length b.length+3))≤K)
theorem Zk.small{K X:Nat}{a b:List Rat}(h:Zk K X a b):X+1≤K:=by
 rcases h with h|⟨-,h⟩
 ·have:X+1≤(X+1)*3 ^ max a.length (b.length+1):=Nat.le_mul_of_pos_right _ (nYn dZ);omega
 ·have:(X+1)*1≤(X+1)*(max a.length b.length+3):=nXg _ zo;omega
theorem Zk.dsz{K X:Nat}{a b:List Rat}(h:Zk K X a b):X+(a.length+1)*(X+1)≤K:=by
 have h4:(X+1)*(a.length+2)≤K:=by
  rcases h with h|⟨-,h⟩
  ·have h2:a.length+2≤3 ^ max a.length (b.length+1):=by
    have h3:=tP (max a.length (b.length+1)) zo;omega
   exact nXf (nXg _ h2) h
  ·have:(X+1)*(a.length+2)≤(X+1)*(max a.length b.length+3):=nXg _ zo;omega
 rw [show (a.length+1)*(X+1)=(X+1)*(a.length+1) from nYf _ _];rw [show a.length+2=(a.length+1)+1 from rfl,Nat.mul_succ] at h4;omega
theorem Zk.size{K X:Nat}{a b:List Rat}(h:Zk K X a b)(hb:b≠[]):X+(a.length+1-b.length)*(X+1)≤K:=by
 have h1:=h.dsz;have h2:(a.length+1-b.length)*(X+1)≤(a.length+1)*(X+1):=nXh _ zo;omega
theorem Zk.next{K X:Nat}{a b r:List Rat}(h:Zk K X a b)(hbt:tz b=b)(hb:b≠[])(hr:Pr r (bX a b))(hs:ay r=r)(hl:r.length<b.length)(hw:∀ x ∈ r,Wz (X+(a.length+1-b.length)*(X+1)) x):∃ X',X≤X'∧Zk K X' b r∧∀ x ∈ r,Wz X' x:=by
 rcases h with h|⟨hE,h⟩
 ·exact ⟨_,Nat.le_add_right _ _,Or.inl (yV h zo),hw⟩
 ·have hE2:=hE.next (by rw [hbt];exact hb) hr;refine ⟨X,nXe _,Or.inr ⟨hE2,?_⟩,by have:=hE2.snd;rwa [hs] at this⟩;have:(X+1)*(max b.length r.length+3)≤(X+1)*(max a.length b.length+3):=nXg _ zo;omega
def GZ(K S:Nat)(p q:List Rat):Prop:=∃ X,S≤X∧Zk K X (ay p) (ay q)
theorem DO{K S P Q:Nat}{p q:List Rat}(hp:p.length≤P)(hq:q.length≤Q)(h:(S+1)*3 ^ max P (Q+1)≤K):GZ K S p q:=by
 have h1:=aj p;have h2:=aj q;exact ⟨S,nXe _,Or.inl (nXf (nXg _ (nXp dZ (by rw [aG,aG];omega))) h)⟩
theorem Cm{a b:List Rat}{S:Nat}(ha:∀ x ∈ a,Wz S x)(hb:∀ x ∈ b,Wz S x)(hN:2*(ln a+ln b)≤W32):Eg ((S+1)*(ln a+ln b)) a b:=by
 by_cases hbn:tz b=[]
 ·intro c e h;cases h with
  | start hc he=>rw [show ay e=[] from spl_ne.2 (he.nil.2 hbn)];intro x hx;simp at hx
  | @next c' e' r h h0 hr =>
   exfalso;have key:∀ c e,Es a b c e→tz e=[]:=by
    intro c e h;induction h with
    | start hc he=>exact he.nil.2 hbn
    | next h h0 hr ih=>exact absurd ih h0
   exact h0 (key _ _ h)
 ·rcases Nat.lt_or_ge (ln a) (ln b) with hl|hl
  ·-- the first remainder is a itself
   have hrem:Pr a (bX a b):=by
    have h1:=dz a hbn;have hq:tz (bK a b)=[]:=Classical.byContradiction fun hq=>by
     have h2:=oq hq hbn;have h3:ln (fY (aO (bK a b) b) ((bX a b).map (·*-1)))=ln a:=dT fun x=>by rw [fE,ev_mul5,ev_map,jj a hbn x];grind
     have h4:ln (bX a b)<ln b:=nYl (aj _) h1.1;have h5:=dN (p:=bX a b) (c:=-1);have h6:=im hq;rw [kR zo] at h3;omega
    refine ⟨1,dZ,fun n=>?_⟩;exact ev_inj (p:=a) (q:=(bX a b).map (·*1)) (fun x=>by rw [ev_map,jj a hbn x,aD.1 hq x];grind) n |>.trans (by rw [bB];grind)
   have hS:S≤(S+1)*(ln a+ln b):=by
    have hp:=im hbn;have:(S+1)*1≤(S+1)*(ln a+ln b):=nXg _ zo;omega
   by_cases han:tz a=[]
   ·intro c e h;have key:∀ c e,Es a b c e→(Pr c a∧Pr e b)∨tz e=[]:=by
     intro c e h;induction h with
     | start hc he=>exact Or.inl ⟨hc,he⟩
     | @next c e r h h0 hr ih =>
      rcases ih with ⟨hc,he⟩|h1
      ·exact Or.inr (hr.nil.2 ((mO hc he hbn).nil.2 (hrem.nil.1 han)))
      ·exact absurd h1 h0
    rcases key c e h with ⟨-,h1⟩|h1
    ·intro x hx;exact (pu h1 hb x hx).mono hS
    ·rw [show ay e=[] from spl_ne.2 h1];intro x hx;simp at hx
   ·have hE:=AK hb ha han (nYm hl) zo;rw [nYj (ln b)] at hE;intro c e h;have key:∀ c e,Es a b c e→(Pr c a∧Pr e b)∨Es b a c e:=by
     intro c e h;induction h with
     | start hc he=>exact Or.inl ⟨hc,he⟩
     | @next c e r h h0 hr ih =>
      right
      rcases ih with ⟨hc,he⟩|h1
      ·exact Es.start he (hr.trans ((mO hc he hbn).trans hrem.symm))
      ·exact Es.next h1 h0 hr
    rcases key c e h with ⟨-,h1⟩|h1
    ·intro x hx;exact (pu h1 hb x hx).mono hS
    ·exact hE c e h1
  ·exact AK ha hb hbn hl hN
theorem DN{K S D E P Q:Nat}{p q:List Rat}(hD:0<D)(hE:0<E)(hp:FrL S D p)(hq:FrL S E q)(hpl:p.length≤P)(hql:q.length≤Q)(hN:2*(P+Q)≤4294967296)(h:3*(((S+1)*(P+Q)+S+1)*(P+Q+3))≤K):GZ K S p q:=by
 have h1:=aj p;have h2:=aj q;have wa:∀ x ∈ ay p,Wz S x:=d9 (fun x hx=>hp x (fU hx)) hD;have wb:∀ x ∈ ay q,Wz S x:=d9 (fun x hx=>hq x (fU hx)) hE;have la:ln (ay p)≤P:=by show (tz (ay p)).length≤P;rw [bq,aG];omega
 have lb:ln (ay q)≤Q:=by show (tz (ay q)).length≤Q;rw [bq,aG];omega
 have hE:=Cm wa wb (by show _≤4294967296;omega);refine ⟨(S+1)*(P+Q)+S,zo,Or.inr ⟨fun c e hs x hx=>(hE c e hs x hx).mono ?_,?_⟩⟩
 ·have:(S+1)*(ln (ay p)+ln (ay q))≤(S+1)*(P+Q):=nXg _ zo;omega
 ·rw [aG,aG];have:((S+1)*(P+Q)+S+1)*(max (tz p).length (tz q).length+3)≤((S+1)*(P+Q)+S+1)*(P+Q+3):=nXg _ zo;omega
def GcI(K:Nat)(p q a b:List Rat)(X:Nat):Prop:=tz a=a∧tz b=b∧(∀ x ∈ a,Wz X x)∧(∀ x ∈ b,Wz X x)∧1≤X∧Zk K X a b∧oH b.length (cI a) (cI b)=aV p q∧a.length≤100000∧b.length≤100000
theorem GcI.small{K:Nat}{p q a b:List Rat}{X:Nat}(h:GcI K p q a b X):X+1≤K:=h.2.2.2.2.2.1.small
theorem GcI.size{K:Nat}{p q a b:List Rat}{X:Nat}(h:GcI K p q a b X)(hb:b≠[]):X+(a.length+1-b.length)*(X+1)≤K:=h.2.2.2.2.2.1.size hb
theorem GcI.next{K:Nat}{p q a b s r:List Rat}{f:Rat}{X:Nat}(h:GcI K p q a b X)(hb:b≠[])(hd:DvP a b X X s r f):∃ X',GcI K p q b (ay r) X':=by
 obtain ⟨h1,h2,h3,h4,h5,h6,h7,h8,h9⟩:=h;obtain ⟨d0,d1,d2,d3,d4,d5,d6,d7⟩:=hd;have hl:(ay r).length=r.length:=by rw [aG,d4]
 have hbt:tz b≠[]:=by rw [h2];exact hb
 have hpr:Pr (ay r) (bX a b):=(lR r).trans (pq hbt d0 (Bd.seq s) (by rw [h2];exact d5) d7);obtain ⟨X',g1,g2,g3⟩:=h6.next h2 hb hpr (tY r) zo (d9 (D:=1) (fun x hx=>by
  have hw:=d3 x (by rw [d4] at hx;exact hx);exact Fr.one hw) dZ)
 exact ⟨X',h2,bq r,fun x hx=>(h4 x hx).mono g1,g3,zo,g2,by rw [←vM h2 hb d0 d5 d7,h7],h9,zo⟩
theorem GcI.start{K S D E:Nat}{p q:List Rat}(hS:1≤S)(hD:0<D)(hE:0<E)(hp:FrL S D p)(hq:FrL S E q)(hg:GZ K S p q)(hpl:p.length≤100000)(hql:q.length≤100000):∃ X,GcI K p q (ay p) (ay q) X:=by
 obtain ⟨X,h1,h2⟩:=hg;have e1:=aj p;have e2:=aj q;exact ⟨X,bq p,bq q,fun x hx=>(d9 (fun x hx=>hp x (fU hx)) hD x hx).mono h1,fun x hx=>(d9 (fun x hx=>hq x (fU hx)) hE x hx).mono h1,zo,h2,vN p q,by rw [aG];omega,by rw [aG];omega⟩
def GcR(K:Nat)(g:List Rat):Prop:=∃ X D,FrL X D g∧1≤X∧0<D∧D<W32 ^ X∧((X+1)*3 ^ max g.length 1≤K∨3*((X+1)*(g.length+3))≤K)
theorem GcR.small{K:Nat}{g:List Rat}{X:Nat}(h:(X+1)*3 ^ max g.length 1≤K∨3*((X+1)*(g.length+3))≤K):X+1≤K / 3:=by
 rcases h with h|h
 ·have h1:(X+1)*3≤(X+1)*3 ^ max g.length 1:=nXg _ (by
   have:=nXp (n:=3) dZ (show 1≤max g.length 1 by omega);omega)
  omega
 ·have h1:(X+1)*1≤(X+1)*(g.length+3):=nXg _ zo;omega
theorem GcI.done{K:Nat}{p q a b:List Rat}{X:Nat}(h:GcI K p q a b X)(hb:b=[]):GcR K (aV p q):=by
 obtain ⟨h1,h2,h3,h4,h5,h6,h7,h8,h9⟩:=h;subst hb;have e:aV p q=cI a:=h7.symm;have hf:FrL X 1 a:=fun x hx=>Fr.one (h3 x hx)
 rw [e];have hsz:∀ n,n≤a.length→(X+1)*3 ^ max n 1≤K∨3*((X+1)*(n+3))≤K:=fun n hn=>by
  rcases h6 with h6|⟨-,h6⟩
  ·exact Or.inl (nXf (nXg _ (nXp dZ (by simp only [List.length_nil];omega))) h6)
  ·right
   have:(X+1)*(n+3)≤(X+1)*(max a.length ([]:List Rat).length+3):=nXg _ zo;omega
 by_cases ha:tz a=[]
 ·have:cI a=[]:=by unfold cI;rw [if_pos ha]
  rw [this];exact ⟨X,1,fun x hx=>by simp at hx,h5,dZ,Nat.one_lt_pow zo dZ,hsz _ (by simp)⟩
 ·exact ⟨X,ldD (tz a) 1,uT hf,h5,vj hf.tz (ci ha) dZ,AA hf.tz,hsz _ (by rw [fL,h1];exact nXe _)⟩
def RmI(K:Nat)(a b:List Rat)(X:Nat):Prop:=tz a=a∧tz b=b∧(∀ x ∈ a,Wz X x)∧(∀ x ∈ b,Wz X x)∧1≤X∧Zk K X a b∧(a=[]∨b.length<a.length)∧a.length≤100000∧b.length≤100000
theorem RmI.small{K:Nat}{a b:List Rat}{X:Nat}(h:RmI K a b X):X+1≤K:=h.2.2.2.2.2.1.small
theorem RmI.size{K:Nat}{a b:List Rat}{X:Nat}(h:RmI K a b X)(hb:b≠[]):X+(a.length+1-b.length)*(X+1)≤K:=h.2.2.2.2.2.1.size hb
theorem RmI.next{K:Nat}{a b s r:List Rat}{f:Rat}{X:Nat}(h:RmI K a b X)(hb:b≠[])(hf:0<f)(hd:DvP a b X X s r f):ay (r.map (·*-1))=ay ((bX a b).map (·*-1))∧∃ X',RmI K b (ay (r.map (·*-1))) X':=by
 obtain ⟨h1,h2,h3,h4,h5,h6,h7,h8,h9⟩:=h;obtain ⟨d0,d1,d2,d3,d4,d5,d6,d7⟩:=hd;have hm:tz (r.map (·*-1))=r.map (·*-1):=by rw [nO dZ,d4]
 have hl:(ay (r.map (·*-1))).length=r.length:=by rw [aG,hm,nXl]
 have hbt:tz b≠[]:=by rw [h2];exact hb
 have hpr:Pr (ay (r.map (·*-1))) (bX a b):=((lR _).trans ⟨-1,dZ,fun n=>by rw [bB];grind⟩).trans (pq hbt d0 (Bd.seq s) (by rw [h2];exact d5) d7);obtain ⟨X',g1,g2,g3⟩:=h6.next h2 hb hpr (tY _) zo (d9 (D:=1) (fun x hx=>by
  rw [hm] at hx;obtain ⟨y,hy,rfl⟩:=nYg.1 hx;have hw:=(d3 y hy).neg;rw [show y*-1=-y by grind];exact Fr.one hw) dZ)
 exact ⟨sP (by rw [h2];exact hb) hf (by rw [h2];exact d5) d7,X',h2,bq _,fun x hx=>(h4 x hx).mono g1,g3,zo,g2,Or.inr zo,h9,zo⟩
def KZ(K S n:Nat):Prop:=(S+2)*3 ^ n≤K∨3*(((S+2)*(2*n)+S+2)*(2*n+3))≤K
theorem KZ.small{K S n:Nat}(h:KZ K S n):S+2≤K:=by
 rcases h with h|h
 ·exact nXf (Nat.le_mul_of_pos_right _ (nYn dZ)) h
 ·have:((S+2)*(2*n)+S+2)*1≤((S+2)*(2*n)+S+2)*(2*n+3):=nXg _ zo;omega
theorem KZ.small3{K S n:Nat}(hn:1≤n)(h:KZ K S n):S+2≤K / 3:=by
 rcases h with h|h
 ·have h1:(S+2)*3≤(S+2)*3 ^ n:=nXg _ (by
   have:=nXp (n:=3) dZ hn;omega)
  omega
 ·have:((S+2)*(2*n)+S+2)*1≤((S+2)*(2*n)+S+2)*(2*n+3):=nXg _ zo;omega
end Go.Proofs.YtkcpmclnocmalaaGreat
/- Py6, Py7, Py8 -/
set_option maxRecDepth 8000
set_option maxHeartbeats 8000000
namespace Go.Proofs.YtkcpmclnocmalaaGreat
open Go.RowKit Go.Front Go.Num Stab
attribute [local go_sem] XW.cell XW.frozen
theorem lY(ao:Option Addr)(n cap:Nat)(l:List Rat)(S:Nat)(w:World)(h:bg w ⟨ao,n,cap⟩ l)(hn:n≤1000000)(hS:S≤16777216)(hz:SzL S l) :
  ar 174 [.slice ao n cap] w SH.v (fun x w'=>bg w' x (cI l)):=by
 have HX:=Hi (Ext.refl w);have LP:=Hi h.lin;have hle:=h.le;have hmx:=h.max;have Hlen:=Hi h.len;simp only at hle hmx Hlen;have HSz:=Hi hz;clear h hz;unfold ar;go_enter Tryz.func174,Tryz.ntmps174
 go_wp2_with fail
 refine cM (dS ao n cap l _ (LP.out.can.raw HSz.out zo)) fun x2 w2 hE G2=>?_
 refine mV2 hE ?_ HX LP;clear HX LP;intro HX LP;have hs_w2:=hE.size;obtain ⟨q1,q2⟩:=G2.out;obtain ⟨P,hP⟩:∃ P,P=(tz l).length:=⟨_,rfl⟩;obtain ⟨p,hp⟩:∃ p,p=tz l:=⟨_,rfl⟩;have LQ:Hid (LIn w2 ⟨ao,P,cap⟩ p 0 w.heap.size):=Hi (by rw [hp,q1,hP];exact LP.out.take q2);have HPl:Hid (p.length=P):=Hi (by rw [hp,hP]);have HTZ:Hid (p=tz l):=Hi hp;have HSp:Hid (SzL S p):=Hi (fun x hx=>HSz.out x (by rw [hp,q1] at hx;exact List.mem_of_mem_take hx));have hPn:P≤n:=zo;rw [←hP];clear hP hp q1 q2 G2 HSz Hlen;clear LP;by_cases h0:P=0
 case pos =>
  subst h0;have HV:Hid (cI l=[]):=Hi (by unfold cI;rw [if_pos (by rw [←HTZ.out];exact nXj.1 HPl.out)]);go_wp2
  go_ret
  exact ⟨⟨none,0,0⟩,rfl,HX.out,by rw [HV.out];exact (ct.nil 0 _).can⟩
 obtain ⟨m,rfl⟩:∃ m,P=m+1:=⟨P-1,zo⟩;have hz0:((m:Int)+1 == 0)=false:=by rw [nXs];omega
 have Hne:Hid (tz l≠[]):=Hi (by rw [←HTZ.out];intro h;have:=HPl.out;rw [h] at this;simp at this);have HL:Hid (bL (tz l)=p.getD m 0):=Hi (by unfold bL;rw [←HTZ.out,HPl.out];rfl);have HL0:Hid (p.getD m 0≠0):=Hi (by rw [←HL.out];exact ci Hne.out);obtain ⟨b,off,r,hao,hbl,⟨hc1,hc2,hc3⟩,hPc⟩:=LQ.out.celx (k:=m) zo;obtain ⟨rneg,ra,rn,rc,rb,rm,rd⟩:=r;simp only at hc1 hc2 hc3;have HC:=Hi hPc;clear hPc h0;subst hao;have Zc:Hid (Sz S (p.getD m 0)):=Hi (HSp.out.at (by rw [HPl.out];omega))
 go_upto_region 4 with fail
 refine bv [(12,10)] _ (by simp only [jG,mu,List.push_toArray,List.cons_append,List.nil_append];exact rfl) (by intro c a d v w h;cases d <;> exact h) 12 (fun opIx=>match opIx with
  | 0=>sR (((1:Int):Rat))
  | 7=>.spec (RH) (default) (fun s=>.tuple #[s.v,.int .i64 0]) (fun x w'=>aA w' x (((1:Int):Rat) / p.getD m 0))
  | 11=>.alloc 37 #[.bool false,.slice none 0 0,.slice none 0 0]
  | _=>.quiet) (fun|7=>[0]|_=>[]) kZ kZ kZ (fun w0 he0 hz0 hc0 hf0=>?_)
 replace he0:=Hi he0;simp only [pT];refine qQ ?_;refine wps he0 (fun w1 hW hG=>?_) fun x20=>?_
 ·exact spc [.int .i64 1] Tryz.func63 (bO 1 _ dZ dZ)
 refine qZ ?_;refine wps he0 (fun w1 hW hG=>?_) fun x21=>?_
 ·have g20:=gS (hG 0 dZ);exact spc [x20.v,RH.v ⟨rneg,ra,rn,rc,rb,rm,rd⟩] Tryz.func128 (cx x20 _ _ _ _ (g20.raw (Sz.int dZ) dZ) ((HC.out.ext hW).raw Zc.out zo) HL0.out)
 refine qZ ?_;refine aW rfl rfl (fun w=>by simp [execOp,go_sem,ptr]) (fun b4 hb4 hl4=>?_);refine qZ ?_;refine aq ?_;intro w4 hI;have hE:=he0.out.trans hI.ext;have G20:=gT (hI.facts 0);have G21:=gT (hI.facts 7);have A4:Hid (w4.heap[b4]?=some (.cells #[.bool false,.slice none 0 0,.slice none 0 0] 37 (0,0))):=hI.facts 11;rw [hz0] at hl4;clear hI he0 hz0 hc0 hf0;refine mV2 hE ?_ HX LQ;clear HX LQ;intro HX LQ;have hs_w4:=hE.size;replace b_A4:=bX3 A4;simp only [pD,ptr];clear hc1 hc2 hc3 hbl;have ZI:Hid (Sz (1+S) (((1:Int):Rat) / p.getD m 0)):=Hi ((Sz.int dZ).div Zc.out);have HZ8:Hid (SzL 33554432 p):=Hi (fun x hx=>(HSp.out x hx).mono zo)
 go_upto_region 5 with fail
 refine aN A4.out rfl ?_;intro w5 T;replace HX:=Hi (T.ext HX.out zo);replace LQ:=Hi (LQ.out.put T zo);replace G20:=Hi (G20.out.keep T.keep);replace A4:=Hi (T.bx);replace G21:=Hi (G21.out.keep T.keep);have hs_w5:=nle T.size;have hr_w5:=nle T.size.symm;clear T;replace b_A4:=bX3 A4
 go_wp2_with fail
 refine cM (fx (some ⟨b,off,none⟩) (m+1) cap p x21 (((1:Int):Rat) / p.getD m 0) _ (LQ.out.can.raw HSp.out zo) (G21.out.raw ZI.out zo) zo HZ8.out (ZI.out.mono zo)) fun x6 w6 hE G6=>?_
 refine mV5 hE ?_ HX LQ G20 A4 G21;clear HX LQ G20 A4 G21;intro HX LQ G20 A4 G21;have hs_w6:=hE.size;replace b_A4:=bX3 A4;go_wp2
 go_ret
 exact ⟨x6,rfl,HX.out,by show bg w6 x6 (cI l);unfold cI;rw [if_neg Hne.out,HL.out,←HTZ.out];exact G6.out.can⟩
abbrev QT(x:SH×SH):Value:=.tuple #[x.1.v,x.2.v,.int .i64 0]
def RIn(w:World)(s:SH)(l:List Rat)(N:Nat):Prop:=cN w s l∧(s.n=0∨∃ L o,s.a=some ⟨L,o,none⟩∧L<N)
theorem RIn.of{w:World}{s:SH}{l:List Rat}(h:cN w s l):RIn w s l w.heap.size:=by
 refine ⟨h,?_⟩;obtain ⟨rs,h1,-⟩:=h;rcases h1.at' with h0|⟨b,off,e,hc⟩
 ·exact Or.inl h0
 ·rcases Nat.eq_zero_or_pos s.n with h0|h0
  ·exact Or.inl h0
  ·exact Or.inr ⟨b,off,e,nXq _ _ (hc 0 h0).1⟩
theorem RIn.raw{w:World}{s:SH}{l:List Rat}{N:Nat}(h:RIn w s l N):cN w s l:=h.1
theorem RIn.ext{w w':World}{s:SH}{l:List Rat}{N:Nat}(h:RIn w s l N)(he:Ext w w'):RIn w' s l N:=⟨h.1.ext he,h.2⟩
instance {w w':World} {s:SH} {l:List Rat} {N:Nat}:Go.Front.Mv w w' (RIn w s l N) (RIn w' s l N):=⟨fun e h=>RIn.ext h e⟩

theorem RIn.put{w1 w2:World}{s:SH}{l:List Rat}{N b:Nat}{T:TypeId}{cs:Array Value}(h:RIn w1 s l N)(T2:cT w1 b T cs w2)(hb:N≤b):RIn w2 s l N:=by
 refine ⟨?_,h.2⟩;obtain ⟨⟨rs,h1,h2⟩,h3⟩:=h;refine ⟨rs,⟨h1.len,h1.le,h1.max,?_⟩,h2.rawkeep T2.keep⟩;rcases h1.at' with h0|⟨c,off,e,hc⟩
 ·exact Or.inl h0
 ·rcases h3 with h0|⟨L,o,e2,hL⟩
  ·exact Or.inl h0
  ·have hcb:c≠b:=by
    rw [e] at e2;simp only [Option.some.injEq,Addr.mk.injEq] at e2;omega
   exact Or.inr ⟨c,off,e,fun k hk=>⟨T2.cell hcb (hc k hk).1,T2.cell hcb (hc k hk).2.1,T2.cell hcb (hc k hk).2.2⟩⟩
theorem pz(pa qa:Option Addr)(P pc Q qc:Nat)(p q:List Rat)(S U D E:Nat)(w:World)(hp:cN w ⟨pa,P,pc⟩ p)(hq:bg w ⟨qa,Q,qc⟩ q)(hP:P≤100000)(hQ:Q≤100000)
 (hS:1≤S)(hU:1≤U)(hD:0<D)(hD2:D<W32 ^ S)(hE:0<E)(hE2:E<W32 ^ U)(hpf:∀ x ∈ p,Fr S D x)(hqf:∀ x ∈ q,Fr U E x)(hq0:tz q≠[])(hsz:S+P*(U+1)≤25000000)(hSU:S+U≤8000000) :
  ar 197 [.slice pa P pc,.slice qa Q qc] w QT (fun x w'=>bg w' x.1 (bK p q)∧bg w' x.2 (bX p q)):=by
 have HX:=Hi (Ext.refl w);have LP:=Hi (RIn.of hp);have LQ:=Hi hq.lin;have HPF:=Hi hpf;have HQF:=Hi hqf;have HQ0:=Hi hq0;have HPl:Hid (p.length=P):=Hi hp.len;have HQl:Hid (q.length=Q):=Hi hq.len;clear hp hq hpf hqf hq0;unfold ar;go_enter Tryz.func197,Tryz.ntmps197
 go_wp2_with fail
 refine cM (jz pa P pc p S D _ LP.out.raw zo hS zo hD hD2 HPF.out) fun x1 w1 hE G1=>?_
 refine mV3 hE ?_ HX LP LQ;clear HX LP LQ;intro HX LP LQ;have hs_w1:=hE.size;clear hE;obtain ⟨xs,xa⟩:=x1;have HXS:=Hi G1.out.1;have HXA:=Hi G1.out.2;clear G1;simp only [MT] at *
 go_upto_region 2 with fail
 refine nmA ?_;intro w2 hE B7 hz_w2 hr_w2;refine mV5 hE ?_ HX LP LQ HXS HXA;clear HX LP LQ HXS HXA;intro HX LP LQ HXS HXA;have hs_w2:=hE.size;clear hE;replace b_B7:=bX3 B7
 go_wp2_with fail
 refine cM (jA qa Q qc q U E _ LQ.out.can zo hU zo hE hE2 HQF.out) fun x3 w3 hE G3=>?_
 refine mV6 hE ?_ B7 HX LP LQ HXS HXA;clear B7 HX LP LQ HXS HXA;intro B7 HX LP LQ HXS HXA;have hs_w3:=hE.size;clear hE;replace b_B7:=bX3 B7;obtain ⟨ys,ya⟩:=x3;have HYS:=Hi G3.out.1;have HYA:=Hi G3.out.2;clear G3;simp only [MT] at *
 clear LP;clear LQ
 go_upto_region 3 with fail
 refine nmA ?_;intro w4 hE B9 hz_w4 hr_w4;refine mV6 hE ?_ B7 HX HXS HXA HYS HYA;clear B7 HX HXS HXA HYS HYA;intro B7 HX HXS HXA HYS HYA;have hs_w4:=hE.size;clear hE;replace b_B7:=bX3 B7;replace b_B9:=bX3 B9;obtain ⟨La,hLa,rfl,hra⟩:=HXA.out;obtain ⟨Lb,hLb,rfl,hrb⟩:=HYA.out;have HA:=Hi hra;have HB:=Hi hrb;obtain ⟨N,hN⟩:∃ N,N=(ay p).length:=⟨_,rfl⟩;obtain ⟨m,hm⟩:∃ m,(ay q).length=m+1:=⟨(tz q).length-1,by rw [aG];have:=nYh.2 HQ0.out;omega⟩;have hNP:N≤P:=by rw [hN,aG,←HPl.out];exact aj p
 have hmQ:m+1≤Q:=by rw [←hm,aG,←HQl.out];exact aj q
 have HN:=Hi hN;have HM:=Hi hm;rw [←hN,hm];clear hra hrb hN hm hLa hLb;clear HXA;clear HYA;have hz0:((m:Int)+1 == 0)=false:=by rw [nXs];omega
 have hmul:(N-m)*(U+1)≤P*(U+1):=nXh _ zo
 go_wp2_with fail
 refine cM (kE (some ⟨La,0,none⟩) (some ⟨Lb,0,none⟩) N N m (m+1) (ay p) (ay q) S U _ (HA.out.can HN.out.symm (nXe _) zo) (HB.out.can HM.out (nXe _) zo) (d9 (fun x hx=>HPF.out x (fU hx)) hD) (d9 (fun x hx=>HQF.out x (fU hx)) hE) hS hU (bq p) (bq q) zo zo zo zo) fun x5 w5 hE G5=>?_
 refine mV7 hE ?_ B9 B7 HX HXS HYS HA HB;clear B9 B7 HX HXS HYS HA HB;intro B9 B7 HX HXS HYS HA HB;have hs_w5:=hE.size;clear hE;replace b_B7:=bX3 B7;replace b_B9:=bX3 B9;obtain ⟨ss,rr,ff⟩:=x5;obtain ⟨s,r,f,hdv,h1,h2,h3⟩:=G5.out;have HDv:=Hi hdv;have HS1:=Hi h1.lin;have HR1:=Hi h2.lin;have HF1:=Hi h3;have hw5:w5.heap.size=w5.heap.size:=rfl;clear h1 h2 h3 G5 hdv hw5;simp only [DT] at *
 clear HA;clear HB
 go_upto_region 6 with fail
 refine nmA ?_;intro w6 hE B13 hz_w6 hr_w6;refine mV8 hE ?_ B9 B7 HX HXS HYS HS1 HR1 HF1;clear B9 B7 HX HXS HYS HS1 HR1 HF1;intro B9 B7 HX HXS HYS HS1 HR1 HF1;have hs_w6:=hE.size;clear hE;replace b_B7:=bX3 B7;replace b_B9:=bX3 B9;replace b_B13:=bX3 B13;have ZS:Hid (Sz S (aR p)):=Hi ((iE (fun x hx=>HPF.out x (fU hx))).sz hS hD hD2);have ZU:Hid (Sz U (aR q)):=Hi ((iE (fun x hx=>HQF.out x (fU hx))).sz hU hE hE2);obtain ⟨d0,d1,d2,d3,d4,d5,d6,d7⟩:=HDv.out;have hbb:(N-m)*(U+1)=((ay p).length+1-(ay q).length)*(U+1):=by rw [←HN.out,HM.out,show N+1-(m+1)=N-m by omega]
 have hbb2:((ay p).length+1-(ay q).length)*U≤((ay p).length+1-(ay q).length)*(U+1):=nXg _ zo;have ZF:Hid (Sz 25000001 f):=Hi ((d1.mono zo).sz zo);have ZSS:Hid (SzL 25000000 s):=Hi (fun x hx=>((d2 x hx).mono zo).sz zo);have ZRR:Hid (SzL 25000000 r):=Hi (fun x hx=>((d3 x hx).mono zo).sz zo);have HF0:=Hi d0;have HPL:Hid (tz (s.map (·*(aR p / f / aR q)))=bK p q∧tz (r.map (·*(aR p / f)))=bX p q):=Hi (zt HQ0.out d0 d5 d7);have hsn:ss.n≤1000000:=by have:=HS1.out.len;have h8:=HN.out;omega
 have hrn:rr.n≤1000000:=by have:=HR1.out.len;rw [HM.out] at d5;omega
 clear d0 d1 d2 d3 d4 d5 d6 d7 hbb hbb2 HDv
 go_wp2_with fail
 refine cM (cx xs ff (aR p) f _ (HXS.out.raw ZS.out zo) (HF1.out.raw ZF.out zo) HF0.out) fun x7 w7 hE G7=>?_
 refine mV8 hE ?_ B13 B9 B7 HX HXS HYS HS1 HR1;clear B13 B9 B7 HX HXS HYS HS1 HR1;intro B13 B9 B7 HX HXS HYS HS1 HR1;replace HF1:=mV hE HF1;have hs_w7:=hE.size;clear hE;replace b_B7:=bX3 B7;replace b_B9:=bX3 B9;replace b_B13:=bX3 B13
 go_upto_region 7 with fail
 refine nmA ?_;intro w8 hE B14 hz_w8 hr_w8;refine mV8 hE ?_ G7 B13 B9 B7 HX HXS HYS HS1;clear G7 B13 B9 B7 HX HXS HYS HS1;intro G7 B13 B9 B7 HX HXS HYS HS1;refine mV2 hE ?_ HR1 HF1;clear HR1 HF1;intro HR1 HF1;have hs_w8:=hE.size;clear hE;replace b_B7:=bX3 B7;replace b_B9:=bX3 B9;replace b_B13:=bX3 B13;replace b_B14:=bX3 B14;have Z7:Hid (Sz (S+25000001) (aR p / f)):=Hi (ZS.out.div ZF.out)
 go_wp2_with fail
 refine cM (cx x7 ys (aR p / f) (aR q) _ (G7.out.raw Z7.out zo) (HYS.out.raw ZU.out zo) (o8 HQ0.out)) fun x9 w9 hE G9=>?_
 refine mV8 hE ?_ B14 G7 B13 B9 B7 HX HXS HYS;clear B14 G7 B13 B9 B7 HX HXS HYS;intro B14 G7 B13 B9 B7 HX HXS HYS;refine mV3 hE ?_ HS1 HR1 HF1;clear HS1 HR1 HF1;intro HS1 HR1 HF1;have hs_w9:=hE.size;clear hE;replace b_B7:=bX3 B7;replace b_B9:=bX3 B9;replace b_B13:=bX3 B13;replace b_B14:=bX3 B14
 go_upto_region 8 with fail
 refine nmA ?_;intro w10 hE B16 hz_w10 hr_w10;refine mV8 hE ?_ G9 B14 G7 B13 B9 B7 HX HXS;clear G9 B14 G7 B13 B9 B7 HX HXS;intro G9 B14 G7 B13 B9 B7 HX HXS;refine mV4 hE ?_ HYS HS1 HR1 HF1;clear HYS HS1 HR1 HF1;intro HYS HS1 HR1 HF1;have hs_w10:=hE.size;clear hE;replace b_B7:=bX3 B7;replace b_B9:=bX3 B9;replace b_B13:=bX3 B13;replace b_B14:=bX3 B14;replace b_B16:=bX3 B16;have Z9:Hid (Sz (S+25000001+U) (aR p / f / aR q)):=Hi (Z7.out.div ZU.out);obtain ⟨sa,sn,sc⟩:=ss;obtain ⟨ra,rn,rc⟩:=rr;simp only at hsn hrn;simp only [SH.v];refine wpG 6 (fun opIx=>match opIx with
  | 2=>.spec (SH) (default) (SH.v) (fun x w'=>bg w' x (tz (s.map (·*(aR p / f / aR q)))))
  | 5=>.spec (SH) (default) (SH.v) (fun x w'=>bg w' x (tz (r.map (·*(aR p / f)))))
  | _=>.quiet) (fun _=>[]) fun w0 he0 hz0 hc0 hf0=>?_
 refine wps he0 (fun w1 hW hG=>?_) fun x20=>?_
 ·exact spc [.slice sa sn sc,x9.v] Tryz.func85 ((fx sa sn sc s x9 _ _ ((HS1.out.ext hW).can.raw ZSS.out dZ) ((G9.out.ext hW).raw Z9.out zo) zo (ZSS.out.mono dZ) (Z9.out.mono zo)).weak (fun _ _ _ h=>h.can))
 refine qZ ?_;refine wps he0 (fun w1 hW hG=>?_) fun x21=>?_
 ·exact spc [.slice ra rn rc,x7.v] Tryz.func85 ((fx ra rn rc r x7 _ _ ((HR1.out.ext hW).can.raw ZRR.out dZ) ((G7.out.ext hW).raw Z7.out zo) zo (ZRR.out.mono dZ) (Z7.out.mono zo)).weak (fun _ _ _ h=>h.can))
 refine qZ ?_;refine aq ?_;intro w11 hI;have hE:=he0.out.trans hI.ext;have G20:=gT (hI.facts 2);have G21:=gT (hI.facts 5);clear hI he0 hz0 hc0 hf0;refine mV8 hE ?_ B16 B14 B13 B9 B7 HX HXS HYS;clear B16 B14 B13 B9 B7 HX HXS HYS;intro B16 B14 B13 B9 B7 HX HXS HYS;refine mV5 hE ?_ HF1 HS1 G9 HR1 G7;clear HF1 HS1 G9 HR1 G7;intro HF1 HS1 G9 HR1 G7;have hs_w11:=hE.size;clear hE;replace b_B7:=bX3 B7;replace b_B9:=bX3 B9;replace b_B13:=bX3 B13;replace b_B14:=bX3 B14;replace b_B16:=bX3 B16;simp only [pD];go_wp2;exact nXa (v:=QT (x20,x21)) (by simp [results,Tryz.results197,go_sem,QT]) rfl ⟨(x20,x21),rfl,HX.out,by rw [←HPL.out.1];exact G20.out,by rw [←HPL.out.2];exact G21.out⟩
theorem qX(pa qa:Option Addr)(P pc Q qc:Nat)(p q:List Rat)(S D E:Nat)(w:World)(hp:cN w ⟨pa,P,pc⟩ p)(hq:bg w ⟨qa,Q,qc⟩ q)(hP:P≤100000)(hQ:Q≤100000)
 (hS:1≤S)(hD:0<D)(hD2:D<W32 ^ S)(hE:0<E)(hE2:E<W32 ^ S)(hpf:∀ x ∈ p,Fr S D x)(hqf:∀ x ∈ q,Fr S E x)(K:Nat)(hsz:GZ K S p q)(hK:K≤16777216) :
  ar 138 [.slice pa P pc,.slice qa Q qc] w SH.v (fun x w'=>bg w' x (aV p q)∧GcR K (aV p q)):=by
 have HX:=Hi (Ext.refl w);have LP:=Hi (RIn.of hp);have LQ:=Hi hq.lin;have HPF:=Hi hpf;have HQF:=Hi hqf;obtain ⟨X0,hX0⟩:=GcI.start hS hD hE hpf hqf hsz (by have:=hp.len;simp only at this;omega) (by have:=hq.len;simp only at this;omega);have hSs:S+1≤16777216:=by
  have h1:=hX0.small;obtain ⟨X1,h2,h3⟩:=hsz;have:=h3.small;omega
 have hlp:(ay p).length≤P:=by have:=hp.len;have h2:=aj p;rw [aG];simp only at this;omega
 have hlq:(ay q).length≤Q:=by have:=hq.len;have h2:=aj q;rw [aG];simp only at this;omega
 have HG:=Hi hX0;clear hp hq hpf hqf hsz hX0;unfold ar;go_enter Tryz.func138,Tryz.ntmps138
 go_wp2_with fail
 refine cM (jz pa P pc p S D _ LP.out.raw zo hS zo hD hD2 HPF.out) fun x1 w1 hE G1=>?_
 refine mV3 hE ?_ HX LP LQ;clear HX LP LQ;intro HX LP LQ;have hs_w1:=hE.size;clear hE;obtain ⟨xs,xa⟩:=x1;have HXA:=Hi G1.out.2;clear G1;simp only [MT] at *
 go_upto_region 2 with fail
 refine nmA ?_;intro w2 hE B7 hz_w2 hr_w2;refine mV4 hE ?_ HX LP LQ HXA;clear HX LP LQ HXA;intro HX LP LQ HXA;have hs_w2:=hE.size;clear hE;replace b_B7:=bX3 B7
 go_wp2_with fail
 refine cM (jA qa Q qc q S E _ LQ.out.can zo hS zo hE hE2 HQF.out) fun x3 w3 hE G3=>?_
 refine mV5 hE ?_ B7 HX LP LQ HXA;clear B7 HX LP LQ HXA;intro B7 HX LP LQ HXA;have hs_w3:=hE.size;clear hE;replace b_B7:=bX3 B7;obtain ⟨ys,ya⟩:=x3;have HYA:=Hi G3.out.2;clear G3;simp only [MT] at *
 clear LP;clear LQ
 (try clear b_B7);clear B7
 go_wp2;refine nmA ?_;intro w4 hE B9 hz_w4 hr_w4;refine mV3 hE ?_ HX HXA HYA;clear HX HXA HYA;intro HX HXA HYA;have hs_w4:=hE.size;clear hE;replace b_B9:=bX3 B9;obtain ⟨La,hLa,rfl,hra⟩:=HXA.out;obtain ⟨Lb,hLb,rfl,hrb⟩:=HYA.out;have HA:=Hi (hra.can rfl (nXe _) zo);have HB:=Hi (hrb.can rfl (nXe _) zo);clear hra hrb hLa hLb HXA HYA B9 b_B9
 go_loopg [6,8] (ay q).length (fun g u v wr=>∃ (x y:SH) (a b:List Rat) (X:Nat),u=x.v∧v=y.v∧b.length≤g∧Ext w wr∧bg wr x a∧bg wr y b∧GcI K p q a b X)
 case atStart=>exact ⟨_,_,_,_,X0,rfl,rfl,nXe _,HX.out,HA.out,HB.out,HG.out⟩
 case round =>
  obtain ⟨⟨xa,xn,xc⟩,⟨ya,yn,yc⟩,a,b,X,rfl,rfl,hg,g1,g2,g3,g4⟩:=hrel;clear HX HA HB HG;have HX:=Hi g1;have LA:=Hi g2.lin;have LB:=Hi g3.lin;have HG:=Hi g4;have hxl:=g2.len;have hyl:=g3.len;simp only at hxl hyl;clear g1 g2 g3 g4;simp only [SH.v];by_cases h0:yn=0
  case pos =>
   subst h0;have hb:b=[]:=nXj.1 hyl;have HV:Hid (aV p q=cI a):=Hi (by have:=HG.out.2.2.2.2.2.2.1;rw [hb] at this;exact this.symm);have HZ:Hid (SzL X a):=Hi (fun x hx=>(HG.out.2.2.1 x hx).sz HG.out.2.2.2.2.1);have hXs:=HG.out.small;have han:=HG.out.2.2.2.2.2.2.2.1
   go_wp2_with fail
   refine cM (lY xa xn xc a X _ LA.out.can zo zo HZ.out) fun x2 w2 hE G2=>?_
   refine mV3 hE ?_ HX LA LB;clear HX LA LB;intro HX LA LB;have hs_w2:=hE.size;clear hE;go_wp2
   go_ret
   exact ⟨x2,rfl,HX.out,by rw [HV.out];exact G2.out,HG.out.done hb⟩
  obtain ⟨m,rfl⟩:∃ m,yn=m+1:=⟨yn-1,zo⟩;have hpos:(0:Int)<(m:Int)+1:=zo;have Hb0:Hid (b≠[]):=Hi (by intro h;rw [h] at hyl;simp at hyl);obtain ⟨e1,e2,e3,e4,e5,e6,e7,e8,e9⟩:=HG.out;have hsz2:=HG.out.size Hb0.out;have hsz3:X+(xn-m)*(X+1)≤K:=by rw [hxl,hyl,show xn+1-(m+1)=xn-m by omega] at hsz2;exact hsz2
  have hXs:=HG.out.small
  go_wp2_with fail
  refine cM (kE xa ya xn xc m yc a b X X _ LA.out.can LB.out.can e3 e4 e5 e5 e1 e2 zo zo zo zo) fun x4 w4 hE G4=>?_
  refine mV3 hE ?_ HX LA LB;clear HX LA LB;intro HX LA LB;have hs_w4:=hE.size;clear hE;obtain ⟨ss,⟨ra,rn,rc⟩,ff⟩:=x4;obtain ⟨s,r,f,hdv,h1,h2,h3⟩:=G4.out;obtain ⟨X2,hnx⟩:=HG.out.next Hb0.out hdv;have HNX:=Hi hnx;clear hnx;obtain ⟨d0,d1,d2,d3,d4,d5,d6,d7⟩:=hdv;have hrl:=h2.len;simp only at hrl;have HR1:=Hi h2.lin;have HRF:Hid (∀ x ∈ r,Fr (X+(a.length+1-b.length)*(X+1)) 1 x):=Hi (fun x hx=>by
   have hw:=d3 x hx;have e1:x*((1:Nat):Rat)=x:=Rat.mul_one x;unfold Fr;rw [e1];exact hw)
  have hsr:(ay r).length<b.length:=by rw [aG,d4];exact d5
  have hX1:1≤X+(a.length+1-b.length)*(X+1):=zo;have hW1:1<W32 ^ (X+(a.length+1-b.length)*(X+1)):=Nat.one_lt_pow zo dZ;have HLM:Hid (b.length=m+1):=Hi hyl;clear h1 h2 h3 G4 d0 d1 d2 d3 d4 d6 d7 e1 e2 e3 e4 e6 e7 hsz3;simp only [DT] at *
  go_upto_region 5 with fail
  refine nmA ?_;intro w5 hE B11 hz_w5 hr_w5;refine mV4 hE ?_ HX LA LB HR1;clear HX LA LB HR1;intro HX LA LB HR1;have hs_w5:=hE.size;clear hE;replace b_B11:=bX3 B11
  go_wp2_with fail
  refine cM (jA ra rn rc r (X+(a.length+1-b.length)*(X+1)) 1 _ HR1.out.can zo hX1 zo dZ hW1 HRF.out) fun x6 w6 hE G6=>?_
  refine mV5 hE ?_ B11 HX LA LB HR1;clear B11 HX LA LB HR1;intro B11 HX LA LB HR1;have hs_w6:=hE.size;clear hE;replace b_B11:=bX3 B11;obtain ⟨zs,za⟩:=x6;obtain ⟨Lz,hLz,hz,hrz⟩:=G6.out.2;have HZ:=Hi (hrz.can rfl (nXe _) zo);clear G6 hrz hLz;simp only [MT] at *
  subst hz;go_wp2
  go_roundg (gk-1)
  case measure=>omega
  case rel=>exact ⟨⟨ya,m+1,yc⟩,_,b,ay r,_,rfl,rfl,zo,HX.out,LB.out.can,HZ.out,HNX.out⟩
theorem qY(pa qa:Option Addr)(P pc Q qc:Nat)(p q:List Rat)(S D E:Nat)(w:World)(hp:bg w ⟨pa,P,pc⟩ p)(hq:bg w ⟨qa,Q,qc⟩ q)(hP:P≤100000)(hQ:Q≤100000)
 (hS:1≤S)(hD:0<D)(hD2:D<W32 ^ S)(hE:0<E)(hE2:E<W32 ^ S)(hpf:∀ x ∈ p,Fr S D x)(hqf:∀ x ∈ q,Fr S E x)(K:Nat)(hsz:GZ K S p q)(hK:K≤16777216) :
  ar 138 [.slice pa P pc,.slice qa Q qc] w SH.v (fun x w'=>bg w' x (aV p q)∧GcR K (aV p q)) :=
 qX pa qa P pc Q qc p q S D E w (hp.raw (ck hS hD hD2 hpf) (by obtain ⟨X1,h2,h3⟩:=hsz;have:=h3.small;omega)) hq hP hQ hS hD hD2 hE hE2 hpf hqf K hsz hK
end Go.Proofs.YtkcpmclnocmalaaGreat
