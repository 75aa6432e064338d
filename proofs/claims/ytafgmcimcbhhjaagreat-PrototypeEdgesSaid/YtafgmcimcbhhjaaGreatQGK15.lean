/- Package dspcompilerref06: the members of its chain and their sizes. Plain facts. -/
import Derived.Test.YtafgmcimcbhhjaaGreatQGK14
import Derived.Test.YtafgmcimcbhhjaaGreatQGK13
import Derived.Test.YtafgmcimcbhhjaaGreatQGK1
import Derived.Test.YtafgmcimcbhhjaaGreatQGK10
import Derived.Test.YtafgmcimcbhhjaaGreatQGK2
import Derived.Test.YtafgmcimcbhhjaaGreatQGK4
import Derived.Test.YtafgmcimcbhhjaaGreatQGK6
set_option linter.unusedVariables false
namespace Go.Proofs.YtafgmcimcbhhjaaGreat
open Go.RowKit Go.Front Go.Num Stab Sg
theorem tD{T:Nat}{x:Rat}(h:Sz T x):Fr T x.den x:=by
 refine Fr.int (z:=x.num) h.1 ?_;exact low x
theorem Bs{S D T:Nat}{l:List Rat}{x:Rat}(hl:FrL S D l)(hx:Sz T x):∀ j k,k+j=l.length→Fr (S+j*(T+1)) (D*x.den ^ j) (evV (l.drop k) x):=by
 intro j;induction j with
 | zero =>
  intro k hk;rw [List.drop_eq_nil_of_le (by omega)];exact Fr.zero _ _
 | succ j ih =>
  intro k hk;rw [nt l x (by omega)];have h1:=(ih (k+1) (by omega)).mul (tD hx);have hd:x.den ^ (j+1)≤W32 ^ (T*(j+1)):=by
   rw [Nat.pow_mul];exact Nat.pow_le_pow_left (nYj hx.2) _
  have h2:=(hl.at k).up (E:=x.den ^ (j+1)) hd (nYk x.den_pos);rw [Nat.mul_assoc,←nXs] at h1;have e1:j*(T+1)=j*T+j:=Nat.mul_succ _ _;have e2:(j+1)*(T+1)=j*T+j+(T+1):=by rw [nXx,e1]
  have e3:T*(j+1)=j*T+T:=by rw [Nat.mul_succ,nYc]
  refine ((h1.mono (S':=S+j*T+j+T) (by omega)).add (h2.mono (by omega))).mono (by omega)
theorem Br{S D T:Nat}{l:List Rat}{x:Rat}(hl:FrL S D l)(hx:Sz T x)(hS:1≤S)(hD:0<D)(hD2:D<W32 ^ S)(k:Nat):Sz (S+l.length*(T+1)) (evV (l.drop k) x):=by
 rcases Nat.lt_or_ge l.length k with h|h
 ·rw [List.drop_eq_nil_of_le (by omega)];exact (Sz.int (z:=0) (by decide)).mono (by omega)
 ·have h1:=Bs hl hx (l.length-k) k (by omega);have hm:(l.length-k)*(T+1)≤l.length*(T+1):=nXg _ (by omega);refine (h1.sz (by omega) (Nat.mul_pos hD (nYk x.den_pos)) ?_).mono (by omega);have hd:x.den ^ (l.length-k)≤W32 ^ ((l.length-k)*(T+1)):=by
   rw [nYc,Nat.pow_mul];refine Nat.pow_le_pow_left (nXe (nYj hx.2) (nXo aB (by omega))) _
  rw [Nat.pow_add];exact Nat.mul_lt_mul_of_lt_of_le hD2 hd (nYk aB)
end Go.Proofs.YtafgmcimcbhhjaaGreat
/- Derivative of the reference's polynomials. -/
namespace Go.Proofs.YtafgmcimcbhhjaaGreat
open Go.RowKit Go.Front Go.Num Stab Sg
attribute [local go_sem] XW.cell XW.frozen
end Go.Proofs.YtafgmcimcbhhjaaGreat
/- Eval of the reference's polynomials, of any form. -/
namespace Go.Proofs.YtafgmcimcbhhjaaGreat
open Go.RowKit Go.Front Go.Num Stab
attribute [local go_sem] XW.cell XW.frozen
end Go.Proofs.YtafgmcimcbhhjaaGreat
/- roots, Count, Positive of package dspcompilerref06; Squarefree of dspcompilerref05. -/
namespace Go.Proofs.YtafgmcimcbhhjaaGreat
open Go.RowKit Go.Front Go.Num Stab Sg
attribute [local go_sem] XW.cell XW.frozen
def Fn(A:Prop):Prop:=Unit→A
def uM(l:List Rat)(a b:Rat):Bool:=if tz l=[] then false else decide (As (tz l) (loV a b) (hiV a b)=0∧0<Sg.sg (evV l a))
end Go.Proofs.YtafgmcimcbhhjaaGreat
/- Count and Positive of package sturm and of the reference are the same. Plain facts. -/
namespace Go.Proofs.YtafgmcimcbhhjaaGreat.Sg
open Go.RowKit Go.Front Go.Num Go.Stab Go.Proofs.YtafgmcimcbhhjaaGreat
/-! ## Chains of -p -/
def ng(l:List Rat):List Rat:=l.map (·*-1)
theorem iE(l:List Rat)(n:Nat):seq (ng l) n=seq l n*-1:=aU l (-1) n
theorem mY{l:List Rat}:ng l=[]↔l=[]:=List.map_eq_nil_iff
theorem xB(l:List Rat):(ng l).length=l.length:=nXk ..
theorem yM(l:List Rat):tz (ng l)=ng (tz l):=ii (c:=-1) (by decide) l
theorem pf(b:Rat):(b*-1).abs=b.abs:=by
 unfold Rat.abs;split <;> split <;> grind
theorem xK(b:Rat):(b*-1)⁻¹=b⁻¹*-1:=by
 by_cases h:b=0
 ·subst h;decide +kernel
 ·have h1:=nYh b h;have h2:=nYh (b*-1) (fun e=>h (by grind));generalize (b*-1)⁻¹=x at *
  generalize b⁻¹=y at *
  have:x=x*(b*y):=by rw [h1,Rat.mul_one]
  rw [this];have h3:x*(b*y)=(b*-1*x)*(y*-1):=by grind
  rw [h3,h2,Rat.one_mul]
theorem yH(a b:Rat):ft a (b*-1)=ft a b:=by
 unfold ft;by_cases ha:a=0
 ·rw [if_pos ha,if_pos ha,pf]
 ·rw [if_neg ha,if_neg ha];by_cases hb:b=0
  ·rw [if_pos hb,if_pos (by rw [hb];grind)]
  ·have e1:a / (b*-1)=-(a / b):=by
    rw [Rat.div_def,Rat.div_def,xK];grind
   rw [if_neg hb,if_neg (fun e=>hb (by grind)),e1,Rat.neg_num,Rat.intCast_neg];rw [show a / -(((a / b).num:Int):Rat)=a / (((a / b).num:Int):Rat)*-1 from by rw [Rat.div_def,show -(((a / b).num:Int):Rat)=(((a / b).num:Int):Rat)*-1 by grind,xK,Rat.div_def];grind,pf]
theorem yW(l:List Rat):aW (ng l)=aW l:=by
 unfold aW ng
 suffices ∀ m,List.foldl ft m (l.map (·*-1))=List.foldl ft m l from this 0
 induction l with
 | nil=>intro m;rfl
 | cons x l ih=>intro m;rw [List.map_cons,List.foldl_cons,List.foldl_cons,yH];exact ih _
theorem rU(p:List Rat):ax (ng p)=ng (ax p):=by
 unfold ax aK;rw [yM,yW];unfold ng;rw [List.map_map,List.map_map];exact List.map_congr_left fun x _=>by show x*-1 / _=x / _*-1;rw [Rat.div_def,Rat.div_def];grind
theorem CB(l:List Rat)(x:Rat):evV (ng l) x=evV l x*-1:=(bG l (-1) x).trans (nYa ..)
theorem yN{a b:List Rat}(hb:tz b≠[]):ax (ng (bS (ng a) (ng b)))=ng (ax (ng (bS a b))):=by
 obtain ⟨h1,-,-,h4⟩:=cx a hb;have hb2:tz (ng b)≠[]:=by rw [yM];exact fun h=>hb (mY.1 h)
 have h5:=(gi (p:=ng a) (q:=ng b) hb2 (s:=seq (bA a b)) (r:=seq (ng (bS a b))) (F:=1) (N:=(bA a b).length) (Bd.seq _) (fun i hi=>by rw [iE,Bd.seq _ i (by rw [yM,xB] at hi;omega),nXy]) (fun n=>by
  have hs:seq (ng b)=fun i=>-1*seq b i:=funext fun i=>by rw [iE];grind
  rw [Rat.one_mul,iE,iE,h4 n,hs,eH _ (fun i=>-1*seq b i),eR,eH];grind)).2
 have h6:ax (ng (bS (ng a) (ng b)))=ax (ng (ng (bS a b))):=ce (c:=1) (by decide) (fun n=>by rw [iE,iE,h5 n];grind);rw [h6,rU (ng (bS a b))]
theorem xR:∀ (n:Nat) (a b:List Rat),tz b=b→chn n (ng a) (ng b)=(chn n a b).map ng
 | 0,_,_,_=>rfl
 | n+1,a,b,hb=>by
  unfold chn;by_cases h1:a=[]
  ·rw [if_pos h1,if_pos (mY.2 h1)];rfl
  ·rw [if_neg h1,if_neg (fun h=>h1 (mY.1 h))];by_cases h2:b=[]
   ·rw [if_pos h2,if_pos (mY.2 h2)];rfl
   ·rw [if_neg h2,if_neg (fun h=>h2 (mY.1 h)),List.map_cons];have h3:=yN (a:=a) (b:=b) (by rw [hb];exact h2);have h4:=xR n b (ax (ng (bS a b))) (bt _);show ng a :: chn n (ng b) (ax (ng (bS (ng a) (ng b))))=_;rw [h3,h4];rfl
theorem rE:∀ (l:List Int) (a:Int),vr (-a) (l.map (fun s=>-s))=vr a l
 | [],_=>rfl
 | s :: l,a=>by
  rw [List.map_cons];unfold vr;by_cases h:s=0
  ·rw [if_pos h,if_pos (by omega)];exact rE l a
  ·rw [if_neg h,if_neg (by omega),rE l s]
   congr 1
   by_cases h2:a≠0∧s≠a
   ·rw [if_pos h2,if_pos (by omega)]
   ·rw [if_neg h2,if_neg (by omega)]
theorem Aw(l:List (List Rat))(x:Rat):iS (l.map ng) x=iS l x:=by
 unfold iS;rw [List.map_map,show (fun m=>sg (evV m x)) ∘ ng=fun m=>-(sg (evV m x)) from funext fun m=>by show sg (evV (ng m) x)=_;rw [CB,jf];show _*(-1:Int)=_;omega];rw [show (l.map fun m=>-(sg (evV m x)))=(l.map fun m=>sg (evV m x)).map (fun s=>-s) by rw [List.map_map];rfl];exact rE _ 0
theorem qi:∀ (n m:Nat) (a b:List Rat),tz b=b→b.length≤n→b.length≤m→chn (n+1) a b=chn (m+1) a b
 | n,m,a,b,hb,h1,h2=>by
  rw [chn,chn];by_cases h3:a=[]
  ·rw [if_pos h3,if_pos h3]
  ·rw [if_neg h3,if_neg h3];by_cases h4:b=[]
   ·rw [if_pos h4,if_pos h4]
   ·rw [if_neg h4,if_neg h4];have h5:=nYe.2 h4;obtain ⟨n',rfl⟩:∃ k,n=k+1:=⟨n-1,by omega⟩;obtain ⟨m',rfl⟩:∃ k,m=k+1:=⟨m-1,by omega⟩;have h6:=lL a b (by rw [hb];exact h4);rw [hb] at h6;rw [qi n' m' b _ (bt _) (by omega) (by omega)]
 termination_by n=>n
theorem xQ(p:List Rat):(ax (derL p)).length≤p.length:=by
 by_cases h:tz p=[]
 ·have:tz (derL p)=[]:=xg (b:=[]) (fun i=>by
   show seq (derL p) i=_;rw [seq_derL,←aS p,h];show _*(0:Rat)=0;rw [nXz])
  rw [cF.2 this];exact Nat.zero_le _
 ·rw [aD];obtain ⟨n,hn,-⟩:=eQ h;have:=gQ p n hn;have:=ah p;omega
theorem rems_same{a b:List Rat}{c:Rat}(hc:0<c)(h:∀ n,seq b n=seq a n*c):remsV b=remsV a:=by
 have h1:ax b=ax a:=ce hc h;have h2:ax (derL b)=ax (derL a):=ce hc (fun n=>by rw [seq_derL,seq_derL,h,nYb]);unfold remsV;rw [h1,h2];exact qi _ _ _ _ (bt _) (by rw [←h2];exact xQ b) (xQ a)
theorem yr(p:List Rat):remsV (ng p)=(remsV p).map ng:=by
 have h2:ax (derL (ng p))=ng (ax (derL p)):=by
  rw [←rU];exact ce (c:=1) (by decide) (fun n=>by rw [iE,seq_derL,seq_derL,iE];grind)
 unfold remsV;rw [rU,h2,xB];exact xR _ _ _ (bt _)
theorem mC{a b:List Rat}{c:Rat}(hc:c≠0)(h:∀ n,seq b n=seq a n*c)(x:Rat):iS (remsV b) x=iS (remsV a) x:=by
 by_cases h1:0<c
 ·rw [rems_same h1 h]
 ·rw [rems_same (a:=ng a) (c:=-c) (by grind) (fun n=>by rw [iE,h n];grind),yr,Aw]
theorem qx{a b:List Rat}(h:∀ x,evV a x*evV b x=1):∃ c:Rat,c≠0∧∀ x,evV b x=c:=by
 have ha:tz a≠[]:=fun h0=>by have:=h 0;rw [ev_tznil.1 h0,nXy] at this;exact absurd this (by decide)
 have hb:tz b≠[]:=fun h0=>by have:=h 0;rw [ev_tznil.1 h0,nXz] at this;exact absurd this (by decide)
 have h1:∀ x,evV (ar a b) x=evV [1] x:=fun x=>by rw [aI,h x];show (1:Rat)=0*x+1;grind
 have h2:=de h1;have h3:=kh ha hb;have h4:ln [1]=1:=by decide
 have h5:=eA ha;have h6:=eA hb;have h7:(tz b).length=1:=by show ln b=1;omega
 obtain ⟨c,hc⟩:=List.length_eq_one_iff.1 h7;have h8:∀ x,evV b x=c:=fun x=>by rw [←tF b,hc];show 0*x+c=c;grind
 exact ⟨c,fun h0=>by have:=h 0;rw [h8,h0,nXz] at this;exact absurd this (by decide),h8⟩
theorem yk{p:List Rat}(h:tz p≠[])(h1:Rt p p):∃ c:Rat,c≠0∧∀ n,seq (sqfV p) n=seq p n*c:=by
 obtain ⟨g1,q1,⟨a1,rfl⟩,-,⟨-,-,u,v,⟨bu,rfl⟩,⟨bv,rfl⟩,h4⟩,h2,-⟩:=h1.dv;obtain ⟨g2,q2,⟨a2,rfl⟩,-,⟨⟨k1,⟨b1,rfl⟩,h5⟩,⟨k2,⟨b2,rfl⟩,h6⟩,-⟩,h3,-⟩:=(kK h).dv;have e1:∀ x,evV a1 x=1:=by
  have i1:∀ x,evV (ar (subV a1 [1]) p) x=0:=fun x=>by
   rw [aI,em];show (evV a1 x-(0*x+1))*evV p x=0;have:=h2 x;grind
  have i2:=ev_tznil.2 i1;have i3:tz (subV a1 [1])=[]:=Classical.byContradiction fun hn=>by
   have h7:=kh hn h;have h8:=eA hn;have h9:=eA h;have h0:ln (ar (subV a1 [1]) p)=0:=by show (tz _).length=0;rw [i2];rfl
   omega
  intro x;have h7:=ev_tznil.1 i3 x;rw [em] at h7;have h8:evV [1] x=1:=by show 0*x+1=(1:Rat);grind
  rw [h8] at h7;grind
 obtain ⟨c,hc,h7⟩:=qx (a:=bg (ar bu b1) (ar bv b2)) (b:=a2) (fun x=>by
  have i1:=h4 x;rw [e1 x,h5 x,h6 x] at i1;rw [ev_add5,aI,aI];grind)
 refine ⟨c⁻¹,fun h0=>by have k:=nYh c hc;rw [h0,nXz] at k;exact absurd k (by decide),fun n=>?_⟩;rw [←aU];refine iN (fun x=>?_) n;rw [bG,h3 x,h7 x,←nYb,Rat.inv_mul_cancel c hc,Rat.one_mul]
theorem BQ{p:List Rat}(h:tz p≠[])(lo hi:Rat):cntV p lo hi=As p lo hi:=by
 have hd:∀ (r:List Rat),tz r≠[]→(rtV (remsV r) lo=true↔sg (evV r lo)=0):=fun r hr=>by
  obtain ⟨l,hl⟩:=mO hr;unfold rtV;rw [hl,decide_eq_true_eq];show sg (evV (ax r) lo)=0↔_;rw [nS]
 have hne:=(kK h).ne;unfold cntV As;rw [jz,jz];by_cases hr:2≤((remsV p).getLast?.getD []).length
 ·have e:rootV p=sqfV p:=by unfold rootV;rw [if_pos hr]
  rw [e];by_cases h0:sg (evV (sqfV p) lo)=0
  ·rw [if_pos h0,if_pos ((hd _ hne).2 h0)]
  ·rw [if_neg h0,if_neg (fun k=>h0 ((hd _ hne).1 k))]
 ·have e:rootV p=p:=by unfold rootV;rw [if_neg hr]
  have hrt:=si h;rw [e] at hrt ⊢;obtain ⟨c,hc,h1⟩:=yk h hrt;rw [mC hc h1,mC hc h1];have h2:evV (sqfV p) lo=c*evV p lo:=gG (fun n=>by rw [h1 n,nYa]) lo;by_cases h0:sg (evV p lo)=0
  ·rw [if_pos ((hd _ h).2 h0),if_pos (by rw [h2,jf,h0,Int.mul_zero])]
  ·rw [if_neg (fun k=>h0 ((hd _ h).1 k)),if_neg (fun k=>by
    rw [h2,jf] at k;rcases Int.mul_eq_zero.1 k with k|k
    ·exact hc (o4.1 k)
    ·exact h0 k)]
theorem pos_eq{p:List Rat}{lo hi:Rat}(hlh:lo≤hi):posV (tz p) lo hi=uM p lo hi:=by
 unfold posV uM;rw [bs];by_cases h:tz p=[]
 ·rw [if_pos h,if_pos h]
 ·rw [if_neg h,if_neg h,vW hlh,wo hlh,nS,tF];by_cases h1:sg (evV p lo)≤0
  ·rw [if_pos h1,decide_eq_false (fun k=>by have:=k.2;omega)]
  ·rw [if_neg h1,BQ (by rw [bs];exact h)];by_cases h2:As (tz p) lo hi=0
   ·rw [decide_eq_true h2,decide_eq_true ⟨h2,by omega⟩]
   ·rw [decide_eq_false h2,decide_eq_false (fun k=>h2 k.1)]
end Go.Proofs.YtafgmcimcbhhjaaGreat.Sg
/- Positive for lists of any form. -/
namespace Go.Proofs.YtafgmcimcbhhjaaGreat
open Go.RowKit Go.Front Go.Num Stab
attribute [local go_sem] XW.cell XW.frozen
theorem sk(p:List Rat):Sg.remsV (tz p)=Sg.remsV p :=
 (Sg.rems_same (c:=1) (by decide) (fun n=>by rw [aS,Rat.mul_one])).symm
theorem yT(p:List Rat):cj (tz p)=cj p:=Pr.mon ⟨1,by decide,fun n=>by rw [aS,Rat.one_mul]⟩
theorem xi(p:List Rat):Sg.sqfV (tz p)=Sg.sqfV p:=by
 have hd:tz (Sg.derL (tz p))=tz (Sg.derL p):=jZ (fun n=>by rw [Sg.seq_derL,Sg.seq_derL,aS]);have hg:dm (tz p) (Sg.derL (tz p))=dm p (Sg.derL p):=by
  rw [←mi,hd,mi];unfold dm;rw [yT]
 have hq:bA (tz p) (dm p (Sg.derL p))=bA p (dm p (Sg.derL p)):=by unfold bA;rw [bs]
 unfold Sg.sqfV;rw [hg,hq]
theorem BP(p:List Rat)(lo hi:Rat):Sg.cntV (tz p) lo hi=Sg.cntV p lo hi:=by
 have h:Sg.remsV (Sg.rootV (tz p))=Sg.remsV (Sg.rootV p):=by
  unfold Sg.rootV;rw [sk,xi];split
  ·rfl
  ·exact sk p
 unfold Sg.cntV;rw [h]
theorem AW(p:List Rat)(lo hi:Rat):Sg.posV (tz p) lo hi=Sg.posV p lo hi:=by
 unfold Sg.posV;rw [bs,rS,BP]
theorem yz{p:List Rat}{lo hi:Rat}(h:lo≤hi):Sg.posV p lo hi=uM p lo hi:=by rw [←AW,Sg.pos_eq h]
open Sg
set_option maxRecDepth 8000 in
set_option maxHeartbeats 8000000 in
theorem uW(pa:Option Addr)(P pc:Nat)(p:List Rat)(K:Nat)(s t:RH)(a b:Rat)(T:Nat)(w:World)(h:dk w ⟨pa,P,pc⟩ p)(hP:P≤49)(hk:FrK K p)(hkq:FrK K (sqfV p))(hK:K≤12000000)(hK2:(P+1)*(K / 3)≤25000000)
 (hs:aY w s a)(ht:aY w t b)(za:Sz T a)(zb:Sz T b)(hT:1≤T)(hT3:T≤1000) :
  aq 27 [.slice pa P pc,IvV (s,t)] w (fun _:Unit=>.tuple #[.bool (posV p (loV a b) (hiV a b)),.int .i64 0]) (fun _ _=>True):=by
 obtain ⟨sn,sa,sl,sc,sb,sm,sd⟩:=s;obtain ⟨tn,ta,tl,tc,tb,tm,td⟩:=t;have HX:=Hi (Ext.refl w);have LP:=Hi (RIn.of h);have HS:=Hi hs;have HT:=Hi ht;have hlen:=h.len;simp only at hlen;have HKp:=Hi hk;have HKs:=Hi hkq;obtain ⟨S,D,hS,hD,hDW,hF,hSK⟩:=hk;have hSs:=KZ.small hSK;have HF:=Hi hF;have HSW:Hid (∀ y ∈ ax p,Wz S y):=Hi (dN (fun x hx=>hF x (gF hx)) hD);have HSl:Hid ((ax p).length≤P):=Hi (by rw [aD,←hlen];exact ah p);have ZA:Hid (Sz T (loV a b)):=Hi (by rcases Bf a b with e|e <;> rw [e] <;> assumption);have ZB:Hid (Sz T (hiV a b)):=Hi (by rcases Bk a b with e|e <;> rw [e] <;> assumption);have HLH:Hid (loV (loV a b) (hiV a b)=loV a b∧hiV (loV a b) (hiV a b)=hiV a b):=Hi ⟨vW (Bg a b),wo (Bg a b)⟩;obtain ⟨lo,hlo⟩:∃ lo,lo=loV a b:=⟨_,rfl⟩;obtain ⟨hi,hhi⟩:∃ hi,hi=hiV a b:=⟨_,rfl⟩;rw [←hlo] at ZA;rw [←hhi] at ZB;rw [←hlo,←hhi] at HLH;have HLO:=Hi hlo;have HHI:=Hi hhi;have HLn:=Hi hlen;rw [←hlo,←hhi];clear h hs ht hkq za zb hlo hhi hF hSK hlen;unfold aq;go_enter Tryz.func27,Tryz.ntmps27
 go_upto_region 1 with fail
 refine nmA ?_;intro w1 hE B3 hz_w1 hr_w1;refine mV4 hE ?_ HX LP HS HT;clear HX LP HS HT;intro HX LP HS HT;have hs_w1:=hE.size;clear hE;replace b_B3:=bX3 B3
 go_wp2_with fail
 refine cM (o5 pa P pc p _ LP.out.raw) fun x9 w9 hE _=>?_
 refine mV5 hE ?_ B3 HX LP HS HT;clear B3 HX LP HS HT;intro B3 HX LP HS HT;have hs_w9:=hE.size;clear hE;replace b_B3:=bX3 B3;by_cases h0:tz p=[]
 case pos =>
  have HE:Hid (posV p lo hi=false):=Hi (by unfold posV;rw [if_pos h0]);have HCk:Hid (rk p=3):=Hi (by unfold rk;rw [if_neg (by rw [h0];decide),if_pos h0]);rw [HCk.out];clear h0;go_wp2;exact bodyPost_ret (v:=.tuple #[.bool (posV p lo hi),.int .i64 0]) (by rw [HE.out];simp [results,Tryz.results27,go_sem]) rfl ⟨(),rfl,HX.out,trivial⟩
 have H0:=Hi h0;rw [BT h0 (by rw [HLn.out];exact hP)];clear h0;have HNV:Hid (posV p lo hi=if Sg.sg (evV (ax p) lo)≤0 then false else decide (cntV p lo hi=0)):=Hi (by
  unfold posV;rw [if_neg H0.out])
 go_wp2_with fail
 refine cM (k7 ⟨sn,sa,sl,sc,sb,sm,sd⟩ ⟨tn,ta,tl,tc,tb,tm,td⟩ a b _ HS.out HT.out) fun x15 w15 hE G15=>?_
 refine mV5 hE ?_ B3 HX LP HS HT;clear B3 HX LP HS HT;intro B3 HX LP HS HT;have hs_w15:=hE.size;clear hE;replace b_B3:=bX3 B3;obtain ⟨⟨ln,la,ll,lc,lb,lm,ld⟩,⟨hn,ha,hl,hc,hb,hm,hd⟩⟩:=x15;rw [←HLO.out,←HHI.out] at G15;have HL:=Hi G15.out.1;have HH:=Hi G15.out.2;clear G15;clear HS;clear HT
 go_upto_region 7 with fail
 refine bN B3.out rfl ?_;intro w16 T;replace HX:=Hi (T.ext HX.out (by omega));replace LP:=Hi (LP.out.put T (by omega));replace B3:=Hi (T.bx);replace HL:=Hi (HL.out.keep T.keep);replace HH:=Hi (HH.out.keep T.keep);have hs_w16:=nle T.size;have hr_w16:=nle T.size.symm;clear T;replace b_B3:=bX3 B3;obtain ⟨s1,hs1⟩:∃ s1,s1=Sg.sg (evV (ax p) lo):=⟨_,rfl⟩;have HS1:=Hi hs1;rw [←hs1] at HNV;clear hs1;refine wpG 6 (fun opIx=>match opIx with
  | 1=>.spec (SH) (default) (SH.v) (fun x w'=>An (ax p).length w' x (ax p))
  | 4=>.spec Unit () (fun _=>.int .i64 s1) (fun _ _=>True)
  | _=>.quiet) (fun|4=>[1]|_=>[]) fun w0 he0 hz0 hc0 hf0=>?_
 refine wps he0.out rfl rfl (fun w1 hW hG=>?_) fun x20=>?_
 ·exact spc [.slice pa P pc] Tryz.func77 ((jK pa P pc p S D _ (LP.out.ext hW).raw (by omega) hS (by omega) hD hDW HF.out).wk (fun x w' _ h=>(let ⟨_,_,_,_,h4⟩:=h.lin (by have:=HSl.out;omega);⟨h4.can,h4.len.symm⟩)))
 refine qZ ?_;refine wps he0.out rfl rfl (fun w1 hW hG=>?_) fun x21=>?_
 ·have g20:=(hG 1 (by decide):av _ _).get fun _ e g=>g.ext e
  exact spc [x20.v,RH.v ⟨ln,la,ll,lc,lb,lm,ld⟩] Tryz.func79 ((by rw [HS1.out];exact jJ x20.a x20.n x20.c (ax p) ⟨ln,la,ll,lc,lb,lm,ld⟩ lo S T _ g20.1 (HL.out.ext hW) (by rw [g20.2];have:=HSl.out;omega) HSW.out ZA.out hT hS (by omega) hT3))
 refine qZ ?_;refine ak ?_;intro w17 hI;have hE:=he0.out.trans hI.ext;have G20:=gT (hI.facts 1);clear hI he0 hz0 hc0 hf0;refine mV5 hE ?_ HX B3 HH LP HL;clear HX B3 HH LP HL;intro HX B3 HH LP HL;have hs_w17:=hE.size;clear hE;replace b_B3:=bX3 B3;simp only [pD];clear G20;by_cases hn1:s1≤0
 case pos =>
  have HE:Hid (posV p lo hi=false):=Hi (by rw [HNV.out,if_pos hn1]);go_wp2;exact bodyPost_ret (v:=.tuple #[.bool (posV p lo hi),.int .i64 0]) (by rw [HE.out];simp [results,Tryz.results27,go_sem]) rfl ⟨(),rfl,HX.out,trivial⟩
 rw [if_neg (fun h=>by omega)] at HNV
 go_wp2_with fail
 refine cM (qG pa P pc p K ⟨ln,la,ll,lc,lb,lm,ld⟩ ⟨hn,ha,hl,hc,hb,hm,hd⟩ lo hi T _ LP.out.raw hP H0.out HKp.out hK hK2 HKs.out (HL.out.raw ZA.out (by omega)) (HH.out.raw ZB.out (by omega)) ZA.out ZB.out hT hT3) fun x25 w25 hE _=>?_
 refine mV5 hE ?_ HX B3 HH LP HL;clear HX B3 HH LP HL;intro HX B3 HH LP HL;have hs_w25:=hE.size;clear hE;replace b_B3:=bX3 B3;rw [HLH.out.1,HLH.out.2];obtain ⟨c,hcc⟩:∃ c,c=cntV p lo hi:=⟨_,rfl⟩;rw [←hcc] at HNV ⊢;clear hcc;by_cases hc0:c=0
 ·have HE:Hid (posV p lo hi=true):=Hi (by rw [HNV.out,decide_eq_true hc0]);subst hc0;go_wp2;exact bodyPost_ret (v:=.tuple #[.bool (posV p lo hi),.int .i64 0]) (by rw [HE.out];simp [results,Tryz.results27,go_sem]) rfl ⟨(),rfl,HX.out,trivial⟩
 ·have HE:Hid (posV p lo hi=false):=Hi (by rw [HNV.out,decide_eq_false hc0]);have hcb:(c == 0)=false:=by rw [nXr];exact hc0
  go_wp2;exact bodyPost_ret (v:=.tuple #[.bool (posV p lo hi),.int .i64 0]) (by rw [HE.out];simp [results,Tryz.results27,go_sem]) rfl ⟨(),rfl,HX.out,trivial⟩
end Go.Proofs.YtafgmcimcbhhjaaGreat
/- The divisors of a polynomial with whole coefficients are small: Gauss's lemma, and a polynomial from its values. Plain facts. -/
namespace Go.Proofs.YtafgmcimcbhhjaaGreat.Sg
open Go.RowKit Go.Front Go.Num Go.Stab Go.Proofs.YtafgmcimcbhhjaaGreat Sie
theorem Bc{g a b:Rat}(ha:Mu g a)(hb:Mu g b)(h0:a≠0∨b≠0):Mu g (ft a b):=by
 have habs:∀ {x:Rat},Mu g x→Mu g x.abs:=fun {x} ⟨z,hz,e⟩=>by
  rcases uB x with k|k
  ·exact ⟨z,hz,by rw [k,e]⟩
  ·exact ⟨-z,hz.neg,by rw [k,e];grind⟩
 unfold ft;by_cases ha0:a=0
 ·rw [if_pos ha0];exact habs hb
 ·rw [if_neg ha0];by_cases hb0:b=0
  ·rw [if_pos hb0];exact ha
  ·rw [if_neg hb0];refine habs ?_;obtain ⟨z,hz,rfl⟩:=ha;obtain ⟨y,hy,rfl⟩:=hb;have hg:g≠0:=fun h=>ha0 (by rw [h];grind)
   have hz0:z≠0:=fun h=>ha0 (by rw [h];grind)
   have hy0:y≠0:=fun h=>hb0 (by rw [h];grind)
   have e:z*g / (y*g)=z / y:=mj hg z hy0;rw [e];have h1:=low (z / y);have h2:=aE (a:=z) hy0;have hq0:z / y≠0:=fun h=>hz0 (by rw [←h2,h];grind)
   have hN:=kY hq0;rw [hz.eq,hy.eq] at h1 h2;rw [hz.eq,hy.eq] at hN ⊢;generalize hq:(z.num:Rat) / (y.num:Rat)=q at *
   -- z den=y num
   have h3:z.num*q.den=y.num*q.num:=by
    have:(z.num:Rat)*(q.den:Rat)=(y.num:Rat)*(q.num:Rat):=by rw [←h1,←h2];grind
    have h4:((z.num*q.den:Int):Rat)=((y.num*q.num:Int):Rat):=by
     rw [Rat.intCast_mul,Rat.intCast_mul,Rat.intCast_natCast];exact this
    exact Rat.intCast_inj.1 h4
   have hd:q.num ∣ z.num:=by
    have h4:q.num ∣ z.num*q.den:=⟨y.num,by rw [h3,Int.mul_comm]⟩;have h5:q.num.natAbs ∣ z.num.natAbs*q.den:=by
     have:=Int.natAbs_dvd_natAbs.2 h4
     rwa [Int.natAbs_mul,nYf] at this
    exact Int.natAbs_dvd_natAbs.1 (Nat.Coprime.dvd_of_dvd_mul_right q.reduced h5)
   obtain ⟨k,hk⟩:=hd;refine ⟨(k:Rat),Wh.int k,?_⟩;have h6:=aE (a:=(z.num:Rat)*g) hN;have h7:(z.num:Rat)=(q.num:Rat)*(k:Rat):=by rw [hk,Rat.intCast_mul]
   have h8:((z.num:Rat)*g / (q.num:Rat)-(k:Rat)*g)*(q.num:Rat)=0:=by rw [Rat.sub_eq_add_neg,Rat.add_mul,h6,h7];grind
   rcases nXq.1 h8 with h|h
   ·grind
   ·exact absurd h hN
theorem yS{g:Rat}(l:List Rat)(h:∀ x ∈ l,Mu g x):Mu g (aW l):=by
 induction l using snoc_ind with
 | h0=>exact Mu.zero g
 | h1 l r ih =>
  rw [eh];have h1:=ih (fun x hx=>h x (List.mem_append_left _ hx));have h2:=h r (by simp);by_cases h3:aW l≠0∨r≠0
  ·exact Bc h1 h2 h3
  ·have e1:aW l=0:=Decidable.byContradiction fun h4=>h3 (Or.inl h4)
   have e2:r=0:=Decidable.byContradiction fun h4=>h3 (Or.inr h4)
   rw [e1,e2,qf];exact Mu.zero g
theorem nT(p:List Rat)(i:Nat):seq (ax p) i=(((seq (ax p) i).num:Int):Rat):=by
 rcases Nat.lt_or_ge i (ax p).length with h4|h4
 ·exact (xq p _ (bL h4)).eq
 ·rw [show seq (ax p) i=0 from bC h4];rfl
theorem uX{p:List Rat}(hp:tz p≠[]){t:Int}(h:∀ i,t ∣ (seq (ax p) i).num):t.natAbs=1:=by
 have hm:=bH hp;have h1:Mu ((t:Rat)*aK p) (aK p):=yS (tz p) fun x hx=>by
  obtain ⟨i,hi,rfl⟩:=dE hx;rw [bj];have h2:=cV p i;obtain ⟨k,hk⟩:=h i;have h3:=nT p i;refine ⟨(k:Rat),Wh.int k,?_⟩;show seq p i=_;rw [h2,h3,hk,Rat.intCast_mul];grind
 obtain ⟨z,hz,e⟩:=h1;have h2:z*(t:Rat)=1:=by
  have h3:(z*(t:Rat)-1)*aK p=0:=by grind
  rcases nXq.1 h3 with h|h
  ·grind
  ·rw [h] at hm;exact absurd hm Rat.lt_irrefl
 rw [hz.eq,←Rat.intCast_mul] at h2;have h4:z.num*t=1:=Rat.intCast_inj.1 h2;exact Int.natAbs_dvd_natAbs.2 (⟨z.num,by rw [←h4,Int.mul_comm]⟩:t ∣ 1) |> fun h=>Nat.dvd_one.1 h
theorem s0:∀ N:Nat,2≤N→∃ r,2≤r∧r ∣ N∧∀ x y:Int,(r:Int) ∣ x*y→(r:Int) ∣ x∨(r:Int) ∣ y:=by
 intro N hN;have key:∀ n:Nat,∀ r,2≤r→r≤n→r ∣ N→∃ r,2≤r∧r ∣ N∧∀ d,d ∣ N→2≤d→r≤d:=by
  intro n;induction n with
  | zero=>intro r h1 h2;omega
  | succ n ih =>
   intro r h1 h2 h3;by_cases h4:∃ d,d ∣ N∧2≤d∧d<r
   ·obtain ⟨d,d1,d2,d3⟩:=h4;exact ih d d2 (by omega) d1
   ·exact ⟨r,h1,h3,fun d d1 d2=>Classical.byContradiction fun h5=>h4 ⟨d,d1,d2,by omega⟩⟩
 obtain ⟨r,h1,h2,h3⟩:=key N N hN (nXd N) (Nat.dvd_refl N);refine ⟨r,h1,h2,fun x y h=>?_⟩;have hg:Nat.gcd r x.natAbs=1∨Nat.gcd r x.natAbs=r:=by
  have a1:=Nat.gcd_dvd_left r x.natAbs;have a2:Nat.gcd r x.natAbs ∣ N:=Nat.dvd_trans a1 h2;have a3:=Nat.le_of_dvd (by omega) a1;have a4:0<Nat.gcd r x.natAbs:=Nat.gcd_pos_of_pos_left _ (by omega);rcases Nat.lt_or_ge (Nat.gcd r x.natAbs) 2 with h4|h4
  ·left;omega
  ·right
   have:=h3 _ a2 h4;omega
 have hn:r ∣ x.natAbs*y.natAbs:=by
  have:=Int.natAbs_dvd_natAbs.2 h
  rwa [nYf,Int.natAbs_mul] at this
 rcases hg with h4|h4
 ·right
  exact Int.natAbs_dvd_natAbs.1 (by rw [nYf];exact Nat.Coprime.dvd_of_dvd_mul_left h4 hn)
 ·left
  exact Int.natAbs_dvd_natAbs.1 (by rw [nYf,←h4];exact Nat.gcd_dvd_right _ _)
theorem nl{r:Int}{f:Nat→Int}(h:∃ i,¬ r ∣ f i):∃ i,¬ r ∣ f i∧∀ j,j<i→r ∣ f j:=by
 obtain ⟨i,hi⟩:=h;induction i using Nat.strongRecOn with
 | _ i ih =>
  by_cases h2:∃ j,j<i∧¬ r ∣ f j
  ·obtain ⟨j,h3,h4⟩:=h2;exact ih j h3 h4
  ·exact ⟨i,hi,fun j hj=>Decidable.byContradiction fun h=>h2 ⟨j,hj,h⟩⟩
theorem vZ{r:Int}{n:Nat}{f:Nat→Int}(h:∀ i,i<n→r ∣ f i):r ∣ gV n f:=by
 induction n with
 | zero=>exact ⟨0,by simp [gV]⟩
 | succ n ih=>exact Int.dvd_add (ih fun i hi=>h i (by omega)) (h n (Nat.lt_succ_self n))
theorem v7{r:Int}:∀ {n:Nat} {f:Nat→Int} {k:Nat},k<n→(∀ i,i<n→i≠k→r ∣ f i)→r ∣ gV n f→r ∣ f k:=by
 intro n;induction n with
 | zero=>intro f k h;omega
 | succ n ih =>
  intro f k hk h hs;have hs':r ∣ gV n f+f n:=hs;by_cases h1:k=n
  ·subst h1;exact (Int.dvd_add_right (vZ fun i hi=>h i (by omega) (by omega))).1 hs'
  ·exact ih (by omega) (fun i hi hne=>h i (by omega) hne) ((Int.dvd_add_left (h n (Nat.lt_succ_self n) (by omega))).1 hs')
theorem Cy{r:Nat}(hr:∀ x y:Int,(r:Int) ∣ x*y→(r:Int) ∣ x∨(r:Int) ∣ y){f g:Nat→Int}(hf:∃ i,¬ (r:Int) ∣ f i)(hg:∃ i,¬ (r:Int) ∣ g i):∃ n,¬ (r:Int) ∣ gV (n+1) (fun i=>f i*g (n-i)):=by
 obtain ⟨a,ha,ha2⟩:=nl hf;obtain ⟨b,hb,hb2⟩:=nl hg;refine ⟨a+b,fun h=>?_⟩;have h1:=v7 (k:=a) (by omega) (fun i hi hne=>?_) h
 ·rw [show a+b-a=b by omega] at h1;rcases hr _ _ h1 with h2|h2
  ·exact ha h2
  ·exact hb h2
 ·rcases Nat.lt_or_ge i a with h2|h2
  ·exact Int.dvd_mul_of_dvd_left (ha2 i h2)
  ·exact Int.dvd_mul_of_dvd_right (hb2 (a+b-i) (by omega))
theorem wN{q g h:List Rat}(hq:∀ i,Wh (seq q i))(hq0:tz q≠[])(hg:ax g=g)(he:∀ x,evV q x=evV g x*evV h x):∀ i,Wh (seq h i):=by
 have hg0:tz g≠[]:=fun h0=>by
  obtain ⟨y,hy⟩:=vQ hq0;exact hy (by rw [he,ev_tznil.1 h0 y];grind)
 have hh0:tz h≠[]:=fun h0=>by
  obtain ⟨y,hy⟩:=vQ hq0;exact hy (by rw [he,ev_tznil.1 h0 y];grind)
 have whs:=nT;have hc:∀ n,(seq q n)*((aK h).den:Rat)=((aK h).num:Rat)*((gV (n+1) (fun i=>(seq g i).num*(seq (ax h) (n-i)).num):Int):Rat):=fun n=>by
  have h1:=iN (p:=q) (q:=ar g h) (fun x=>by rw [aI,he]) n;rw [h1,dL,fT,nd];have h2:cv (seq g) (seq h) n=aK h*sm (n+1) (fun i=>(((seq g i).num*(seq (ax h) (n-i)).num:Int):Rat)):=by
   rw [←jL];refine sm_congr fun i hi=>?_
   rw [Rat.intCast_mul,←whs h,cV h (n-i)];have h3:=whs g i;rw [hg] at h3;rw [←h3];grind
  rw [h2];have h4:=low (aK h);rw [←h4];grind
 have hd:(aK h).den=1:=by
  apply Classical.byContradiction;intro hd;have hd2:2≤(aK h).den:=by have:=(aK h).den_pos;omega
  obtain ⟨r,r1,r2,r3⟩:=s0 _ hd2;have hpf:∀ {p:List Rat},tz p≠[]→∃ i,¬ (r:Int) ∣ (seq (ax p) i).num:=fun {p} hp=>Classical.byContradiction fun hn=>by
   have:=uX hp (t:=(r:Int)) (fun i=>Classical.byContradiction fun h=>hn ⟨i,h⟩);rw [nYf] at this;omega
  have hgf:=hpf hg0;rw [hg] at hgf;obtain ⟨n,hn⟩:=Cy r3 hgf (hpf hh0);apply hn;have h1:=hc n;rw [(hq n).eq] at h1;have h2:(seq q n).num*(aK h).den=(aK h).num*gV (n+1) (fun i=>(seq g i).num*(seq (ax h) (n-i)).num):=by
   apply Rat.intCast_inj.1;rw [Rat.intCast_mul,Rat.intCast_mul,Rat.intCast_natCast];exact h1
  have h3:(r:Int) ∣ (aK h).num*gV (n+1) (fun i=>(seq g i).num*(seq (ax h) (n-i)).num):=by
   rw [←h2];obtain ⟨k,hk⟩:=r2;exact ⟨(seq q n).num*k,by rw [hk,Int.natCast_mul];grind⟩
  rcases r3 _ _ h3 with h4|h4
  ·exfalso;have h5:r ∣ (aK h).num.natAbs:=by
    have:=Int.natAbs_dvd_natAbs.2 h4
    rwa [nYf] at this
   have h6:=Nat.dvd_gcd h5 r2;rw [(aK h).reduced] at h6;have:=Nat.dvd_one.1 h6;omega
  ·exact h4
 intro i;rw [cV h i];exact Wh.mul hd (by rw [whs h i];exact Wh.int _)
theorem zS:∀ (m:Nat) (g:List Rat) (a B R:Rat),ln g≤m+1→0≤B→0≤R→(∀ t:Nat,t≤m→Sg.Bd B (evV g (a+(t:Rat))))→(∀ t:Nat,t≤m→Sg.Bd R (a+(t:Rat)))→∀ i,Sg.Bd (B*(2*R+3) ^ m) (seq g i):=by
 intro m;induction m with
 | zero =>
  intro g a B R hl hB hR hv hp i;rw [Rat.pow_zero,Rat.mul_one];cases i with
  | zero=>rw [←ki hl (a+((0:Nat):Rat))];exact hv 0 (nXd 0)
  | succ i=>rw [Aq (by omega)];exact ⟨by grind,hB⟩
 | succ m ih =>
  intro g a B R hl hB hR hv hp i;obtain ⟨c,hc⟩:∃ c,c=a+((m+1:Nat):Rat):=⟨_,rfl⟩;have hcv:=hv (m+1) (nXd _);have hcR:=hp (m+1) (nXd _);rw [←hc] at hcv hcR;have one:∀ t:Rat,∀ x,evV [t] x=t:=fun t x=>by show 0*x+t=t;grind
  obtain ⟨f,hf⟩:∃ f,f=subV g [evV g c]:=⟨_,rfl⟩;have hfx:∀ x,evV f x=evV g x-evV g c:=fun x=>by rw [hf,em,one]
  obtain ⟨g1',⟨g1,rfl⟩,h1⟩:=Bp (Pf.ev f) (a:=c) (by rw [hfx];grind);have hlf:ln f≤m+2:=by
   have h2:=iF g [evV g c];have h3:ln [evV g c]≤1:=ah [evV g c];rw [hf];omega
  have hl1:ln g1≤m+1:=by
   by_cases h2:tz g1=[]
   ·show (tz g1).length≤_;rw [h2];exact Nat.zero_le _
   ·have h3:=yY h1 h2;have h4:ln g1<ln f:=h3;omega
  have hmul:∀ d y:Rat,1≤d→Sg.Bd (2*B) (d*y)→Sg.Bd (2*B) y:=fun d y hd hb=>by
   rcases tot 0 y with h|h
   ·have h2:=fK hd h;exact ⟨by grind,by have:=hb.2;grind⟩
   ·have h2:=fK hd (show 0≤-y by grind);exact ⟨by have:=hb.1;grind,by grind⟩
  have hv1:∀ t:Nat,t≤m→Sg.Bd (2*B) (evV g1 (a+(t:Rat))):=fun t ht=>by
   have h2:=h1 (a+(t:Rat));rw [hfx] at h2;have h3:((m+1:Nat):Rat)-(t:Rat)=((m+1-t:Nat):Rat):=by
    have:((m+1:Nat):Rat)=((m+1-t:Nat):Rat)+(t:Rat):=by rw [←Rat.natCast_add];congr 1;omega
    grind
   have h4:(1:Rat)≤((m+1-t:Nat):Rat):=by exact_mod_cast (show 1≤m+1-t by omega)
   refine hmul _ _ h4 ?_;have h5:((m+1-t:Nat):Rat)*evV g1 (a+(t:Rat))=-(evV g (a+(t:Rat))-evV g c):=by rw [h2,←h3,hc];grind
   rw [h5,show (2:Rat)*B=B+B by grind];exact ((hv t (by omega)).sub hcv).neg
  have hI:=ih g1 a (2*B) R hl1 (by grind) hR hv1 (fun t ht=>hp t (by omega));have hs:=sW h1 i;have hsg:seq g i=seq f i+seq [evV g c] i:=by rw [hf,r5];grind
  have hcon:Sg.Bd B (seq [evV g c] i):=by
   cases i with
   | zero=>exact hcv
   | succ i=>exact ⟨by show -B≤(0:Rat);grind,by show (0:Rat)≤B;exact hB⟩
  have hP:0≤(2*R+3) ^ m:=Rat.pow_nonneg (by grind);have hsh:Sg.Bd (2*B*(2*R+3) ^ m) (sh (seq g1) i):=by
   cases i with
   | zero =>
    have:=gU (show 0≤2*B by grind) hP;exact ⟨by show -_≤(0:Rat);grind,by show (0:Rat)≤_;exact this⟩
   | succ i=>exact hI i
  have hP1:1≤(2*R+3) ^ m:=by
   have:∀ k:Nat,(1:Rat)≤(2*R+3) ^ k:=fun k=>by
    induction k with
    | zero=>rw [Rat.pow_zero];exact Rat.le_refl
    | succ k ihk =>
     rw [Rat.pow_succ];have h6:=fK ihk (show 0≤2*R+3 by grind);grind
   exact this m
  rw [hsg,hs,Rat.pow_succ];refine ((hsh.sub (hcR.mul (hI i))).add hcon).mono ?_;have h7:=cO hP1 hB;generalize (2*R+3) ^ m=P at *
  grind
theorem zz{A x:Rat}(hA:1≤A)(hx:A≤x):∀ p:List Rat,(∀ y ∈ p,Wh y∧Sg.Bd (A-1) y)→tz p≠[]→Big 1 (evV p x):=by
 intro p;induction p with
 | nil=>intro _ h;exact absurd rfl h
 | cons c p ih =>
  intro h h0;obtain ⟨hc1,hc2⟩:=h c (List.mem_cons_self ..);have e:evV (c :: p) x=evV p x*x+c:=rfl;rw [e];by_cases h1:tz p=[]
  ·rw [ev_tznil.1 h1 x];have hc0:c≠0:=fun hc=>h0 (ev_tznil.2 fun y=>by show evV p y*y+c=0;rw [ev_tznil.1 h1 y,hc];grind)
   obtain ⟨z,hz⟩:=Wh.iff.1 hc1;rw [hz] at hc0 ⊢;have hz0:z≠0:=fun h=>hc0 (by rw [h];rfl)
   rcases (show 1≤z∨z≤-1 by omega) with h2|h2
   ·left
    have:((1:Int):Rat)≤(z:Rat):=Rat.intCast_le_intCast.2 h2;have e1:((1:Int):Rat)=1:=rfl;grind
   ·right
    have:(z:Rat)≤((-1:Int):Rat):=Rat.intCast_le_intCast.2 h2;have e1:((-1:Int):Rat)=-1:=rfl;grind
  ·have h2:=ih (fun y hy=>h y (List.mem_cons_of_mem _ hy)) h1;obtain ⟨b1,b2⟩:=hc2;rcases h2 with h3|h3
   ·left
    have h4:=fK h3 (show 0≤x by grind);grind
   ·right
    have h4:=fK h3 (show 0≤x by grind);grind
theorem Bo{A X x:Rat}(hA:0≤A)(hx:0≤x)(hX:x≤X):∀ p:List Rat,(∀ y ∈ p,Sg.Bd A y)→Sg.Bd (A*(X+1) ^ p.length) (evV p x):=by
 intro p;induction p with
 | nil =>
  intro _;rw [List.length_nil,Rat.pow_zero,Rat.mul_one];exact ⟨by show -A≤(0:Rat);grind,hA⟩
 | cons c p ih =>
  intro h;have h1:=ih (fun y hy=>h y (List.mem_cons_of_mem _ hy));have h2:=h c (List.mem_cons_self ..);have hP:∀ k:Nat,(1:Rat)≤(X+1) ^ k:=fun k=>by
   induction k with
   | zero=>rw [Rat.pow_zero];exact Rat.le_refl
   | succ k ihk =>
    rw [Rat.pow_succ];have h6:=fK ihk (show 0≤X+1 by grind);grind
  have e:evV (c :: p) x=evV p x*x+c:=rfl;rw [e,List.length_cons,Rat.pow_succ];refine ((h1.mul (show Sg.Bd X x from ⟨by grind,hX⟩)).add h2).mono ?_;have h3:=cO (hP p.length) hA;generalize (X+1) ^ p.length=P at *
  grind
theorem Av{p:List Rat}(h:∀ i,Wh (seq p i)){x:Rat}(hx:Wh x):Wh (evV p x):=by
 have key:∀ p:List Rat,(∀ i,Wh (seq p i))→Wh (evV p x):=by
  intro p;induction p with
  | nil=>intro _;exact Wh.zero
  | cons c p ih=>intro h;exact ((ih fun i=>h (i+1)).mul hx).add (h 0)
 exact key p h
theorem wH{q d:List Rat}{S:Nat}(hq:∀ x ∈ q,Wz S x)(hq0:tz q≠[])(hd:Dv (evV d) (evV q))(hn:q.length≤1000):∀ x ∈ ax d,Wz ((S+1)*(2*q.length+1)) x:=by
 have hd0:tz d≠[]:=fun h0=>by
  obtain ⟨y,hy⟩:=vQ hq0;obtain ⟨c,-,h1⟩:=hd;exact hy (by rw [h1,ev_tznil.1 h0 y];grind)
 have hdl:=k9 hd hq0;have hql:=ah q;obtain ⟨g,hg⟩:∃ g,g=ax d:=⟨_,rfl⟩;have hgg:ax g=g:=by
  rw [hg];exact (ce (p:=d) (q:=ax d) (bH hd0) (fun n=>by rw [cV d n];grind)).symm
 obtain ⟨h,hh⟩:∃ h:List Rat,∀ x,evV q x=evV g x*evV h x:=by
  obtain ⟨c,hc,h1⟩:=hd;obtain ⟨h,hh⟩:=hc.smul (aK d);exact ⟨h,fun x=>by rw [h1,←hh,eo d x,hg];grind⟩
 have hqw:∀ i,Wh (seq q i):=fun i=>by rw [(gW hq i).1];exact Wh.int _
 have hhw:=wN hqw hq0 hgg hh;have hgw:∀ i,Wh (seq g i):=fun i=>by
  have:=nT d i;rw [←hg] at this;rw [this];exact Wh.int _
 obtain ⟨A,hA⟩:∃ A:Nat,A=W32 ^ S:=⟨_,rfl⟩;have hA1:1≤A:=by rw [hA];exact nYk aB
 have hA1':(1:Rat)≤(A:Rat):=by exact_mod_cast hA1
 obtain ⟨m,hm⟩:∃ m,ln g=m+1:=⟨ln g-1,by
  have:1≤ln g:=eA (by rw [hg,bt];exact fun k=>hd0 (cF.1 k));omega⟩
 have hmq:m+1≤q.length:=by
  have:ln g=(tz d).length:=by show (tz g).length=_;rw [hg,bt,aD]
  omega
 obtain ⟨X,hX⟩:∃ X:Nat,X=A+m:=⟨_,rfl⟩;have hcoef:∀ y ∈ q,Wh y∧Sg.Bd ((A:Rat)-1) y:=fun y hy=>by
  obtain ⟨w1,w2⟩:=hq y hy;refine ⟨w1,?_⟩;rw [w1.eq];have h1:-((A:Int)-1)≤y.num∧y.num≤(A:Int)-1:=by rw [hA];omega
  have h2:=Rat.intCast_le_intCast.2 h1.1;have h3:=Rat.intCast_le_intCast.2 h1.2;rw [Rat.intCast_neg,Rat.intCast_sub,Rat.intCast_natCast] at h2;rw [Rat.intCast_sub,Rat.intCast_natCast] at h3;exact ⟨h2,h3⟩
 have hB:=fun (t:Nat) (ht:t≤m)=>Bo (A:=(A:Rat)) (X:=(X:Rat)) (x:=(A:Rat)+(t:Rat)) (by grind) (by
  have:(0:Rat)≤(t:Rat):=by exact_mod_cast Nat.zero_le t
  grind) (by rw [hX,←Rat.natCast_add];exact_mod_cast (show A+t≤A+m by omega)) q (fun y hy=>(hcoef y hy).2.mono (by grind))
 have hval:∀ t:Nat,t≤m→Sg.Bd ((A:Rat)*((X:Rat)+1) ^ q.length) (evV g ((A:Rat)+(t:Rat))):=fun t ht=>by
  have h1:=zz (A:=(A:Rat)) (x:=(A:Rat)+(t:Rat)) hA1' (by
   have:(0:Rat)≤(t:Rat):=by exact_mod_cast Nat.zero_le t
   grind) q hcoef hq0
  have h2:=hB t ht;have hxw:Wh ((A:Rat)+(t:Rat)):=by
   have h3:∀ k:Nat,Wh (k:Rat):=fun k=>Rat.den_natCast k
   exact (h3 A).add (h3 t)
  have hv1:=Av hgw hxw;have hv2:=Av hhw hxw;rw [hh] at h1 h2;generalize evV g ((A:Rat)+(t:Rat))=u at *
  generalize evV h ((A:Rat)+(t:Rat))=v at *
  generalize (A:Rat)*((X:Rat)+1) ^ q.length=C at *
  have hvz:v≠0:=fun h0=>by
   rw [h0,nXz] at h1;rcases h1 with h1|h1 <;> grind
  obtain ⟨z,hz⟩:=Wh.iff.1 hv2;have hz0:z≠0:=fun h=>hvz (by rw [hz,h];rfl)
  obtain ⟨c1,c2⟩:=h2;rcases (show 1≤z∨z≤-1 by omega) with h3|h3
  ·have h4:(1:Rat)≤v:=by
    have:((1:Int):Rat)≤(z:Rat):=Rat.intCast_le_intCast.2 h3;rw [hz];exact this
   rcases tot 0 u with h5|h5
   ·have h6:=cO h4 h5;exact ⟨by grind,by grind⟩
   ·have h6:=cO h4 (show 0≤-u by grind);exact ⟨by grind,by grind⟩
  ·have h4:v≤-1:=by
    have:(z:Rat)≤((-1:Int):Rat):=Rat.intCast_le_intCast.2 h3;rw [hz];exact this
   rcases tot 0 u with h5|h5
   ·have h6:=cO (show 1≤-v by grind) h5;exact ⟨by grind,by grind⟩
   ·have h6:=cO (show 1≤-v by grind) (show 0≤-u by grind);exact ⟨by grind,by grind⟩
 have hXr:∀ t:Nat,t≤m→Sg.Bd (X:Rat) ((A:Rat)+(t:Rat)):=fun t ht=>by
  have h1:(A:Rat)+(t:Rat)≤(X:Rat):=by rw [hX,←Rat.natCast_add];exact_mod_cast (show A+t≤A+m by omega)
  have h2:(0:Rat)≤(A:Rat)+(t:Rat):=by rw [←Rat.natCast_add];exact_mod_cast Nat.zero_le (A+t)
  exact ⟨by grind,h1⟩
 have hX0:(0:Rat)≤(X:Rat):=by exact_mod_cast Nat.zero_le X
 have hC0:(0:Rat)≤(A:Rat)*((X:Rat)+1) ^ q.length:=gU (by grind) (Rat.pow_nonneg (by grind));have hfin:=zS m g (A:Rat) _ (X:Rat) (by omega) hC0 hX0 hval hXr;have hW:2*X+3≤W32 ^ (S+1):=by
  have e1:W32 ^ (S+1)=A*4294967296:=by rw [nXs,←hA];rfl
  omega
 have hbound:A*(X+1) ^ q.length*(2*X+3) ^ m<W32 ^ ((S+1)*(2*q.length+1)):=by
  have b1:(X+1) ^ q.length≤W32 ^ ((S+1)*q.length):=by rw [Nat.pow_mul];exact Nat.pow_le_pow_left (by omega) _
  have b2:(2*X+3) ^ m≤W32 ^ ((S+1)*m):=by rw [Nat.pow_mul];exact Nat.pow_le_pow_left hW _
  have b3:A*(X+1) ^ q.length*(2*X+3) ^ m≤W32 ^ S*W32 ^ ((S+1)*q.length)*W32 ^ ((S+1)*m):=by
   rw [hA] at *
   exact nXw (nXf _ b1) b2
  refine nYi b3 ?_;rw [←Nat.pow_add,←Nat.pow_add];refine Nat.pow_lt_pow_right (by decide) ?_;have e2:(S+1)*(2*q.length+1)=(S+1)*q.length+(S+1)*q.length+(S+1):=by rw [Nat.mul_add,Nat.mul_one,show 2*q.length=q.length+q.length by omega,Nat.mul_add]
  have e3:(S+1)*m≤(S+1)*q.length:=nXf _ (by omega);omega
 intro x hx;rw [←hg] at hx;obtain ⟨i,hi,rfl⟩:=dE hx;have h1:=hfin i;have hw:=hgw i;refine ⟨hw,?_⟩;have h2:Sg.Bd (((A*(X+1) ^ q.length*(2*X+3) ^ m:Nat):Int):Rat) (((seq g i).num:Int):Rat):=by
  rw [←hw.eq,Rat.intCast_natCast,Rat.natCast_mul,Rat.natCast_mul,Rat.natCast_pow,Rat.natCast_pow,Rat.natCast_add,Rat.natCast_add,Rat.natCast_mul];exact h1
 obtain ⟨c1,c2⟩:=h2;rw [←Rat.intCast_neg] at c1;have c3:=Rat.intCast_le_intCast.1 c1;have c4:=Rat.intCast_le_intCast.1 c2;show (seq g i).num.natAbs<_;omega
end Go.Proofs.YtafgmcimcbhhjaaGreat.Sg
/- Sizes for chains of a polynomial and of its divisors. Plain facts. -/
namespace Go.Proofs.YtafgmcimcbhhjaaGreat
open Go.RowKit Go.Front Go.Num Stab Sg
theorem yV{q:List Rat}{L:Nat}(hq:cj q=q)(hw:∀ x ∈ ax q,Wz L x)(hL:1≤L):∃ D,0<D∧D<W32 ^ L∧FrL L D q:=by
 obtain ⟨D,h1,h2,h3⟩:=yU hw (bt q) hL;rw [(kL q).mon,hq] at h3;exact ⟨D,h1,h2,h3⟩
def KN(K S n:Nat):Prop:=3*((((S+1)*(2*n+1)+2)*(2*n)+(S+1)*(2*n+1)+2)*(2*n+3))≤K
theorem Bh{K S S' n n':Nat}(h:3*(((S+2)*(2*n)+S+2)*(2*n+3))≤K)(hS:S'≤S)(hn:n'≤n):KZ K S' n':=by
 right
 refine nXe (nXf 3 (nXw ?_ (by omega))) h;have:(S'+2)*(2*n')≤(S+2)*(2*n):=nXw (by omega) (by omega);omega
theorem KN.kz{K S S' n n':Nat}(h:KN K S n)(hS:S'≤(S+1)*(2*n+1))(hn:n'≤n):KZ K S' n':=Bh (S:=(S+1)*(2*n+1)) h hS hn
theorem KN.self{K S n n':Nat}(h:KN K S n)(hn:n'≤n):KZ K S n':=h.kz (by
 have:(S+1)*1≤(S+1)*(2*n+1):=nXf _ (by omega);omega) hn
theorem BB{K S n:Nat}{p q:List Rat}(hp:∀ x ∈ p,Wz S x)(hp0:tz p≠[])(hl:p.length≤n)(hn:n≤1000)(hK:KN K S n)(hd:Dv (evV q) (evV p))(hm:cj q=q):FrK K q:=by
 have h1:=wH hp hp0 hd (by omega);have h2:=k9 hd hp0;have h3:=ah p;have h4:tz q=q:=by rw [←hm,fL]
 rw [h4] at h2;have hL:1≤(S+1)*(2*p.length+1):=Nat.mul_pos (by omega) (by omega);have hL2:(S+1)*(2*p.length+1)≤(S+1)*(2*n+1):=nXf _ (by omega);obtain ⟨D,d1,d2,d3⟩:=yV hm h1 hL;exact ⟨_,D,hL,d1,d2,d3,hK.kz hL2 (by omega)⟩
theorem BA{p q:List Rat}(h0:tz p≠[])(h:Dv (evV q) (evV p)):Dv (evV q) (evV (ax p)):=by
 obtain ⟨c,hc,h1⟩:=h;have hm:=bH h0;refine ⟨_,hc.smul (aK p)⁻¹,fun x=>?_⟩;have h2:=eo p x;have h3:=nYh (aK p) (fun k=>by rw [k] at hm;exact absurd hm Rat.lt_irrefl);rw [h1 x] at h2;have h4:(aK p)⁻¹*(evV q x*c x)=evV (ax p) x:=by rw [h2,←nYb,nYa _ (aK p),h3,Rat.one_mul]
 rw [←h4];grind
theorem AE{p:List Rat}(h0:tz p≠[]):Dv (evV (sqfV p)) (evV p):=by
 obtain ⟨g,q1,hg,-,-,h1,-⟩:=(kK h0).dv;exact ⟨g,hg,fun x=>by rw [h1 x];grind⟩
theorem yq(p:List Rat):cj (sqfV p)=sqfV p:=ju _
theorem wC{K S D n:Nat}{p:List Rat}(hS:1≤S)(hD:0<D)(hD2:D<W32 ^ S)(hf:FrL S D p)(hl:p.length≤n)(hK:KN K S n):FrK K p:=⟨S,D,hS,hD,hD2,hf,hK.self hl⟩
theorem zx{K S D n:Nat}{p:List Rat}(hD:0<D)(hf:FrL S D p)(h0:tz p≠[])(hl:p.length≤n)(hn:n≤1000)(hK:KN K S n):FrK K (sqfV p):=by
 refine BB (p:=ax p) (dN (fun x hx=>hf x (gF hx)) hD) (by rw [bt];exact fun k=>h0 (cF.1 k)) ?_ hn hK (BA h0 (AE h0)) (yq p);rw [aD];exact nXe (ah p) hl
end Go.Proofs.YtafgmcimcbhhjaaGreat
