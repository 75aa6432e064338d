/- The members of Euclid's sequence of two polynomials with whole coefficients are small. Plain facts. -/
import Derived.Test.YtafgmcimcbhhjaaGreatQIK5
import Derived.Test.YtafgmcimcbhhjaaGreatQIM25
import Derived.Test.YtafgmcimcbhhjaaGreatQIM22
import Derived.Test.YtafgmcimcbhhjaaGreatQIK4
set_option linter.unusedVariables false
namespace Go.Proofs.YtafgmcimcbhhjaaGreat.Sg
open Go.RowKit Go.Front Go.Num Go.Stab Go.Proofs.YtafgmcimcbhhjaaGreat Sie
abbrev ln(p:List Rat):Nat:=(tz p).length
theorem yL{p:List Rat}{m:Nat}(h:∀ i,m≤i→seq p i=0):ln p≤m:=by
 by_cases h0:tz p=[]
 ·show (tz p).length≤m;rw [h0];exact Nat.zero_le _
 ·obtain ⟨n,hn,hn0⟩:=eN h0;rcases Nat.lt_or_ge n m with h1|h1
  ·show (tz p).length≤m;omega
  ·exact absurd (h n h1) hn0
theorem zW{p:List Rat}{i:Nat}(h:ln p≤i):seq p i=0:=by rw [←aT];exact bB h
theorem ez{p:List Rat}(h:tz p≠[]):1≤ln p:=nYe.2 h
theorem eM(p q:List Rat):ln (ar p q)≤ln p+ln q-1:=by
 refine nXe (ai _) ?_;unfold ar;refine nXe (ai _) ?_;simp
theorem j1{p q:List Rat}(hp:tz p≠[])(hq:tz q≠[]):ln (ar p q)+1=ln p+ln q:=by
 obtain ⟨a,ha,ha0⟩:=eN hp;obtain ⟨b,hb,hb0⟩:=eN hq;have b1:Go.Proofs.YtafgmcimcbhhjaaGreat.Bd (a+1) (seq p):=by rw [←aT,←ha];exact Bd.seq _
 have b2:Go.Proofs.YtafgmcimcbhhjaaGreat.Bd (b+1) (seq q):=by rw [←aT,←hb];exact Bd.seq _
 have h1:seq (ar p q) (a+b)≠0:=by
  rw [dJ,fT,np b1 b2];intro h;rcases nXq.1 h with h|h
  ·exact ha0 h
  ·exact hb0 h
 have h2:=mP h1;have h3:=eM p q;have e1:ln p=a+1:=ha;have e2:ln q=b+1:=hb;have e3:a+b<ln (ar p q):=h2;omega
theorem mO(p q:List Rat):ln (bf p q)≤max (ln p) (ln q):=yL fun i hi=>by
 rw [ey,zW (by omega),zW (by omega)];exact Rat.add_zero 0
theorem dt{p:List Rat}{c:Rat}:ln (p.map (·*c))≤ln p:=yL fun i hi=>by rw [aU,zW hi,nXy]
def subV(p q:List Rat):List Rat:=bf p (q.map (·*-1))
theorem em(p q:List Rat)(x:Rat):evV (subV p q) x=evV p x-evV q x:=by unfold subV;rw [ev_add5,bJ];grind
theorem rQ(p q:List Rat)(n:Nat):seq (subV p q) n=seq p n-seq q n:=by unfold subV;rw [ey,aU];grind
theorem iw(p q:List Rat):ln (subV p q)≤max (ln p) (ln q):=by
 have h1:=mO p (q.map (·*-1));have h2:=dt (p:=q) (c:=-1);unfold subV;omega
theorem df{p q:List Rat}(h:∀ x,evV p x=evV q x):ln p=ln q:=by
 show (tz p).length=(tz q).length;rw [jQ (fun n=>iE h n)]
theorem j0{p q:List Rat}(h:ln q<ln p):ln (subV p q)=ln p:=by
 have h1:=iw p q;obtain ⟨n,hn,h0⟩:=eN (p:=p) (fun h0=>by have:ln p=0:=(by show (tz p).length=0;rw [h0];rfl);omega);have e:ln p=n+1:=hn;have h2:seq (subV p q) n≠0:=by rw [rQ,zW (p:=q) (by omega)];grind
 have h3:n<ln (subV p q):=mP h2;omega
theorem BB{p:List Rat}{x:Rat}(h:evV p x≠0):tz p≠[]:=fun h0=>h (ev_tznil.1 h0 x)
structure Eu (a b c e u v u' v':List Rat) (k:Rat):Prop where
 hc:∀ x,evV c x=evV u x*evV a x+evV v x*evV b x
 he:∀ x,evV e x=evV u' x*evV a x+evV v' x*evV b x
 det:∀ x,evV u x*evV v' x-evV v x*evV u' x=k
 k0:k≠0
 lv:ln v'+ln c=ln a+1
 lu:ln u'+ln c≤ln b+1
 lv0:ln v≤ln v'
 lu0:ln u+ln e≤ln b+1
 le:ln e<ln c
 lc:ln c≤ln b
 la:ln c≤ln a
theorem wT{c e:List Rat}(he:tz e≠[])(hl:ln e≤ln c):ln (bA c e)+ln e=ln c+1:=by
 have h1:=iD c he;have h2:ln (bP c e)<ln e:=nYi (ai _) (cu c he).1;have hq:tz (bA c e)≠[]:=fun h0=>by
  have h3:ln c=ln (bP c e):=df fun x=>by rw [h1 x,ev_tznil.1 h0 x];grind
  omega
 have h3:=j1 hq he;have h4:ln c=ln (subV (ar (bA c e) e) ((bP c e).map (·*-1))):=df fun x=>by rw [em,aJ,bJ,h1 x];grind
 have h5:=dt (p:=bP c e) (c:=-1);have h6:=ez hq;rw [j0 (by omega)] at h4;omega
theorem Eu.next{a b c e u v u' v' r:List Rat}{k:Rat}(E:Eu a b c e u v u' v' k)(h0:tz e≠[])(hr:Pr r (bP c e)):∃ u'' v'' k',Eu a b e r u' v' u'' v'' k':=by
 obtain ⟨c0,hc0,hr⟩:=m8 hr;have hq:=wT h0 (nYj E.le);have h1:=iD c h0;have hlr:ln r<ln e:=by
  have h2:ln (bP c e)<ln e:=nYi (ai _) (cu c h0).1;have h3:ln r=ln ((bP c e).map (·*c0)):=df fun x=>by rw [hr x,bJ]
  have:=dt (p:=bP c e) (c:=c0);omega
 have hv':tz v'≠[]:=fun h=>by
  have h2:=E.lv;have h3:ln v'=0:=by show (tz v').length=0;rw [h];rfl
  have h4:=E.la;omega
 have hqn:tz (bA c e)≠[]:=fun h=>by
  have h3:ln (bA c e)=0:=by show (tz (bA c e)).length=0;rw [h];rfl
  have:=E.le;omega
 have hm:=j1 hqn hv';have hle:=E.le;have hlv:=E.lv;have hlu:=E.lu;have hlv0:=E.lv0;have hlu0:=E.lu0;have hmu:=eM (bA c e) u';have s1:=iw u (ar (bA c e) u');have s2:ln (subV v (ar (bA c e) v'))=ln (ar (bA c e) v'):=by
  have e1:ln (subV v (ar (bA c e) v'))=ln (subV ((ar (bA c e) v').map (·*-1)) (v.map (·*-1))):=df fun x=>by rw [em,em,bJ,bJ];grind
  have e2:ln ((ar (bA c e) v').map (·*-1))=ln (ar (bA c e) v'):=by
   have a1:=dt (p:=ar (bA c e) v') (c:=-1);have a2:=dt (p:=(ar (bA c e) v').map (·*-1)) (c:=-1);have a3:ln (ar (bA c e) v')=ln (((ar (bA c e) v').map (·*-1)).map (·*-1)):=df fun x=>by rw [bJ,bJ];grind
   omega
  have e3:=dt (p:=v) (c:=-1);rw [e1,j0 (by omega),e2]
 have t1:=dt (p:=subV u (ar (bA c e) u')) (c:=c0);have t2:ln ((subV v (ar (bA c e) v')).map (·*c0))=ln (subV v (ar (bA c e) v')):=by
  have a1:=dt (p:=subV v (ar (bA c e) v')) (c:=c0);have a2:=dt (p:=(subV v (ar (bA c e) v')).map (·*c0)) (c:=c0⁻¹);have a3:ln (subV v (ar (bA c e) v'))=ln (((subV v (ar (bA c e) v')).map (·*c0)).map (·*c0⁻¹)):=df fun x=>by
   rw [bJ,bJ,←nYb,nYa c0⁻¹,nYh c0 hc0,Rat.one_mul]
  omega
 have hpe:=ez h0;refine ⟨(subV u (ar (bA c e) u')).map (·*c0),(subV v (ar (bA c e) v')).map (·*c0),-(c0*k),E.he,fun x=>?_,fun x=>?_,?_,by omega,by omega,by omega,by omega,hlr,by have:=E.lc;omega,by have:=E.la;omega⟩
 ·rw [bJ,bJ,em,em,aJ,aJ,hr x];have h2:=h1 x;rw [E.hc x,E.he x] at h2;have h3:evV (bP c e) x=(evV u x*evV a x+evV v x*evV b x)-evV (bA c e) x*(evV u' x*evV a x+evV v' x*evV b x):=by grind
  rw [h3];grind
 ·rw [bJ,bJ,em,em,aJ,aJ,←E.det x];grind
 ·intro h;have:c0*k=0:=by grind
  rcases nXq.1 this with h|h
  ·exact hc0 h
  ·exact E.k0 h
inductive Es (a b:List Rat):List Rat→List Rat→Prop
 | start {c e:List Rat} (hc:Pr c a) (he:Pr e b):Es a b c e
 | next {c e r:List Rat} (h:Es a b c e) (h0:tz e≠[]) (hr:Pr r (bP c e)):Es a b e r
theorem Es.shift{a b r c e:List Rat}(hb:tz b≠[])(hr:Pr r (bP a b))(h:Es b r c e):Es a b c e:=by
 induction h with
 | start hc he =>
  refine Es.next (Es.start (Pr.refl a) hc) (fun h=>hb (hc.nil.1 h)) ?_;exact (he.trans hr).trans (lD (Pr.refl a) hc.symm (fun h=>hb (hc.nil.1 h)))
 | next h h0 hr ih=>exact Es.next ih h0 hr
theorem Es.eu{a b c e:List Rat}(hb:tz b≠[])(hl:ln b≤ln a)(h:Es a b c e):(Pr c a∧Pr e b)∨tz e=[]∨∃ u v u' v' k,Eu a b c e u v u' v' k:=by
 induction h with
 | start hc he=>exact Or.inl ⟨hc,he⟩
 | @next c e r h h0 hr ih =>
  rcases ih with ⟨hc,he⟩|h1|⟨u,v,u',v',k,E⟩
  ·right
   by_cases hrn:tz r=[]
   ·exact Or.inl hrn
   ·right
    have e1:ln c=ln a:=hc.len;have e2:ln e=ln b:=he.len;obtain ⟨c1,hc1,hc⟩:=m8 hc;obtain ⟨c2,hc2,he⟩:=m8 he;obtain ⟨c0,hc0,hr'⟩:=m8 hr;have h1:=iD c h0;have hq:=wT (c:=c) h0 (by omega);have hrl:ln r<ln e:=by rw [show ln r=ln (bP c e) from hr.len];exact nYi (ai _) (cu c h0).1
    have one:∀ t:Rat,∀ x,evV [t] x=t:=fun t x=>by show 0*x+t=t;grind
    have lone:∀ t:Rat,t≠0→ln [t]=1:=fun t ht=>by
     have h2:=BB (p:=[t]) (x:=0) (by rw [one];exact ht);have h3:=ez h2;have h4:ln [t]≤1:=ai [t];omega
    have lnil:ln []=0:=rfl;have hc0c1:c0*c1≠0:=fun h=>by rcases nXq.1 h with h|h <;> contradiction
    have hcc:c0*c2≠0:=fun h=>by rcases nXq.1 h with h|h <;> contradiction
    have lq:ln ((bA c e).map (·*-(c0*c2)))=ln (bA c e):=by
     have a1:=dt (p:=bA c e) (c:=-(c0*c2));have a2:=dt (p:=(bA c e).map (·*-(c0*c2))) (c:=(-(c0*c2))⁻¹);have a3:ln (bA c e)=ln (((bA c e).map (·*-(c0*c2))).map (·*(-(c0*c2))⁻¹)):=df fun x=>by
      rw [bJ,bJ,←nYb,nYa (-(c0*c2))⁻¹,nYh _ (by grind),Rat.one_mul]
     omega
    have hpe:=ez h0;refine ⟨[],[c2],[c0*c1],(bA c e).map (·*-(c0*c2)),-(c2*(c0*c1)),fun x=>?_,fun x=>?_,fun x=>?_,?_,?_,?_,?_,?_,hrl,by omega,by omega⟩
    ·rw [one,he x];show _=0*_+_;grind
    ·rw [hr' x,one,bJ];have h2:=h1 x;rw [hc x,he x] at h2;have h3:evV (bP c e) x=c1*evV a x-evV (bA c e) x*(c2*evV b x):=by grind
     rw [h3];grind
    ·rw [one,one];show 0*_-_=_;grind
    ·intro h;have:c2*(c0*c1)=0:=by grind
     rcases nXq.1 this with h|h
     ·exact hc2 h
     ·exact hc0c1 h
    ·rw [lq];omega
    ·rw [lone _ hc0c1];omega
    ·rw [lone _ hc2,lq];omega
    ·rw [lnil];omega
  ·exact absurd h1 h0
  ·obtain ⟨u'',v'',k',E'⟩:=E.next h0 hr;exact Or.inr (Or.inr ⟨_,_,_,_,_,E'⟩)
theorem rO{n m:Nat}{f:Nat→Rat}(h:∀ i,n≤i→f i=0):sm n f=sm (n+m) f:=by
 rw [sm_split,sm_congr (n:=m) (g:=fun _=>0) (fun i _=>h (n+i) (by omega)),sm_zero,Rat.add_zero]
theorem pP{P:Nat}{f g:Nat→Rat}(hf:∀ i,P≤i→f i=0)(n:Nat):cv f g n=sm P (fun i=>if i≤n then f i*g (n-i) else 0):=by
 have h1:cv f g n=sm (n+1) (fun i=>if i≤n then f i*g (n-i) else 0):=sm_congr fun i hi=>by rw [if_pos (by omega)]
 rw [h1,rO (m:=P) (fun i hi=>if_neg (by omega)),nYg (n+1) P,←rO (fun i hi=>by
  rw [hf i hi];split
  ·exact nXy _
  ·rfl)]
def syl(P:Nat)(a b:Nat→Int)(n i:Nat):Int:=if i<P then (if i≤n then a (n-i) else 0) else (if i-P≤n then b (n-(i-P)) else 0)
theorem xQ{P Q:Nat}{a b:List Rat}{az bz x:Nat→Int}(ha:∀ i,seq a i=((az i:Int):Rat))(hb:∀ i,seq b i=((bz i:Int):Rat))(n:Nat) :
  seq (bf (ar ((List.range P).map fun i=>((x i:Int):Rat)) a) (ar ((List.range Q).map fun i=>((x (P+i):Int):Rat)) b)) n=((gO (P+Q) (fun i=>syl P az bz n i*x i):Int):Rat):=by
 rw [ey,dJ,dJ,fT,fT,mR,sm_split]
 congr 1
 ·rw [pP (P:=P) (fun i hi=>by unfold seq;rw [dB,if_neg (by omega)])];refine sm_congr fun i hi=>?_
  unfold syl;rw [if_pos hi];by_cases h:i≤n
  ·rw [if_pos h,if_pos h,ha,Rat.intCast_mul,nYa];unfold seq;rw [dB,if_pos hi]
  ·rw [if_neg h,if_neg h,Int.zero_mul];rfl
 ·rw [pP (P:=Q) (fun i hi=>by unfold seq;rw [dB,if_neg (by omega)])];refine sm_congr fun i hi=>?_
  unfold syl;rw [if_neg (show ¬ P+i<P by omega),show P+i-P=i by omega];by_cases h:i≤n
  ·rw [if_pos h,if_pos h,hb,Rat.intCast_mul,nYa];unfold seq;rw [dB,if_pos hi]
  ·rw [if_neg h,if_neg h,Int.zero_mul];rfl
theorem gP{S:Nat}{a:List Rat}(ha:∀ x ∈ a,Wz S x)(i:Nat):seq a i=(((seq a i).num:Int):Rat)∧(seq a i).num.natAbs<W32 ^ S:=by
 have h:Wz S (seq a i):=by
  rcases Nat.lt_or_ge i a.length with h|h
  ·exact ha _ (bI h)
  ·rw [show seq a i=0 from bB h];exact Wz.zero S
 exact ⟨h.1.eq,h.2⟩
theorem uS{a b:List Rat}{S d P Q:Nat}(ha:∀ x ∈ a,Wz S x)(hb:∀ x ∈ b,Wz S x)(hP:P+d=ln b)(hQ:Q+d=ln a)(hPQ:1≤P+Q)(hN:2*(P+Q)≤W32) :
  ∃ U V W:List Rat,ln U≤P∧ln V≤Q∧ln W≤d∧(∀ x,evV W x=evV U x*evV a x+evV V x*evV b x)∧(tz U≠[]∨tz V≠[])∧(∀ i,Wz ((S+1)*(P+Q)) (seq U i))∧(∀ i,Wz ((S+1)*(P+Q)) (seq V i))∧∀ i,Wz ((S+1)*(P+Q)) (seq W i):=by
 obtain ⟨M,hM⟩:∃ M,P+Q=M+1:=⟨P+Q-1,by omega⟩;have hA1:1≤W32 ^ S:=nYk aA;obtain ⟨x,⟨i0,hi0,hx0⟩,hxb,hxe⟩:=Al M (fun j i=>syl P (fun i=>(seq a i).num) (fun i=>(seq b i).num) (d+j) i) (W32 ^ S) (fun j i=>by
  unfold syl;split
  ·split
   ·exact nYj (gP ha _).2
   ·exact Nat.zero_le _
  ·split
   ·exact nYj (gP hb _).2
   ·exact Nat.zero_le _) hA1
 have hseq:=xQ (P:=P) (Q:=Q) (a:=a) (b:=b) (x:=x) (fun i=>(gP ha i).1) (fun i=>(gP hb i).1);have hG:2*(M+1)*W32 ^ S≤W32 ^ (S+1):=by
  rw [nXs,nYc];exact nXf _ (by omega)
 have hGM:(2*(M+1)*W32 ^ S) ^ (M+1)≤W32 ^ ((S+1)*(P+Q)):=by
  rw [hM,Nat.pow_mul];exact Nat.pow_le_pow_left hG _
 have hG1:1≤2*(M+1)*W32 ^ S:=Nat.mul_pos (by omega) hA1;have hG2:1<2*(M+1)*W32 ^ S:=by
  have:2*(M+1)*1≤2*(M+1)*W32 ^ S:=nXf _ hA1;omega
 have hxw:∀ i,Wz ((S+1)*(P+Q)) ((x i:Int):Rat):=fun i=>Wz.int (nXm (nYi (hxb i) (Nat.pow_lt_pow_right hG2 (Nat.lt_succ_self M))) hGM)
 refine ⟨(List.range P).map fun i=>((x i:Int):Rat),(List.range Q).map fun i=>((x (P+i):Int):Rat),bf (ar ((List.range P).map fun i=>((x i:Int):Rat)) a) (ar ((List.range Q).map fun i=>((x (P+i):Int):Rat)) b),?_,?_,?_,fun y=>(by rw [ev_add5,aJ,aJ]),?_,?_,?_,?_⟩
 ·exact nXe (ai _) (by simp)
 ·exact nXe (ai _) (by simp)
 ·refine yL fun n hn=>?_
  by_cases h1:n<d+M
  ·obtain ⟨j,rfl⟩:∃ j,n=d+j:=⟨n-d,by omega⟩;rw [hseq,hM,hxe j (by omega)];rfl
  ·refine zW (nXe (mO _ _) ?_);have l1:=eM ((List.range P).map fun i=>((x i:Int):Rat)) a;have l2:=eM ((List.range Q).map fun i=>((x (P+i):Int):Rat)) b;have l3:ln ((List.range P).map fun i=>((x i:Int):Rat))≤P:=nXe (ai _) (by simp);have l4:ln ((List.range Q).map fun i=>((x (P+i):Int):Rat))≤Q:=nXe (ai _) (by simp);omega
 ·rcases Nat.lt_or_ge i0 P with h|h
  ·left
   refine nYe.1 (nYi (Nat.zero_le i0) (mP ?_));unfold seq;rw [dB,if_pos h];exact fun h=>hx0 (Rat.intCast_eq_zero_iff.1 h)
  ·right
   refine nYe.1 (nYi (Nat.zero_le (i0-P)) (mP ?_));unfold seq;rw [dB,if_pos (by omega),show P+(i0-P)=i0 by omega];exact fun h=>hx0 (Rat.intCast_eq_zero_iff.1 h)
 ·intro i;unfold seq;rw [dB];split
  ·exact hxw i
  ·exact Wz.zero _
 ·intro i;unfold seq;rw [dB];split
  ·exact hxw _
  ·exact Wz.zero _
 ·intro n;rw [hseq,hM];refine Wz.int (nXm (nYi (sY (C:=W32 ^ S*(2*(M+1)*W32 ^ S) ^ M) (fun i _=>?_)) ?_) (by rw [←hM];exact hGM))
  ·rw [Int.natAbs_mul];refine nXw ?_ (hxb i);unfold syl;split
   ·split
    ·exact nYj (gP ha _).2
    ·exact Nat.zero_le _
   ·split
    ·exact nYj (gP hb _).2
    ·exact Nat.zero_le _
  ·rw [nXs,←Nat.mul_assoc,nYc ((2*(M+1)*W32 ^ S) ^ M)];refine Nat.mul_lt_mul_of_pos_right ?_ (nYk hG1);have h2:0<(M+1)*W32 ^ S:=Nat.mul_pos (Nat.succ_pos _) hA1;rw [Nat.mul_assoc 2];omega
theorem rM{p q:List Rat}{c:Rat}(hc:c<0)(h:∀ n,seq p n=seq q n*c):ax p=ax (q.map (·*-1)) :=
 bW (c:=-c) (by grind) (fun n=>by rw [h,aU];grind)
theorem wg{a b c e u v u' v':List Rat}{k:Rat}{S:Nat}(E:Eu a b c e u v u' v' k)(he:tz e≠[])(ha:∀ x ∈ a,Wz S x)(hb:∀ x ∈ b,Wz S x)(hN:2*(ln a+ln b)≤W32):∀ x ∈ ax e,Wz ((S+1)*(ln a+ln b)) x:=by
 have hle:=E.le;have hlc:=E.lc;have hla:=E.la;have hlv:=E.lv;have hpe:=ez he;obtain ⟨d,hd⟩:∃ d,ln c=d+1:=⟨ln c-1,by omega⟩;obtain ⟨U,V,W,hU,hV,hW,hev,hne,-,-,hWz⟩:=uS (S:=S) (d:=d) (P:=ln b-d) (Q:=ln a-d) ha hb (by omega) (by omega) (by omega) (by omega);have c1:∀ x,evV u' x*evV V x=evV U x*evV v' x:=by
  by_cases hT:tz (subV (ar u' V) (ar U v'))=[]
  ·intro x;have:=ev_tznil.1 hT x;rw [em,aJ,aJ] at this;grind
  ·exfalso;have hta:tz a≠[]:=fun h=>by
    have:ln a=0:=by show (tz a).length=0;rw [h];rfl
    omega
   have h1:=j1 hta hT;have h2:=ez hT;have h3:ln (ar a (subV (ar u' V) (ar U v')))=ln (subV (ar e V) (ar W v')):=df fun x=>by
    rw [aJ,em,em,aJ,aJ,aJ,aJ,hev,E.he];grind
   have h4:=iw (ar e V) (ar W v');have h5:=eM e V;have h6:=eM W v';omega
 obtain ⟨m,hm⟩:∃ m,m=subV (ar u V) (ar v U):=⟨_,rfl⟩;have hmx:∀ x,evV m x=evV u x*evV V x-evV v x*evV U x:=fun x=>by rw [hm,em,aJ,aJ]
 have kV:∀ x,k*evV V x=evV m x*evV v' x:=fun x=>by rw [←E.det x,hmx];have:=c1 x;grind
 have kU:∀ x,k*evV U x=evV m x*evV u' x:=fun x=>by rw [←E.det x,hmx];have:=c1 x;grind
 have kW:∀ x,k*evV W x=evV m x*evV e x:=fun x=>by
  have h1:=kV x;have h2:=kU x;rw [hev,E.he];grind
 have hk:=E.k0;have hmn:tz m≠[]:=fun h=>by
  have z:∀ {f:List Rat} {g:List Rat},(∀ x,k*evV f x=evV m x*evV g x)→tz f=[]:=fun {f g} h1=>ev_tznil.2 fun x=>by
   have h2:=h1 x;rw [ev_tznil.1 h x,nXy] at h2;rcases nXq.1 h2 with h3|h3
   ·exact absurd h3 hk
   ·exact h3
  rcases hne with h1|h1
  ·exact h1 (z kU)
  ·exact h1 (z kV)
 have hv':tz v'≠[]:=fun h=>by
  have:ln v'=0:=by show (tz v').length=0;rw [h];rfl
  omega
 have h1:=j1 hmn hv';have h2:ln (ar m v')=ln (V.map (·*k)):=df fun x=>by rw [aJ,bJ,kV]
 have h3:=dt (p:=V) (c:=k);have h4:=j5 (p:=m) (by show ln m≤1;omega);have h5:seq m 0≠0:=fun h=>hmn (ev_tznil.2 fun x=>by rw [h4 x,h])
 have h6:∀ n,seq e n=seq W n*(k / seq m 0):=fun n=>by
  have h7:=iE (p:=W.map (·*k)) (q:=e.map (·*seq m 0)) (fun x=>by rw [bJ,bJ,kW,h4]) n;rw [aU,aU] at h7;have h8:=aE (a:=k) h5;have h9:(seq e n-seq W n*(k / seq m 0))*seq m 0=0:=by grind
  rcases nXq.1 h9 with h|h
  ·grind
  ·contradiction
 have hx:k / seq m 0≠0:=fun h=>by
  have h8:=aE (a:=k) h5;rw [h,nXy] at h8;exact hk h8.symm
 have hl:(S+1)*(ln b-d+(ln a-d))≤(S+1)*(ln a+ln b):=nXf _ (by omega);have hall:∀ {l:List Rat},(∀ i,Wz ((S+1)*(ln b-d+(ln a-d))) (seq l i))→∀ x ∈ ax l,Wz ((S+1)*(ln a+ln b)) x:=fun {l} h x hx=>(dM (D:=1) (fun y hy=>by
  obtain ⟨i,hi,rfl⟩:=dD hy;rw [bj];exact Fr.one (h i)) (by decide) x hx).mono hl
 rcases tri (k / seq m 0) 0 with h|h|h
 ·rw [rM h h6];exact hall fun i=>by rw [aU,show seq W i*-1=-seq W i by grind];exact (hWz i).neg
 ·exact absurd h hx
 ·rw [bW h h6];exact hall hWz
theorem nR{a b:List Rat}{L:Nat}(h:Pr a b)(hb:∀ x ∈ b,Wz L x):∀ x ∈ ax a,Wz L x:=by
 obtain ⟨c,hc,h⟩:=h;have hall:∀ {l:List Rat},(∀ i,Wz L (seq l i))→∀ x ∈ ax l,Wz L x:=fun {l} h x hx=>dM (D:=1) (fun y hy=>by
  obtain ⟨i,hi,rfl⟩:=dD hy;rw [bj];exact Fr.one (h i)) (by decide) x hx
 have hw:∀ i,Wz L (seq b i):=fun i=>⟨by rw [(gP hb i).1];exact Wh.int _,(gP hb i).2⟩
 rcases tri c 0 with h0|h0|h0
 ·rw [rM (q:=b) h0 (fun n=>by rw [h n];grind)];exact hall fun i=>by rw [aU,show seq b i*-1=-seq b i by grind];exact (hw i).neg
 ·exact absurd h0 hc
 ·rw [bW (q:=b) h0 (fun n=>by rw [h n];grind)];exact hall hw
def Eg(L:Nat)(a b:List Rat):Prop:=∀ c e,Es a b c e→∀ x ∈ ax e,Wz L x
theorem xz{a b:List Rat}{S:Nat}(ha:∀ x ∈ a,Wz S x)(hb:∀ x ∈ b,Wz S x)(hbn:tz b≠[])(hl:ln b≤ln a)(hN:2*(ln a+ln b)≤W32):Eg ((S+1)*(ln a+ln b)) a b:=by
 intro c e h;have hp:=ez hbn;have hS:S≤(S+1)*(ln a+ln b):=by
  have:(S+1)*1≤(S+1)*(ln a+ln b):=nXf _ (by omega);omega
 rcases h.eu hbn hl with ⟨-,he⟩|he|⟨u,v,u',v',k,E⟩
 ·intro x hx;exact (nR he hb x hx).mono hS
 ·rw [show ax e=[] from cD.2 he];intro x hx;simp at hx
 ·by_cases he:tz e=[]
  ·rw [show ax e=[] from cD.2 he];intro x hx;simp at hx
  ·exact wg E he ha hb hN
theorem Eg.next{L:Nat}{a b r:List Rat}(h:Eg L a b)(hb:tz b≠[])(hr:Pr r (bP a b)):Eg L b r:=fun c e hs=>h c e (hs.shift hb hr)
theorem Eg.snd{L:Nat}{a b:List Rat}(h:Eg L a b):∀ x ∈ ax b,Wz L x:=h a b (Es.start (Pr.refl a) (Pr.refl b))
end Go.Proofs.YtafgmcimcbhhjaaGreat.Sg
/- Sizes in Euclid's algorithm: with a factor of 3 a round, or by the bound of all members. Plain facts. -/
namespace Go.Proofs.YtafgmcimcbhhjaaGreat
open Go.RowKit Go.Front Go.Num Stab Sg
theorem gD{p:List Rat}{x:Rat}(h:x ∈ tz p):x ∈ p:=by
 rw [gW p] at h;exact List.mem_of_mem_take h
theorem rC(d:Nat)(hd:1≤d):2+d≤3 ^ d:=by
 induction d with
 | zero=>omega
 | succ d ih =>
  rcases Nat.eq_zero_or_pos d with h|h
  ·subst h;decide
  ·have:=ih h;rw [nXs];omega
theorem yO(la lb:Nat):(1+(la+1-lb))*3 ^ lb≤3 ^ max la (lb+1):=by
 rcases Nat.lt_or_ge lb la with h|h
 ·obtain ⟨d,rfl⟩:∃ d,la=lb+d:=⟨la-lb,by omega⟩;rw [show max (lb+d) (lb+1)=lb+d by omega,Nat.pow_add,nYc];exact nXf _ (by have:=rC d (by omega);omega)
 ·rw [show max la (lb+1)=lb+1 by omega,nXs,nYc];exact nXf _ (by omega)
theorem vW{X la lb lr L:Nat}(h:(X+1)*3 ^ max la (lb+1)≤L)(hr:lr+1≤lb):(X+(la+1-lb)*(X+1)+1)*3 ^ max lb (lr+1)≤L:=by
 have h1:X+(la+1-lb)*(X+1)+1=(X+1)*(1+(la+1-lb)):=by rw [Nat.mul_add (X+1) 1,nYc (X+1) (la+1-lb)];omega
 rw [h1,Nat.mul_assoc,show max lb (lr+1)=lb by omega];exact nXe (nXf _ (yO la lb)) h
theorem rK(p:List Rat):ax (ax p)=ax p:=by
 by_cases h:tz p=[]
 ·rw [cD.2 h];rfl
 ·exact (bW (p:=p) (q:=ax p) (bF h) (fun n=>by rw [cX p n];grind)).symm
def Zk(K X:Nat)(a b:List Rat):Prop:=(X+1)*3 ^ max a.length (b.length+1)≤K∨(Eg X a b∧3*((X+1)*(max a.length b.length+3))≤K)
theorem Zk.small{K X:Nat}{a b:List Rat}(h:Zk K X a b):X+1≤K:=by
 rcases h with h|⟨-,h⟩
 ·have:X+1≤(X+1)*3 ^ max a.length (b.length+1):=Nat.le_mul_of_pos_right _ (nYk (by decide));omega
 ·have:(X+1)*1≤(X+1)*(max a.length b.length+3):=nXf _ (by omega);omega
theorem Zk.dsz{K X:Nat}{a b:List Rat}(h:Zk K X a b):X+(a.length+1)*(X+1)≤K:=by
 have h4:(X+1)*(a.length+2)≤K:=by
  rcases h with h|⟨-,h⟩
  ·have h2:a.length+2≤3 ^ max a.length (b.length+1):=by
    have h3:=rC (max a.length (b.length+1)) (by omega);omega
   exact nXe (nXf _ h2) h
  ·have:(X+1)*(a.length+2)≤(X+1)*(max a.length b.length+3):=nXf _ (by omega);omega
 rw [show (a.length+1)*(X+1)=(X+1)*(a.length+1) from nYc _ _];rw [show a.length+2=(a.length+1)+1 from rfl,Nat.mul_succ] at h4;omega
theorem Zk.size{K X:Nat}{a b:List Rat}(h:Zk K X a b)(hb:b≠[]):X+(a.length+1-b.length)*(X+1)≤K:=by
 have h1:=h.dsz;have h2:(a.length+1-b.length)*(X+1)≤(a.length+1)*(X+1):=nXg _ (by omega);omega
theorem Zk.next{K X:Nat}{a b r:List Rat}(h:Zk K X a b)(hbt:tz b=b)(hb:b≠[])(hr:Pr r (bP a b))(hs:ax r=r)(hl:r.length<b.length)(hw:∀ x ∈ r,Wz (X+(a.length+1-b.length)*(X+1)) x):∃ X',X≤X'∧Zk K X' b r∧∀ x ∈ r,Wz X' x:=by
 rcases h with h|⟨hE,h⟩
 ·exact ⟨_,Nat.le_add_right _ _,Or.inl (vW h (by omega)),hw⟩
 ·have hE2:=hE.next (by rw [hbt];exact hb) hr;refine ⟨X,nXd _,Or.inr ⟨hE2,?_⟩,by have:=hE2.snd;rwa [hs] at this⟩;have:(X+1)*(max b.length r.length+3)≤(X+1)*(max a.length b.length+3):=nXf _ (by omega);omega
def GZ(K S:Nat)(p q:List Rat):Prop:=∃ X,S≤X∧Zk K X (ax p) (ax q)
theorem AI{K S P Q:Nat}{p q:List Rat}(hp:p.length≤P)(hq:q.length≤Q)(h:(S+1)*3 ^ max P (Q+1)≤K):GZ K S p q:=by
 have h1:=ai p;have h2:=ai q;exact ⟨S,nXd _,Or.inl (nXe (nXf _ (nXo (by decide) (by rw [aD,aD];omega))) h)⟩
theorem yZ{a b:List Rat}{S:Nat}(ha:∀ x ∈ a,Wz S x)(hb:∀ x ∈ b,Wz S x)(hN:2*(ln a+ln b)≤W32):Eg ((S+1)*(ln a+ln b)) a b:=by
 by_cases hbn:tz b=[]
 ·intro c e h;cases h with
  | start hc he=>rw [show ax e=[] from cD.2 (he.nil.2 hbn)];intro x hx;simp at hx
  | @next c' e' r h h0 hr =>
   exfalso;have key:∀ c e,Es a b c e→tz e=[]:=by
    intro c e h;induction h with
    | start hc he=>exact he.nil.2 hbn
    | next h h0 hr ih=>exact absurd ih h0
   exact h0 (key _ _ h)
 ·rcases Nat.lt_or_ge (ln a) (ln b) with hl|hl
  ·-- the first remainder is a itself
   have hrem:Pr a (bP a b):=by
    have h1:=cu a hbn;have hq:tz (bA a b)=[]:=Classical.byContradiction fun hq=>by
     have h2:=j1 hq hbn;have h3:ln (subV (ar (bA a b) b) ((bP a b).map (·*-1)))=ln a:=df fun x=>by rw [em,aJ,bJ,iD a hbn x];grind
     have h4:ln (bP a b)<ln b:=nYi (ai _) h1.1;have h5:=dt (p:=bP a b) (c:=-1);have h6:=ez hq;rw [j0 (by omega)] at h3;omega
    refine ⟨1,by decide,fun n=>?_⟩;exact iE (p:=a) (q:=(bP a b).map (·*1)) (fun x=>by rw [bJ,iD a hbn x,ev_tznil.1 hq x];grind) n |>.trans (by rw [aU];grind)
   have hS:S≤(S+1)*(ln a+ln b):=by
    have hp:=ez hbn;have:(S+1)*1≤(S+1)*(ln a+ln b):=nXf _ (by omega);omega
   by_cases han:tz a=[]
   ·intro c e h;have key:∀ c e,Es a b c e→(Pr c a∧Pr e b)∨tz e=[]:=by
     intro c e h;induction h with
     | start hc he=>exact Or.inl ⟨hc,he⟩
     | @next c e r h h0 hr ih =>
      rcases ih with ⟨hc,he⟩|h1
      ·exact Or.inr (hr.nil.2 ((lD hc he hbn).nil.2 (hrem.nil.1 han)))
      ·exact absurd h1 h0
    rcases key c e h with ⟨-,h1⟩|h1
    ·intro x hx;exact (nR h1 hb x hx).mono hS
    ·rw [show ax e=[] from cD.2 h1];intro x hx;simp at hx
   ·have hE:=xz hb ha han (nYj hl) (by omega);rw [nYg (ln b)] at hE;intro c e h;have key:∀ c e,Es a b c e→(Pr c a∧Pr e b)∨Es b a c e:=by
     intro c e h;induction h with
     | start hc he=>exact Or.inl ⟨hc,he⟩
     | @next c e r h h0 hr ih =>
      right
      rcases ih with ⟨hc,he⟩|h1
      ·exact Es.start he (hr.trans ((lD hc he hbn).trans hrem.symm))
      ·exact Es.next h1 h0 hr
    rcases key c e h with ⟨-,h1⟩|h1
    ·intro x hx;exact (nR h1 hb x hx).mono hS
    ·exact hE c e h1
  ·exact xz ha hb hbn hl hN
theorem AH{K S D E P Q:Nat}{p q:List Rat}(hD:0<D)(hE:0<E)(hp:FrL S D p)(hq:FrL S E q)(hpl:p.length≤P)(hql:q.length≤Q)(hN:2*(P+Q)≤4294967296)(h:3*(((S+1)*(P+Q)+S+1)*(P+Q+3))≤K):GZ K S p q:=by
 have h1:=ai p;have h2:=ai q;have wa:∀ x ∈ ax p,Wz S x:=dM (fun x hx=>hp x (gD hx)) hD;have wb:∀ x ∈ ax q,Wz S x:=dM (fun x hx=>hq x (gD hx)) hE;have la:ln (ax p)≤P:=by show (tz (ax p)).length≤P;rw [bt,aD];omega
 have lb:ln (ax q)≤Q:=by show (tz (ax q)).length≤Q;rw [bt,aD];omega
 have hE:=yZ wa wb (by show _≤4294967296;omega);refine ⟨(S+1)*(P+Q)+S,by omega,Or.inr ⟨fun c e hs x hx=>(hE c e hs x hx).mono ?_,?_⟩⟩
 ·have:(S+1)*(ln (ax p)+ln (ax q))≤(S+1)*(P+Q):=nXf _ (by omega);omega
 ·rw [aD,aD];have:((S+1)*(P+Q)+S+1)*(max (tz p).length (tz q).length+3)≤((S+1)*(P+Q)+S+1)*(P+Q+3):=nXf _ (by omega);omega
def GcI(K:Nat)(p q a b:List Rat)(X:Nat):Prop:=tz a=a∧tz b=b∧(∀ x ∈ a,Wz X x)∧(∀ x ∈ b,Wz X x)∧1≤X∧Zk K X a b∧mX b.length (cg a) (cg b)=dp p q∧a.length≤100000∧b.length≤100000
theorem GcI.small{K:Nat}{p q a b:List Rat}{X:Nat}(h:GcI K p q a b X):X+1≤K:=h.2.2.2.2.2.1.small
theorem GcI.size{K:Nat}{p q a b:List Rat}{X:Nat}(h:GcI K p q a b X)(hb:b≠[]):X+(a.length+1-b.length)*(X+1)≤K:=h.2.2.2.2.2.1.size hb
theorem GcI.next{K:Nat}{p q a b s r:List Rat}{f:Rat}{X:Nat}(h:GcI K p q a b X)(hb:b≠[])(hd:DvP a b X X s r f):∃ X',GcI K p q b (ax r) X':=by
 obtain ⟨h1,h2,h3,h4,h5,h6,h7,h8,h9⟩:=h;obtain ⟨d0,d1,d2,d3,d4,d5,d6,d7⟩:=hd;have hl:(ax r).length=r.length:=by rw [aD,d4]
 have hbt:tz b≠[]:=by rw [h2];exact hb
 have hpr:Pr (ax r) (bP a b):=(kA r).trans (nO hbt d0 (Bd.seq s) (by rw [h2];exact d5) d7);obtain ⟨X',g1,g2,g3⟩:=h6.next h2 hb hpr (rK r) (by omega) (dM (D:=1) (fun x hx=>by
  have hw:=d3 x (by rw [d4] at hx;exact hx);exact Fr.one hw) (by decide))
 exact ⟨X',h2,bt r,fun x hx=>(h4 x hx).mono g1,g3,by omega,g2,by rw [←tf h2 hb d0 d5 d7,h7],h9,by omega⟩
theorem GcI.start{K S D E:Nat}{p q:List Rat}(hS:1≤S)(hD:0<D)(hE:0<E)(hp:FrL S D p)(hq:FrL S E q)(hg:GZ K S p q)(hpl:p.length≤100000)(hql:q.length≤100000):∃ X,GcI K p q (ax p) (ax q) X:=by
 obtain ⟨X,h1,h2⟩:=hg;have e1:=ai p;have e2:=ai q;exact ⟨X,bt p,bt q,fun x hx=>(dM (fun x hx=>hp x (gD hx)) hD x hx).mono h1,fun x hx=>(dM (fun x hx=>hq x (gD hx)) hE x hx).mono h1,by omega,h2,th p q,by rw [aD];omega,by rw [aD];omega⟩
def GcR(K:Nat)(g:List Rat):Prop:=∃ X D,FrL X D g∧1≤X∧0<D∧D<W32 ^ X∧((X+1)*3 ^ max g.length 1≤K∨3*((X+1)*(g.length+3))≤K)
theorem GcR.small{K:Nat}{g:List Rat}{X:Nat}(h:(X+1)*3 ^ max g.length 1≤K∨3*((X+1)*(g.length+3))≤K):X+1≤K / 3:=by
 rcases h with h|h
 ·have h1:(X+1)*3≤(X+1)*3 ^ max g.length 1:=nXf _ (by
   have:=nXo (n:=3) (by decide) (show 1≤max g.length 1 by omega);omega)
  omega
 ·have h1:(X+1)*1≤(X+1)*(g.length+3):=nXf _ (by omega);omega
theorem GcI.done{K:Nat}{p q a b:List Rat}{X:Nat}(h:GcI K p q a b X)(hb:b=[]):GcR K (dp p q):=by
 obtain ⟨h1,h2,h3,h4,h5,h6,h7,h8,h9⟩:=h;subst hb;have e:dp p q=cg a:=h7.symm;have hf:FrL X 1 a:=fun x hx=>Fr.one (h3 x hx)
 rw [e];have hsz:∀ n,n≤a.length→(X+1)*3 ^ max n 1≤K∨3*((X+1)*(n+3))≤K:=fun n hn=>by
  rcases h6 with h6|⟨-,h6⟩
  ·exact Or.inl (nXe (nXf _ (nXo (by decide) (by simp only [List.length_nil];omega))) h6)
  ·right
   have:(X+1)*(n+3)≤(X+1)*(max a.length ([]:List Rat).length+3):=nXf _ (by omega);omega
 by_cases ha:tz a=[]
 ·have:cg a=[]:=by unfold cg;rw [if_pos ha]
  rw [this];exact ⟨X,1,fun x hx=>by simp at hx,h5,by decide,Nat.one_lt_pow (by omega) (by decide),hsz _ (by simp)⟩
 ·exact ⟨X,ldD (tz a) 1,sM hf,h5,sW hf.tz (bZ ha) (by decide),xi hf.tz,hsz _ (by rw [eT,h1];exact nXd _)⟩
def RmI(K:Nat)(a b:List Rat)(X:Nat):Prop:=tz a=a∧tz b=b∧(∀ x ∈ a,Wz X x)∧(∀ x ∈ b,Wz X x)∧1≤X∧Zk K X a b∧(a=[]∨b.length<a.length)∧a.length≤100000∧b.length≤100000
theorem RmI.small{K:Nat}{a b:List Rat}{X:Nat}(h:RmI K a b X):X+1≤K:=h.2.2.2.2.2.1.small
theorem RmI.size{K:Nat}{a b:List Rat}{X:Nat}(h:RmI K a b X)(hb:b≠[]):X+(a.length+1-b.length)*(X+1)≤K:=h.2.2.2.2.2.1.size hb
theorem RmI.next{K:Nat}{a b s r:List Rat}{f:Rat}{X:Nat}(h:RmI K a b X)(hb:b≠[])(hf:0<f)(hd:DvP a b X X s r f):ax (r.map (·*-1))=ax ((bP a b).map (·*-1))∧∃ X',RmI K b (ax (r.map (·*-1))) X':=by
 obtain ⟨h1,h2,h3,h4,h5,h6,h7,h8,h9⟩:=h;obtain ⟨d0,d1,d2,d3,d4,d5,d6,d7⟩:=hd;have hm:tz (r.map (·*-1))=r.map (·*-1):=by rw [gX (by decide),d4]
 have hl:(ax (r.map (·*-1))).length=r.length:=by rw [aD,hm,nXk]
 have hbt:tz b≠[]:=by rw [h2];exact hb
 have hpr:Pr (ax (r.map (·*-1))) (bP a b):=((kA _).trans ⟨-1,by decide,fun n=>by rw [aU];grind⟩).trans (nO hbt d0 (Bd.seq s) (by rw [h2];exact d5) d7);obtain ⟨X',g1,g2,g3⟩:=h6.next h2 hb hpr (rK _) (by omega) (dM (D:=1) (fun x hx=>by
  rw [hm] at hx;obtain ⟨y,hy,rfl⟩:=nYd.1 hx;have hw:=(d3 y hy).neg;rw [show y*-1=-y by grind];exact Fr.one hw) (by decide))
 exact ⟨kN (by rw [h2];exact hb) hf (by rw [h2];exact d5) d7,X',h2,bt _,fun x hx=>(h4 x hx).mono g1,g3,by omega,g2,Or.inr (by omega),h9,by omega⟩
def KZ(K S n:Nat):Prop:=(S+2)*3 ^ n≤K∨3*(((S+2)*(2*n)+S+2)*(2*n+3))≤K
theorem KZ.small{K S n:Nat}(h:KZ K S n):S+2≤K:=by
 rcases h with h|h
 ·exact nXe (Nat.le_mul_of_pos_right _ (nYk (by decide))) h
 ·have:((S+2)*(2*n)+S+2)*1≤((S+2)*(2*n)+S+2)*(2*n+3):=nXf _ (by omega);omega
theorem KZ.small3{K S n:Nat}(hn:1≤n)(h:KZ K S n):S+2≤K / 3:=by
 rcases h with h|h
 ·have h1:(S+2)*3≤(S+2)*3 ^ n:=nXf _ (by
   have:=nXo (n:=3) (by decide) hn;omega)
  omega
 ·have:((S+2)*(2*n)+S+2)*1≤((S+2)*(2*n)+S+2)*(2*n+3):=nXf _ (by omega);omega
end Go.Proofs.YtafgmcimcbhhjaaGreat
