import Derived.Test.YtafgmcimcbhhjaaGreatQBK6
set_option linter.unusedVariables false
namespace Go.Proofs.YtafgmcimcbhhjaaGreat.Sg
open Go.RowKit Go.Front Go.Num Go.Stab Go.Proofs.YtafgmcimcbhhjaaGreat Sie
theorem vg{n m:Nat}{f:Nat→Rat}(h:∀ i,n≤i→f i=0):sm n f=sm (n+m) f:=by
 rw [sm_split,sm_congr (n:=m) (g:=fun _=>0) (fun i _=>h (n+i) zo),sm_zero,Rat.add_zero]
theorem tC{P:Nat}{f g:Nat→Rat}(hf:∀ i,P≤i→f i=0)(n:Nat):cv f g n=sm P (fun i=>if i≤n then f i*g (n-i) else 0):=by
 have h1:cv f g n=sm (n+1) (fun i=>if i≤n then f i*g (n-i) else 0):=sm_congr fun i hi=>by rw [if_pos zo]
 rw [h1,vg (m:=P) (fun i hi=>if_neg zo),nYj (n+1) P,←vg (fun i hi=>by
  rw [hf i hi];split
  ·exact nYb _
  ·rfl)]
def syl(P:Nat)(a b:Nat→Int)(n i:Nat):Int:=if i<P then (if i≤n then a (n-i) else 0) else (if i-P≤n then b (n-(i-P)) else 0)
theorem Ca{P Q:Nat}{a b:List Rat}{az bz x:Nat→Int}(ha:∀ i,seq a i=((az i:Int):Rat))(hb:∀ i,seq b i=((bz i:Int):Rat))(n:Nat) :
  seq (br (aq ((List.range P).map fun i=>((x i:Int):Rat)) a) (aq ((List.range Q).map fun i=>((x (P+i):Int):Rat)) b)) n=((jr (P+Q) (fun i=>syl P az bz n i*x i):Int):Rat):=by
 rw [gA,eB,eB,iG,iG,pM,sm_split]
 congr 1
 ·rw [tC (P:=P) (fun i hi=>by unfold seq;rw [dk,if_neg zo])];refine sm_congr fun i hi=>?_
  unfold syl;rw [if_pos hi];by_cases h:i≤n
  ·rw [if_pos h,if_pos h,ha,Rat.intCast_mul,nYd];unfold seq;rw [dk,if_pos hi]
  ·rw [if_neg h,if_neg h,Int.zero_mul];rfl
 ·rw [tC (P:=Q) (fun i hi=>by unfold seq;rw [dk,if_neg zo])];refine sm_congr fun i hi=>?_
  unfold syl;rw [if_neg (show ¬ P+i<P by omega),show P+i-P=i by omega];by_cases h:i≤n
  ·rw [if_pos h,if_pos h,hb,Rat.intCast_mul,nYd];unfold seq;rw [dk,if_pos hi]
  ·rw [if_neg h,if_neg h,Int.zero_mul];rfl
theorem js{S:Nat}{a:List Rat}(ha:∀ x ∈ a,Wz S x)(i:Nat):seq a i=(((seq a i).num:Int):Rat)∧(seq a i).num.natAbs<W32 ^ S:=by
 have h:Wz S (seq a i):=by
  rcases Nat.lt_or_ge i a.length with h|h
  ·exact ha _ (bU h)
  ·rw [show seq a i=0 from bH h];exact Wz.zero S
 exact ⟨h.1.eq,h.2⟩
theorem sv{a b:List Rat}{S d P Q:Nat}(ha:∀ x ∈ a,Wz S x)(hb:∀ x ∈ b,Wz S x)(hP:P+d=ln b)(hQ:Q+d=ln a)(hPQ:1≤P+Q)(hN:2*(P+Q)≤W32) :
  ∃ U V W:List Rat,ln U≤P∧ln V≤Q∧ln W≤d∧(∀ x,evV W x=evV U x*evV a x+evV V x*evV b x)∧(tz U≠[]∨tz V≠[])∧(∀ i,Wz ((S+1)*(P+Q)) (seq U i))∧(∀ i,Wz ((S+1)*(P+Q)) (seq V i))∧∀ i,Wz ((S+1)*(P+Q)) (seq W i):=by
 obtain ⟨M,hM⟩:∃ M,P+Q=M+1:=⟨P+Q-1,zo⟩;have hA1:1≤W32 ^ S:=nYn aw;obtain ⟨x,⟨i0,hi0,hx0⟩,hxb,hxe⟩:=Ey M (fun j i=>syl P (fun i=>(seq a i).num) (fun i=>(seq b i).num) (d+j) i) (W32 ^ S) (fun j i=>by
  unfold syl;split
  ·split
   ·exact nYm (js ha _).2
   ·exact Nat.zero_le _
  ·split
   ·exact nYm (js hb _).2
   ·exact Nat.zero_le _) hA1
 have hseq:=Ca (P:=P) (Q:=Q) (a:=a) (b:=b) (x:=x) (fun i=>(js ha i).1) (fun i=>(js hb i).1);have hG:2*(M+1)*W32 ^ S≤W32 ^ (S+1):=by
  rw [nXu,nYf];exact nXg _ zo
 have hGM:(2*(M+1)*W32 ^ S) ^ (M+1)≤W32 ^ ((S+1)*(P+Q)):=by
  rw [hM,Nat.pow_mul];exact Nat.pow_le_pow_left hG _
 have hG1:1≤2*(M+1)*W32 ^ S:=Nat.mul_pos zo hA1;have hG2:1<2*(M+1)*W32 ^ S:=by
  have:2*(M+1)*1≤2*(M+1)*W32 ^ S:=nXg _ hA1;omega
 have hxw:∀ i,Wz ((S+1)*(P+Q)) ((x i:Int):Rat):=fun i=>Wz.int (nXn (nYl (hxb i) (Nat.pow_lt_pow_right hG2 (Nat.lt_succ_self M))) hGM)
 refine ⟨(List.range P).map fun i=>((x i:Int):Rat),(List.range Q).map fun i=>((x (P+i):Int):Rat),br (aq ((List.range P).map fun i=>((x i:Int):Rat)) a) (aq ((List.range Q).map fun i=>((x (P+i):Int):Rat)) b),?_,?_,?_,fun y=>(by rw [ev_add5,aJ,aJ]),?_,?_,?_,?_⟩
 ·exact nXf (ae _) (by simp)
 ·exact nXf (ae _) (by simp)
 ·refine CQ fun n hn=>?_
  by_cases h1:n<d+M
  ·obtain ⟨j,rfl⟩:∃ j,n=d+j:=⟨n-d,zo⟩;rw [hseq,hM,hxe j zo];rfl
  ·refine D7 (nXf (pJ _ _) ?_);have l1:=gg ((List.range P).map fun i=>((x i:Int):Rat)) a;have l2:=gg ((List.range Q).map fun i=>((x (P+i):Int):Rat)) b;have l3:ln ((List.range P).map fun i=>((x i:Int):Rat))≤P:=nXf (ae _) (by simp);have l4:ln ((List.range Q).map fun i=>((x (P+i):Int):Rat))≤Q:=nXf (ae _) (by simp);omega
 ·rcases Nat.lt_or_ge i0 P with h|h
  ·left
   refine nYh.1 (nYl (Nat.zero_le i0) (pK ?_));unfold seq;rw [dk,if_pos h];exact fun h=>hx0 (Rat.intCast_eq_zero_iff.1 h)
  ·right
   refine nYh.1 (nYl (Nat.zero_le (i0-P)) (pK ?_));unfold seq;rw [dk,if_pos zo,show P+(i0-P)=i0 by omega];exact fun h=>hx0 (Rat.intCast_eq_zero_iff.1 h)
 ·intro i;unfold seq;rw [dk];split
  ·exact hxw i
  ·exact Wz.zero _
 ·intro i;unfold seq;rw [dk];split
  ·exact hxw _
  ·exact Wz.zero _
 ·intro n;rw [hseq,hM];refine Wz.int (nXn (nYl (wK (C:=W32 ^ S*(2*(M+1)*W32 ^ S) ^ M) (fun i _=>?_)) ?_) (by rw [←hM];exact hGM))
  ·rw [Int.natAbs_mul];refine nXy ?_ (hxb i);unfold syl;split
   ·split
    ·exact nYm (js ha _).2
    ·exact Nat.zero_le _
   ·split
    ·exact nYm (js hb _).2
    ·exact Nat.zero_le _
  ·rw [nXu,←Nat.mul_assoc,nYf ((2*(M+1)*W32 ^ S) ^ M)];refine Nat.mul_lt_mul_of_pos_right ?_ (nYn hG1);have h2:0<(M+1)*W32 ^ S:=Nat.mul_pos (Nat.succ_pos _) hA1;rw [Nat.mul_assoc 2];omega
theorem uZ{p q:List Rat}{c:Rat}(hc:c<0)(h:∀ n,seq p n=seq q n*c):av p=av (q.map (·*-1)) :=
 cF (c:=-c) (by grind) (fun n=>by rw [h,aX];grind)
theorem Aw{a b c e u v u' v':List Rat}{k:Rat}{S:Nat}(E:Eu a b c e u v u' v' k)(he:tz e≠[])(ha:∀ x ∈ a,Wz S x)(hb:∀ x ∈ b,Wz S x)(hN:2*(ln a+ln b)≤W32):∀ x ∈ av e,Wz ((S+1)*(ln a+ln b)) x:=by
 have hle:=E.le;have hlc:=E.lc;have hla:=E.la;have hlv:=E.lv;have hpe:=gP he;obtain ⟨d,hd⟩:∃ d,ln c=d+1:=⟨ln c-1,zo⟩;obtain ⟨U,V,W,hU,hV,hW,hev,hne,-,-,hWz⟩:=sv (S:=S) (d:=d) (P:=ln b-d) (Q:=ln a-d) ha hb zo zo zo zo;have c1:∀ x,evV u' x*evV V x=evV U x*evV v' x:=by
  by_cases hT:tz (subV (aq u' V) (aq U v'))=[]
  ·intro x;have:=ev_tznil.1 hT x;rw [eZ,aJ,aJ] at this;grind
  ·exfalso;have hta:tz a≠[]:=fun h=>by
    have:ln a=0:=by show (tz a).length=0;rw [h];rfl
    omega
   have h1:=mp hta hT;have h2:=gP hT;have h3:ln (aq a (subV (aq u' V) (aq U v')))=ln (subV (aq e V) (aq W v')):=dL fun x=>by
    rw [aJ,eZ,eZ,aJ,aJ,aJ,aJ,hev,E.he];grind
   have h4:=jV (aq e V) (aq W v');have h5:=gg e V;have h6:=gg W v';omega
 obtain ⟨m,hm⟩:∃ m,m=subV (aq u V) (aq v U):=⟨_,rfl⟩;have hmx:∀ x,evV m x=evV u x*evV V x-evV v x*evV U x:=fun x=>by rw [hm,eZ,aJ,aJ]
 have kV:∀ x,k*evV V x=evV m x*evV v' x:=fun x=>by rw [←E.det x,hmx];have:=c1 x;grind
 have kU:∀ x,k*evV U x=evV m x*evV u' x:=fun x=>by rw [←E.det x,hmx];have:=c1 x;grind
 have kW:∀ x,k*evV W x=evV m x*evV e x:=fun x=>by
  have h1:=kV x;have h2:=kU x;rw [hev,E.he];grind
 have hk:=E.k0;have hmn:tz m≠[]:=fun h=>by
  have z:∀ {f:List Rat} {g:List Rat},(∀ x,k*evV f x=evV m x*evV g x)→tz f=[]:=fun {f g} h1=>ev_tznil.2 fun x=>by
   have h2:=h1 x;rw [ev_tznil.1 h x,nYb] at h2;rcases nXr.1 h2 with h3|h3
   ·exact absurd h3 hk
   ·exact h3
  rcases hne with h1|h1
  ·exact h1 (z kU)
  ·exact h1 (z kV)
 have hv':tz v'≠[]:=fun h=>by
  have:ln v'=0:=by show (tz v').length=0;rw [h];rfl
  omega
 have h1:=mp hmn hv';have h2:ln (aq m v')=ln (V.map (·*k)):=dL fun x=>by rw [aJ,bJ,kV]
 have h3:=dT (p:=V) (c:=k);have h4:=jj (p:=m) (by show ln m≤1;omega);have h5:seq m 0≠0:=fun h=>hmn (ev_tznil.2 fun x=>by rw [h4 x,h])
 have h6:∀ n,seq e n=seq W n*(k / seq m 0):=fun n=>by
  have h7:=i9 (p:=W.map (·*k)) (q:=e.map (·*seq m 0)) (fun x=>by rw [bJ,bJ,kW,h4]) n;rw [aX,aX] at h7;have h9:(seq e n-seq W n*(k / seq m 0))*seq m 0=0:=by grind
  rcases nXr.1 h9 with h|h
  ·grind
  ·contradiction
 have hx:k / seq m 0≠0:=fun h=>by
  have h8:=aK (a:=k) h5;rw [h,nYb] at h8;exact hk h8.symm
 have hl:(S+1)*(ln b-d+(ln a-d))≤(S+1)*(ln a+ln b):=nXg _ zo;have hall:∀ {l:List Rat},(∀ i,Wz ((S+1)*(ln b-d+(ln a-d))) (seq l i))→∀ x ∈ av l,Wz ((S+1)*(ln a+ln b)) x:=fun {l} h x hx=>(em (D:=1) (fun y hy=>by
  obtain ⟨i,hi,rfl⟩:=dK hy;rw [bi];exact Fr.one (h i)) dZ x hx).mono hl
 rcases tri (k / seq m 0) 0 with h|h|h
 ·rw [uZ h h6];exact hall fun i=>by rw [aX,show seq W i*-1=-seq W i by grind];exact (hWz i).neg
 ·exact absurd h hx
 ·rw [cF h h6];exact hall hWz
theorem qX{a b:List Rat}{L:Nat}(h:Pr a b)(hb:∀ x ∈ b,Wz L x):∀ x ∈ av a,Wz L x:=by
 obtain ⟨c,hc,h⟩:=h;have hall:∀ {l:List Rat},(∀ i,Wz L (seq l i))→∀ x ∈ av l,Wz L x:=fun {l} h x hx=>em (D:=1) (fun y hy=>by
  obtain ⟨i,hi,rfl⟩:=dK hy;rw [bi];exact Fr.one (h i)) dZ x hx
 have hw:∀ i,Wz L (seq b i):=fun i=>⟨by rw [(js hb i).1];exact Wh.int _,(js hb i).2⟩
 rcases tri c 0 with h0|h0|h0
 ·rw [uZ (q:=b) h0 (fun n=>by rw [h n];grind)];exact hall fun i=>by rw [aX,show seq b i*-1=-seq b i by grind];exact (hw i).neg
 ·exact absurd h0 hc
 ·rw [cF (q:=b) h0 (fun n=>by rw [h n];grind)];exact hall hw
def Eg(L:Nat)(a b:List Rat):Prop:=∀ c e,Es a b c e→∀ x ∈ av e,Wz L x
theorem BB{a b:List Rat}{S:Nat}(ha:∀ x ∈ a,Wz S x)(hb:∀ x ∈ b,Wz S x)(hbn:tz b≠[])(hl:ln b≤ln a)(hN:2*(ln a+ln b)≤W32):Eg ((S+1)*(ln a+ln b)) a b:=by
 intro c e h;have hp:=gP hbn;have hS:S≤(S+1)*(ln a+ln b):=by
  have:(S+1)*1≤(S+1)*(ln a+ln b):=nXg _ zo;omega
 rcases h.eu hbn hl with ⟨-,he⟩|he|⟨u,v,u',v',k,E⟩
 ·intro x hx;exact (qX he hb x hx).mono hS
 ·rw [show av e=[] from cu.2 he];intro x hx;simp at hx
 ·by_cases he:tz e=[]
  ·rw [show av e=[] from cu.2 he];intro x hx;simp at hx
  ·exact Aw E he ha hb hN
theorem Eg.next{L:Nat}{a b r:List Rat}(h:Eg L a b)(hb:tz b≠[])(hr:Pr r (bC a b)):Eg L b r:=fun c e hs=>h c e (hs.shift hb hr)
theorem Eg.snd{L:Nat}{a b:List Rat}(h:Eg L a b):∀ x ∈ av b,Wz L x:=h a b (Es.start (Pr.refl a) (Pr.refl b))
theorem FR{a b:List Rat}{S:Nat}(ha:∀ x ∈ a,Wz S x)(hb:∀ x ∈ b,Wz S x)(hla:2≤ln a)(hlb:1≤ln b)(hc:Cp (evV a) (evV b))(hN:2*(ln a+ln b)≤W32) :
  ∃ (U V:List Rat) (w:Rat),w≠0∧ln U≤ln b∧ln V≤ln a∧(∀ x,evV U x*evV a x+evV V x*evV b x=w)∧(∀ i,Wz ((S+1)*(ln a+ln b)) (seq U i))∧(∀ i,Wz ((S+1)*(ln a+ln b)) (seq V i))∧Wz ((S+1)*(ln a+ln b)) w:=by
 obtain ⟨U,V,W,hU,hV,hW,hev,hne,hUz,hVz,hWz⟩:=sv (S:=S) (d:=1) (P:=ln b-1) (Q:=ln a-1) ha hb zo zo zo zo;have hl:(S+1)*(ln b-1+(ln a-1))≤(S+1)*(ln a+ln b):=nXg _ zo;have h4:=jj (p:=W) hW;refine ⟨U,V,seq W 0,fun h0=>?_,zo,zo,fun x=>by rw [←hev,h4],fun i=>(hUz i).mono hl,fun i=>(hVz i).mono hl,(hWz 0).mono hl⟩;have h5:∀ x,evV U x*evV a x+evV V x*evV b x=0:=fun x=>by rw [←hev,h4,h0]
 have hta:tz a≠[]:=fun h=>by
  have:ln a=0:=by show (tz a).length=0;rw [h];rfl
  omega
 have hV0:tz V=[]:=Classical.byContradiction fun hn=>by
  have h6:Dv (evV a) (evV V):=hc.dv (Pf.ev V) ⟨_,(Pf.ev U).smul (-1),fun x=>by have:=h5 x;grind⟩;have h7:=mA h6 hn;have h8:ln a≤ln V:=h7;omega
 have hU0:tz U=[]:=ev_tznil.2 fun x=>by
  have h6:=jP (f:=evV a) (g:=evV U) (h:=fun _=>0) (Pf.ev a) (Pf.ev U) (Pf.const 0) (fun x=>by have:=h5 x;rw [ev_tznil.1 hV0 x] at this;grind) (rv hta) x;exact h6
 rcases hne with h|h
 ·exact h hU0
 ·exact h hV0
end Go.Proofs.YtafgmcimcbhhjaaGreat.Sg
/- Sizes in Euclid's algorithm: with a factor of 3 a round, or by the bound of all members. Plain facts. -/
namespace Go.Proofs.YtafgmcimcbhhjaaGreat
open Go.RowKit Go.Front Go.Num Stab Sg
theorem gO{p:List Rat}{x:Rat}(h:x ∈ tz p):x ∈ p:=by
 rw [jB p] at h;exact List.mem_of_mem_take h
theorem uP(d:Nat)(hd:1≤d):2+d≤3 ^ d:=by
 induction d with
 | zero=>omega
 | succ d ih =>
  rcases Nat.eq_zero_or_pos d with h|h
  ·subst h;decide
  ·have:=ih h;rw [nXu];omega
theorem CZ(la lb:Nat):(1+(la+1-lb))*3 ^ lb≤3 ^ max la (lb+1):=by
 rcases Nat.lt_or_ge lb la with h|h
 ·obtain ⟨d,rfl⟩:∃ d,la=lb+d:=⟨la-lb,zo⟩;rw [show max (lb+d) (lb+1)=lb+d by omega,Nat.pow_add,nYf];exact nXg _ (by have:=uP d zo;omega)
 ·rw [show max la (lb+1)=lb+1 by omega,nXu,nYf];exact nXg _ zo
theorem Ap{X la lb lr L:Nat}(h:(X+1)*3 ^ max la (lb+1)≤L)(hr:lr+1≤lb):(X+(la+1-lb)*(X+1)+1)*3 ^ max lb (lr+1)≤L:=by
 have h1:X+(la+1-lb)*(X+1)+1=(X+1)*(1+(la+1-lb)):=by rw [Nat.mul_add (X+1) 1,nYf (X+1) (la+1-lb)];omega
 rw [h1,Nat.mul_assoc,show max lb (lr+1)=lb by omega];exact nXf (nXg _ (CZ la lb)) h
theorem uX(p:List Rat):av (av p)=av p:=by
 by_cases h:tz p=[]
 ·rw [cu.2 h];rfl
 ·exact (cF (p:=p) (q:=av p) (bM h) (fun n=>by rw [cQ p n];grind)).symm
def Zk(K X:Nat)(a b:List Rat):Prop:=(X+1)*3 ^ max a.length (b.length+1)≤K∨(Eg X a b∧3*((X+1)*(max a.length b.length+3))≤K)
theorem Zk.small{K X:Nat}{a b:List Rat}(h:Zk K X a b):X+1≤K:=by
 rcases h with h|⟨-,h⟩
 ·have:X+1≤(X+1)*3 ^ max a.length (b.length+1):=Nat.le_mul_of_pos_right _ (nYn dZ);omega
 ·have:(X+1)*1≤(X+1)*(max a.length b.length+3):=nXg _ zo;omega
theorem Zk.dsz{K X:Nat}{a b:List Rat}(h:Zk K X a b):X+(a.length+1)*(X+1)≤K:=by
 have h4:(X+1)*(a.length+2)≤K:=by
  rcases h with h|⟨-,h⟩
  ·have h2:a.length+2≤3 ^ max a.length (b.length+1):=by
    have h3:=uP (max a.length (b.length+1)) zo;omega
   exact nXf (nXg _ h2) h
  ·have:(X+1)*(a.length+2)≤(X+1)*(max a.length b.length+3):=nXg _ zo;omega
 rw [show (a.length+1)*(X+1)=(X+1)*(a.length+1) from nYf _ _];rw [show a.length+2=(a.length+1)+1 from rfl,Nat.mul_succ] at h4;omega
theorem Zk.size{K X:Nat}{a b:List Rat}(h:Zk K X a b)(hb:b≠[]):X+(a.length+1-b.length)*(X+1)≤K:=by
 have h1:=h.dsz;have h2:(a.length+1-b.length)*(X+1)≤(a.length+1)*(X+1):=nXh _ zo;omega
theorem Zk.next{K X:Nat}{a b r:List Rat}(h:Zk K X a b)(hbt:tz b=b)(hb:b≠[])(hr:Pr r (bC a b))(hs:av r=r)(hl:r.length<b.length)(hw:∀ x ∈ r,Wz (X+(a.length+1-b.length)*(X+1)) x):∃ X',X≤X'∧Zk K X' b r∧∀ x ∈ r,Wz X' x:=by
 rcases h with h|⟨hE,h⟩
 ·exact ⟨_,Nat.le_add_right _ _,Or.inl (Ap h zo),hw⟩
 ·have hE2:=hE.next (by rw [hbt];exact hb) hr;refine ⟨X,nXe _,Or.inr ⟨hE2,?_⟩,by have:=hE2.snd;rwa [hs] at this⟩;have:(X+1)*(max b.length r.length+3)≤(X+1)*(max a.length b.length+3):=nXg _ zo;omega
def GZ(K S:Nat)(p q:List Rat):Prop:=∃ X,S≤X∧Zk K X (av p) (av q)
theorem Fd{K S P Q:Nat}{p q:List Rat}(hp:p.length≤P)(hq:q.length≤Q)(h:(S+1)*3 ^ max P (Q+1)≤K):GZ K S p q:=by
 have h1:=ae p;have h2:=ae q;exact ⟨S,nXe _,Or.inl (nXf (nXg _ (nXp dZ (by rw [ay,ay];omega))) h)⟩
theorem Dh{a b:List Rat}{S:Nat}(ha:∀ x ∈ a,Wz S x)(hb:∀ x ∈ b,Wz S x)(hN:2*(ln a+ln b)≤W32):Eg ((S+1)*(ln a+ln b)) a b:=by
 by_cases hbn:tz b=[]
 ·intro c e h;cases h with
  | start hc he=>rw [show av e=[] from cu.2 (he.nil.2 hbn)];intro x hx;simp at hx
  | @next c' e' r h h0 hr =>
   exfalso;have key:∀ c e,Es a b c e→tz e=[]:=by
    intro c e h;induction h with
    | start hc he=>exact he.nil.2 hbn
    | next h h0 hr ih=>exact absurd ih h0
   exact h0 (key _ _ h)
 ·rcases Nat.lt_or_ge (ln a) (ln b) with hl|hl
  ·-- the first remainder is a itself
   have hrem:Pr a (bC a b):=by
    have h1:=cx a hbn;have hq:tz (bE a b)=[]:=Classical.byContradiction fun hq=>by
     have h2:=mp hq hbn;have h3:ln (subV (aq (bE a b) b) ((bC a b).map (·*-1)))=ln a:=dL fun x=>by rw [eZ,aJ,bJ,j0 a hbn x];grind
     have h4:ln (bC a b)<ln b:=nYl (ae _) h1.1;have h5:=dT (p:=bC a b) (c:=-1);have h6:=gP hq;rw [mo zo] at h3;omega
    refine ⟨1,dZ,fun n=>?_⟩;exact i9 (p:=a) (q:=(bC a b).map (·*1)) (fun x=>by rw [bJ,j0 a hbn x,ev_tznil.1 hq x];grind) n |>.trans (by rw [aX];grind)
   have hS:S≤(S+1)*(ln a+ln b):=by
    have:(S+1)*1≤(S+1)*(ln a+ln b):=nXg _ zo;omega
   by_cases han:tz a=[]
   ·intro c e h;have key:∀ c e,Es a b c e→(Pr c a∧Pr e b)∨tz e=[]:=by
     intro c e h;induction h with
     | start hc he=>exact Or.inl ⟨hc,he⟩
     | @next c e r h h0 hr ih =>
      rcases ih with ⟨hc,he⟩|h1
      ·exact Or.inr (hr.nil.2 ((lT hc he hbn).nil.2 (hrem.nil.1 han)))
      ·exact absurd h1 h0
    rcases key c e h with ⟨-,h1⟩|h1
    ·intro x hx;exact (qX h1 hb x hx).mono hS
    ·rw [show av e=[] from cu.2 h1];intro x hx;simp at hx
   ·have hE:=BB hb ha han (nYm hl) zo;rw [nYj (ln b)] at hE;intro c e h;have key:∀ c e,Es a b c e→(Pr c a∧Pr e b)∨Es b a c e:=by
     intro c e h;induction h with
     | start hc he=>exact Or.inl ⟨hc,he⟩
     | @next c e r h h0 hr ih =>
      right
      rcases ih with ⟨hc,he⟩|h1
      ·exact Es.start he (hr.trans ((lT hc he hbn).trans hrem.symm))
      ·exact Es.next h1 h0 hr
    rcases key c e h with ⟨-,h1⟩|h1
    ·intro x hx;exact (qX h1 hb x hx).mono hS
    ·exact hE c e h1
  ·exact BB ha hb hbn hl hN
theorem Fc{K S D E P Q:Nat}{p q:List Rat}(hD:0<D)(hE:0<E)(hp:FrL S D p)(hq:FrL S E q)(hpl:p.length≤P)(hql:q.length≤Q)(hN:2*(P+Q)≤4294967296)(h:3*(((S+1)*(P+Q)+S+1)*(P+Q+3))≤K):GZ K S p q:=by
 have h1:=ae p;have h2:=ae q;have wa:∀ x ∈ av p,Wz S x:=em (fun x hx=>hp x (gO hx)) hD;have wb:∀ x ∈ av q,Wz S x:=em (fun x hx=>hq x (gO hx)) hE;have la:ln (av p)≤P:=by show (tz (av p)).length≤P;rw [bj,ay];omega
 have lb:ln (av q)≤Q:=by show (tz (av q)).length≤Q;rw [bj,ay];omega
 have hE:=Dh wa wb (by show _≤4294967296;omega);refine ⟨(S+1)*(P+Q)+S,zo,Or.inr ⟨fun c e hs x hx=>(hE c e hs x hx).mono ?_,?_⟩⟩
 ·have:(S+1)*(ln (av p)+ln (av q))≤(S+1)*(P+Q):=nXg _ zo;omega
 ·rw [ay,ay];have:((S+1)*(P+Q)+S+1)*(max (tz p).length (tz q).length+3)≤((S+1)*(P+Q)+S+1)*(P+Q+3):=nXg _ zo;omega
def GcI(K:Nat)(p q a b:List Rat)(X:Nat):Prop:=tz a=a∧tz b=b∧(∀ x ∈ a,Wz X x)∧(∀ x ∈ b,Wz X x)∧1≤X∧Zk K X a b∧pW b.length (bF a) (bF b)=cY p q∧a.length≤100000∧b.length≤100000
theorem GcI.small{K:Nat}{p q a b:List Rat}{X:Nat}(h:GcI K p q a b X):X+1≤K:=h.2.2.2.2.2.1.small
theorem GcI.dsz{K:Nat}{p q a b:List Rat}{X:Nat}(h:GcI K p q a b X):X+(a.length+1)*(X+1)≤K:=h.2.2.2.2.2.1.dsz
theorem GcI.size{K:Nat}{p q a b:List Rat}{X:Nat}(h:GcI K p q a b X)(hb:b≠[]):X+(a.length+1-b.length)*(X+1)≤K:=h.2.2.2.2.2.1.size hb
theorem GcI.next{K:Nat}{p q a b s r:List Rat}{f:Rat}{X:Nat}(h:GcI K p q a b X)(hb:b≠[])(hd:DvP a b X X s r f):∃ X',GcI K p q b (av r) X':=by
 obtain ⟨h1,h2,h3,h4,h5,h6,h7,h8,h9⟩:=h;obtain ⟨d0,d1,d2,d3,d4,d5,d6,d7⟩:=hd;have hl:(av r).length=r.length:=by rw [ay,d4]
 have hbt:tz b≠[]:=by rw [h2];exact hb
 have hpr:Pr (av r) (bC a b):=(jG r).trans (nW hbt d0 (Bd.seq s) (by rw [h2];exact d5) d7);obtain ⟨X',g1,g2,g3⟩:=h6.next h2 hb hpr (uX r) zo (em (D:=1) (fun x hx=>by
  have hw:=d3 x (by rw [d4] at hx;exact hx);exact Fr.one hw) dZ)
 exact ⟨X',h2,bj r,fun x hx=>(h4 x hx).mono g1,g3,zo,g2,by rw [←wW h2 hb d0 d5 d7,h7],h9,zo⟩
theorem GcI.start{K S D E:Nat}{p q:List Rat}(hS:1≤S)(hD:0<D)(hE:0<E)(hp:FrL S D p)(hq:FrL S E q)(hg:GZ K S p q)(hpl:p.length≤100000)(hql:q.length≤100000):∃ X,GcI K p q (av p) (av q) X:=by
 obtain ⟨X,h1,h2⟩:=hg;have e1:=ae p;have e2:=ae q;exact ⟨X,bj p,bj q,fun x hx=>(em (fun x hx=>hp x (gO hx)) hD x hx).mono h1,fun x hx=>(em (fun x hx=>hq x (gO hx)) hE x hx).mono h1,zo,h2,wY p q,by rw [ay];omega,by rw [ay];omega⟩
def GcR(K:Nat)(g:List Rat):Prop:=∃ X D,FrL X D g∧1≤X∧0<D∧D<W32 ^ X∧((X+1)*3 ^ max g.length 1≤K∨3*((X+1)*(g.length+3))≤K)
theorem GcR.small{K:Nat}{g:List Rat}{X:Nat}(h:(X+1)*3 ^ max g.length 1≤K∨3*((X+1)*(g.length+3))≤K):X+1≤K / 3:=by
 rcases h with h|h
 ·have h1:(X+1)*3≤(X+1)*3 ^ max g.length 1:=nXg _ (by
   have:=nXp (n:=3) dZ (show 1≤max g.length 1 by omega);omega)
  omega
 ·have h1:(X+1)*1≤(X+1)*(g.length+3):=nXg _ zo;omega
theorem GcI.done{K:Nat}{p q a b:List Rat}{X:Nat}(h:GcI K p q a b X)(hb:b=[]):GcR K (cY p q):=by
 obtain ⟨h1,h2,h3,h4,h5,h6,h7,h8,h9⟩:=h;subst hb;have e:cY p q=bF a:=h7.symm;have hf:FrL X 1 a:=fun x hx=>Fr.one (h3 x hx)
 rw [e];have hsz:∀ n,n≤a.length→(X+1)*3 ^ max n 1≤K∨3*((X+1)*(n+3))≤K:=fun n hn=>by
  rcases h6 with h6|⟨-,h6⟩
  ·exact Or.inl (nXf (nXg _ (nXp dZ (by simp only [List.length_nil];omega))) h6)
  ·right
   have:(X+1)*(n+3)≤(X+1)*(max a.length ([]:List Rat).length+3):=nXg _ zo;omega
 by_cases ha:tz a=[]
 ·have:bF a=[]:=by unfold bF;rw [if_pos ha]
  rw [this];exact ⟨X,1,fun x hx=>by simp at hx,h5,dZ,Nat.one_lt_pow zo dZ,hsz _ (by simp)⟩
 ·exact ⟨X,ldD (tz a) 1,wA hf,h5,oA hf.tz (co ha) dZ,s5 hf.tz,hsz _ (by rw [dm,h1];exact nXe _)⟩
def RmI(K:Nat)(a b:List Rat)(X:Nat):Prop:=tz a=a∧tz b=b∧(∀ x ∈ a,Wz X x)∧(∀ x ∈ b,Wz X x)∧1≤X∧Zk K X a b∧(a=[]∨b.length<a.length)∧a.length≤100000∧b.length≤100000
theorem RmI.small{K:Nat}{a b:List Rat}{X:Nat}(h:RmI K a b X):X+1≤K:=h.2.2.2.2.2.1.small
theorem RmI.dsz{K:Nat}{a b:List Rat}{X:Nat}(h:RmI K a b X):X+(a.length+1)*(X+1)≤K:=h.2.2.2.2.2.1.dsz
theorem RmI.size{K:Nat}{a b:List Rat}{X:Nat}(h:RmI K a b X)(hb:b≠[]):X+(a.length+1-b.length)*(X+1)≤K:=h.2.2.2.2.2.1.size hb
theorem RmI.next{K:Nat}{a b s r:List Rat}{f:Rat}{X:Nat}(h:RmI K a b X)(hb:b≠[])(hf:0<f)(hd:DvP a b X X s r f):av (r.map (·*-1))=av ((bC a b).map (·*-1))∧∃ X',RmI K b (av (r.map (·*-1))) X':=by
 obtain ⟨h1,h2,h3,h4,h5,h6,h7,h8,h9⟩:=h;obtain ⟨d0,d1,d2,d3,d4,d5,d6,d7⟩:=hd;have hm:tz (r.map (·*-1))=r.map (·*-1):=by rw [fT dZ,d4]
 have hl:(av (r.map (·*-1))).length=r.length:=by rw [ay,hm,nXl]
 have hbt:tz b≠[]:=by rw [h2];exact hb
 have hpr:Pr (av (r.map (·*-1))) (bC a b):=((jG _).trans ⟨-1,dZ,fun n=>by rw [aX];grind⟩).trans (nW hbt d0 (Bd.seq s) (by rw [h2];exact d5) d7);obtain ⟨X',g1,g2,g3⟩:=h6.next h2 hb hpr (uX _) zo (em (D:=1) (fun x hx=>by
  rw [hm] at hx;obtain ⟨y,hy,rfl⟩:=nYg.1 hx;have hw:=(d3 y hy).neg;rw [show y*-1=-y by grind];exact Fr.one hw) dZ)
 exact ⟨np (by rw [h2];exact hb) hf (by rw [h2];exact d5) d7,X',h2,bj _,fun x hx=>(h4 x hx).mono g1,g3,zo,g2,Or.inr zo,h9,zo⟩
def KZ(K S n:Nat):Prop:=(S+2)*3 ^ n≤K∨3*(((S+2)*(2*n)+S+2)*(2*n+3))≤K
theorem KZ.small{K S n:Nat}(h:KZ K S n):S+2≤K:=by
 rcases h with h|h
 ·exact nXf (Nat.le_mul_of_pos_right _ (nYn dZ)) h
 ·have:((S+2)*(2*n)+S+2)*1≤((S+2)*(2*n)+S+2)*(2*n+3):=nXg _ zo;omega
theorem KZ.small3{K S n:Nat}(hn:1≤n)(h:KZ K S n):S+2≤K / 3:=by
 rcases h with h|h
 ·have h1:(S+2)*3≤(S+2)*3 ^ n:=nXg _ (by
   have:=nXp (n:=3) dZ hn;omega)
  omega
 ·have:((S+2)*(2*n)+S+2)*1≤((S+2)*(2*n)+S+2)*(2*n+3):=nXg _ zo;omega
end Go.Proofs.YtafgmcimcbhhjaaGreat
/- Py6, Py7, Py8 -/
set_option maxRecDepth 8000
set_option maxHeartbeats 8000000
namespace Go.Proofs.YtafgmcimcbhhjaaGreat
open Go.RowKit Go.Front Go.Num Stab
attribute [local go_sem] XW.cell XW.frozen
theorem nj(ao:Option Addr)(n cap:Nat)(l:List Rat)(S:Nat)(w:World)(h:aD w ⟨ao,n,cap⟩ l)(hn:n≤1000000)(hS:S≤16777216)(hz:SzL S l) :
  ak 187 [.slice ao n cap] w SH.v (fun x w'=>aD w' x (bF l)):=by
 have HX:=Hi (Ext.refl w);have LP:=Hi h.lin;have hle:=h.le;have hmx:=h.max;have Hlen:=Hi h.len;simp only at hle hmx Hlen;have HSz:=Hi hz;clear h hz;unfold ak;go_enter Tryz.func187,Tryz.ntmps187
 go_wp2_with fail
 refine cM (eh ao n cap l _ (LP.out.can.raw HSz.out zo)) fun x2 w2 hE G2=>?_
 refine mV2 hE ?_ HX LP;clear HX LP;intro HX LP;have hs_w2:=hE.size;obtain ⟨q1,q2⟩:=G2.out;obtain ⟨P,hP⟩:∃ P,P=(tz l).length:=⟨_,rfl⟩;obtain ⟨p,hp⟩:∃ p,p=tz l:=⟨_,rfl⟩;have LQ:Hid (LIn w2 ⟨ao,P,cap⟩ p 0 w.heap.size):=Hi (by rw [hp,q1,hP];exact LP.out.take q2);have HPl:Hid (p.length=P):=Hi (by rw [hp,hP]);have HTZ:Hid (p=tz l):=Hi hp;have HSp:Hid (SzL S p):=Hi (fun x hx=>HSz.out x (by rw [hp,q1] at hx;exact List.mem_of_mem_take hx));have hPn:P≤n:=zo;rw [←hP];clear hP hp q1 q2 G2 HSz Hlen;clear LP;by_cases h0:P=0
 case pos =>
  subst h0;have HV:Hid (bF l=[]):=Hi (by unfold bF;rw [if_pos (by rw [←HTZ.out];exact nXj.1 HPl.out)]);go_wp2
  go_ret
  exact ⟨⟨none,0,0⟩,rfl,HX.out,by rw [HV.out];exact (bW.nil 0 _).can⟩
 obtain ⟨m,rfl⟩:∃ m,P=m+1:=⟨P-1,zo⟩;have hz0:((m:Int)+1 == 0)=false:=by rw [nXs];omega
 have Hne:Hid (tz l≠[]):=Hi (by rw [←HTZ.out];intro h;have:=HPl.out;rw [h] at this;simp at this);have HL:Hid (aO (tz l)=p.getD m 0):=Hi (by unfold aO;rw [←HTZ.out,HPl.out];rfl);have HL0:Hid (p.getD m 0≠0):=Hi (by rw [←HL.out];exact co Hne.out);obtain ⟨b,off,r,hao,hbl,⟨hc1,hc2,hc3⟩,hPc⟩:=LQ.out.celx (k:=m) zo;obtain ⟨rneg,ra,rn,rc,rb,rm,rd⟩:=r;simp only at hc1 hc2 hc3;have HC:=Hi hPc;clear hPc h0;subst hao;have Zc:Hid (Sz S (p.getD m 0)):=Hi (HSp.out.at (by rw [HPl.out];omega))
 go_upto_region 4 with fail
 refine aF [(12,10)] _ (by simp only [gI,kH,List.push_toArray,List.cons_append,List.nil_append];exact rfl) (by intro c a d v w h;cases d <;> exact h) 12 (fun opIx=>match opIx with
  | 0=>sR (((1:Int):Rat))
  | 7=>.spec (RH) (default) (fun s=>.tuple #[s.v,.int .i64 0]) (fun x w'=>aA w' x (((1:Int):Rat) / p.getD m 0))
  | 11=>.alloc 34 #[.bool false,.slice none 0 0,.slice none 0 0]
  | _=>.quiet) (fun|7=>[0]|_=>[]) kZ kZ kZ (fun w0 he0 hz0 hc0 hf0=>?_)
 replace he0:=Hi he0;simp only [pT];refine qQ ?_;refine wps he0 (fun w1 hW hG=>?_) fun x20=>?_
 ·exact spc [.int .i64 1] Tryz.func84 (aL 1 _ dZ dZ)
 refine qZ ?_;refine wps he0 (fun w1 hW hG=>?_) fun x21=>?_
 ·have g20:=gS (hG 0 dZ);exact spc [x20.v,RH.v ⟨rneg,ra,rn,rc,rb,rm,rd⟩] Tryz.func121 (bZ x20 _ _ _ _ (g20.raw (Sz.int dZ) dZ) ((HC.out.ext hW).raw Zc.out zo) HL0.out)
 refine qZ ?_;refine aQ rfl rfl (fun w=>by simp [execOp,go_sem,ptr]) (fun b4 hb4 hl4=>?_);refine qZ ?_;refine aj ?_;intro w4 hI;have hE:=he0.out.trans hI.ext;have G21:=gT (hI.facts 7);have A4:Hid (w4.heap[b4]?=some (.cells #[.bool false,.slice none 0 0,.slice none 0 0] 34 (0,0))):=hI.facts 11;rw [hz0] at hl4;clear hI he0 hz0 hc0 hf0;refine mV2 hE ?_ HX LQ;clear HX LQ;intro HX LQ;replace b_A4:=bX3 A4;simp only [pD,ptr];clear hc1 hc2 hc3 hbl;have ZI:Hid (Sz (1+S) (((1:Int):Rat) / p.getD m 0)):=Hi ((Sz.int dZ).div Zc.out);have HZ8:Hid (SzL 33554432 p):=Hi (fun x hx=>(HSp.out x hx).mono zo)
 go_upto_region 5 with fail
 refine aU A4.out rfl ?_;intro w5 T;replace HX:=Hi (T.ext HX.out zo);replace LQ:=Hi (LQ.out.put T zo);replace A4:=Hi (T.bx);replace G21:=Hi (G21.out.keep T.keep);clear T;replace b_A4:=bX3 A4
 go_wp2_with fail
 refine cM (bK (some ⟨b,off,none⟩) (m+1) cap p x21 (((1:Int):Rat) / p.getD m 0) _ (LQ.out.can.raw HSp.out zo) (G21.out.raw ZI.out zo) zo HZ8.out (ZI.out.mono zo)) fun x6 w6 hE G6=>?_
 replace HX:=hE.tr HX;go_wp2
 go_ret
 exact ⟨x6,rfl,HX.out,by show aD w6 x6 (bF l);unfold bF;rw [if_neg Hne.out,HL.out,←HTZ.out];exact G6.out.can⟩
abbrev QT(x:SH×SH):Value:=.tuple #[x.1.v,x.2.v,.int .i64 0]
def RIn(w:World)(s:SH)(l:List Rat)(N:Nat):Prop:=ct w s l∧(s.n=0∨∃ L o,s.a=some ⟨L,o,none⟩∧L<N)
theorem RIn.of{w:World}{s:SH}{l:List Rat}(h:ct w s l):RIn w s l w.heap.size:=by
 refine ⟨h,?_⟩;obtain ⟨rs,h1,-⟩:=h;rcases h1.at' with h0|⟨b,off,e,hc⟩
 ·exact Or.inl h0
 ·rcases Nat.eq_zero_or_pos s.n with h0|h0
  ·exact Or.inl h0
  ·exact Or.inr ⟨b,off,e,nXq _ _ (hc 0 h0).1⟩
theorem RIn.raw{w:World}{s:SH}{l:List Rat}{N:Nat}(h:RIn w s l N):ct w s l:=h.1
theorem RIn.ext{w w':World}{s:SH}{l:List Rat}{N:Nat}(h:RIn w s l N)(he:Ext w w'):RIn w' s l N:=⟨h.1.ext he,h.2⟩
instance {w w':World} {s:SH} {l:List Rat} {N:Nat}:Go.Front.Mv w w' (RIn w s l N) (RIn w' s l N):=⟨fun e h=>RIn.ext h e⟩

theorem RIn.put{w1 w2:World}{s:SH}{l:List Rat}{N b:Nat}{T:TypeId}{cs:Array Value}(h:RIn w1 s l N)(T2:gv w1 b T cs w2)(hb:N≤b):RIn w2 s l N:=by
 refine ⟨?_,h.2⟩;obtain ⟨⟨rs,h1,h2⟩,h3⟩:=h;refine ⟨rs,⟨h1.len,h1.le,h1.max,?_⟩,h2.rawkeep T2.keep⟩;rcases h1.at' with h0|⟨c,off,e,hc⟩
 ·exact Or.inl h0
 ·rcases h3 with h0|⟨L,o,e2,hL⟩
  ·exact Or.inl h0
  ·have hcb:c≠b:=by
    rw [e] at e2;simp only [Option.some.injEq,Addr.mk.injEq] at e2;omega
   exact Or.inr ⟨c,off,e,fun k hk=>⟨T2.cell hcb (hc k hk).1,T2.cell hcb (hc k hk).2.1,T2.cell hcb (hc k hk).2.2⟩⟩
theorem ri(pa qa:Option Addr)(P pc Q qc:Nat)(p q:List Rat)(S U D E:Nat)(w:World)(hp:ct w ⟨pa,P,pc⟩ p)(hq:aD w ⟨qa,Q,qc⟩ q)(hP:P≤100000)(hQ:Q≤100000)
 (hS:1≤S)(hU:1≤U)(hD:0<D)(hD2:D<W32 ^ S)(hEn:0<E)(hE2:E<W32 ^ U)(hpf:∀ x ∈ p,Fr S D x)(hqf:∀ x ∈ q,Fr U E x)(hq0:tz q≠[])(hsz:S+P*(U+1)≤25000000)(hSU:S+U≤8000000) :
  ak 186 [.slice pa P pc,.slice qa Q qc] w QT (fun x w'=>aD w' x.1 (bE p q)∧aD w' x.2 (bC p q)):=by
 have HX:=Hi (Ext.refl w);have LP:=Hi (RIn.of hp);have LQ:=Hi hq.lin;have HPF:=Hi hpf;have HQF:=Hi hqf;have HQ0:=Hi hq0;have HPl:Hid (p.length=P):=Hi hp.len;have HQl:Hid (q.length=Q):=Hi hq.len;clear hp hq hpf hqf hq0;unfold ak;go_enter Tryz.func186,Tryz.ntmps186
 go_wp2_with fail
 refine cM (f7 pa P pc p S D _ LP.out.raw zo hS zo hD hD2 HPF.out) fun x1 w1 hE G1=>?_
 refine mV2 hE ?_ HX LQ;clear HX LQ;intro HX LQ;obtain ⟨xs,xa⟩:=x1;have HXS:=Hi G1.out.1;have HXA:=Hi G1.out.2;clear G1;simp only [MT] at *
 go_upto_region 2 with fail
 refine nmA ?_;intro w2 hE B7 hz_w2 hr_w2;refine mV4 hE ?_ HX LQ HXS HXA;clear HX LQ HXS HXA;intro HX LQ HXS HXA
 go_wp2_with fail
 refine cM (kq qa Q qc q U E _ LQ.out.can zo hU zo hEn hE2 HQF.out) fun x3 w3 hE G3=>?_
 refine mV4 hE ?_ B7 HX HXS HXA;clear B7 HX HXS HXA;intro B7 HX HXS HXA;obtain ⟨ys,ya⟩:=x3;have HYS:=Hi G3.out.1;have HYA:=Hi G3.out.2;clear G3;simp only [MT] at *
 clear LP;clear LQ
 go_upto_region 3 with fail
 refine nmA ?_;intro w4 hE B9 hz_w4 hr_w4;refine mV6 hE ?_ B7 HX HXS HXA HYS HYA;clear B7 HX HXS HXA HYS HYA;intro B7 HX HXS HXA HYS HYA;obtain ⟨La,hLa,rfl,hra⟩:=HXA.out;obtain ⟨Lb,hLb,rfl,hrb⟩:=HYA.out;have HA:=Hi hra;have HB:=Hi hrb;obtain ⟨N,hN⟩:∃ N,N=(av p).length:=⟨_,rfl⟩;obtain ⟨m,hm⟩:∃ m,(av q).length=m+1:=⟨(tz q).length-1,by rw [ay];have:=nYh.2 HQ0.out;omega⟩;have hNP:N≤P:=by rw [hN,ay,←HPl.out];exact ae p
 have hmQ:m+1≤Q:=by rw [←hm,ay,←HQl.out];exact ae q
 have HN:=Hi hN;have HM:=Hi hm;rw [←hN,hm];clear hra hrb hN hm hLa hLb;clear HXA;clear HYA;have hz0:((m:Int)+1 == 0)=false:=by rw [nXs];omega
 have hmul:(N-m)*(U+1)≤P*(U+1):=nXh _ zo
 go_wp2_with fail
 refine cM (lZ (some ⟨La,0,none⟩) (some ⟨Lb,0,none⟩) N N m (m+1) (av p) (av q) S U _ (HA.out.can HN.out.symm (nXe _) zo) (HB.out.can HM.out (nXe _) zo) (em (fun x hx=>HPF.out x (gO hx)) hD) (em (fun x hx=>HQF.out x (gO hx)) hEn) hS hU (bj p) (bj q) zo zo zo zo) fun x5 w5 hE G5=>?_
 refine mV5 hE ?_ B9 B7 HX HXS HYS;clear B9 B7 HX HXS HYS;intro B9 B7 HX HXS HYS;obtain ⟨ss,rr,ff⟩:=x5;obtain ⟨s,r,f,hdv,h1,h2,h3⟩:=G5.out;have HDv:=Hi hdv;have HS1:=Hi h1.lin;have HR1:=Hi h2.lin;have HF1:=Hi h3;clear h1 h2 h3 G5 hdv;simp only [DT] at *
 clear HA;clear HB
 go_upto_region 6 with fail
 refine nmA ?_;intro w6 hE B13 hz_w6 hr_w6;refine mV8 hE ?_ B9 B7 HX HXS HYS HS1 HR1 HF1;clear B9 B7 HX HXS HYS HS1 HR1 HF1;intro B9 B7 HX HXS HYS HS1 HR1 HF1;replace b_B7:=bX3 B7;replace b_B13:=bX3 B13;have ZS:Hid (Sz S (aM p)):=Hi ((gD (fun x hx=>HPF.out x (gO hx))).sz hS hD hD2);have ZU:Hid (Sz U (aM q)):=Hi ((gD (fun x hx=>HQF.out x (gO hx))).sz hU hEn hE2);obtain ⟨d0,d1,d2,d3,d4,d5,d6,d7⟩:=HDv.out;have hbb:(N-m)*(U+1)=((av p).length+1-(av q).length)*(U+1):=by rw [←HN.out,HM.out,show N+1-(m+1)=N-m by omega]
 have hbb2:((av p).length+1-(av q).length)*U≤((av p).length+1-(av q).length)*(U+1):=nXg _ zo;have ZF:Hid (Sz 25000001 f):=Hi ((d1.mono zo).sz zo);have ZSS:Hid (SzL 25000000 s):=Hi (fun x hx=>((d2 x hx).mono zo).sz zo);have ZRR:Hid (SzL 25000000 r):=Hi (fun x hx=>((d3 x hx).mono zo).sz zo);have HF0:=Hi d0;have HPL:Hid (tz (s.map (·*(aM p / f / aM q)))=bE p q∧tz (r.map (·*(aM p / f)))=bC p q):=Hi (Ay HQ0.out d0 d5 d7);have hsn:ss.n≤1000000:=by have:=HS1.out.len;have h8:=HN.out;omega
 have hrn:rr.n≤1000000:=by have:=HR1.out.len;rw [HM.out] at d5;omega
 clear d0 d1 d2 d3 d4 d5 d6 d7 hbb hbb2 HDv
 go_wp2_with fail
 refine cM (bZ xs ff (aM p) f _ (HXS.out.raw ZS.out zo) (HF1.out.raw ZF.out zo) HF0.out) fun x7 w7 hE G7=>?_
 refine mV5 hE ?_ B9 HX HYS HS1 HR1;clear B9 HX HYS HS1 HR1;intro B9 HX HYS HS1 HR1
 go_upto_region 7 with fail
 refine nmA ?_;intro w8 hE B14 hz_w8 hr_w8;refine mV6 hE ?_ G7 B9 HX HYS HS1 HR1;clear G7 B9 HX HYS HS1 HR1;intro G7 B9 HX HYS HS1 HR1;replace b_B9:=bX3 B9;replace b_B14:=bX3 B14;have Z7:Hid (Sz (S+25000001) (aM p / f)):=Hi (ZS.out.div ZF.out)
 go_wp2_with fail
 refine cM (bZ x7 ys (aM p / f) (aM q) _ (G7.out.raw Z7.out zo) (HYS.out.raw ZU.out zo) (qN HQ0.out)) fun x9 w9 hE G9=>?_
 refine mV5 hE ?_ B14 G7 HX HS1 HR1;clear B14 G7 HX HS1 HR1;intro B14 G7 HX HS1 HR1
 go_upto_region 8 with fail
 refine nmA ?_;intro w10 hE B16 hz_w10 hr_w10;refine mV6 hE ?_ G9 B14 G7 HX HS1 HR1;clear G9 B14 G7 HX HS1 HR1;intro G9 B14 G7 HX HS1 HR1;replace b_B14:=bX3 B14;replace b_B16:=bX3 B16;have Z9:Hid (Sz (S+25000001+U) (aM p / f / aM q)):=Hi (Z7.out.div ZU.out);obtain ⟨sa,sn,sc⟩:=ss;obtain ⟨ra,rn,rc⟩:=rr;simp only at hsn hrn;simp only [SH.v];refine wpG 6 (fun opIx=>match opIx with
  | 2=>.spec (SH) (default) (SH.v) (fun x w'=>aD w' x (tz (s.map (·*(aM p / f / aM q)))))
  | 5=>.spec (SH) (default) (SH.v) (fun x w'=>aD w' x (tz (r.map (·*(aM p / f)))))
  | _=>.quiet) (fun _=>[]) fun w0 he0 hz0 hc0 hf0=>?_
 refine wps he0 (fun w1 hW hG=>?_) fun x20=>?_
 ·exact spc [.slice sa sn sc,x9.v] Tryz.func102 ((bK sa sn sc s x9 _ _ ((HS1.out.ext hW).can.raw ZSS.out dZ) ((G9.out.ext hW).raw Z9.out zo) zo (ZSS.out.mono dZ) (Z9.out.mono zo)).weak (fun _ _ _ h=>h.can))
 refine qZ ?_;refine wps he0 (fun w1 hW hG=>?_) fun x21=>?_
 ·exact spc [.slice ra rn rc,x7.v] Tryz.func102 ((bK ra rn rc r x7 _ _ ((HR1.out.ext hW).can.raw ZRR.out dZ) ((G7.out.ext hW).raw Z7.out zo) zo (ZRR.out.mono dZ) (Z7.out.mono zo)).weak (fun _ _ _ h=>h.can))
 refine qZ ?_;refine aj ?_;intro w11 hI;have hE:=he0.out.trans hI.ext;have G20:=gT (hI.facts 2);have G21:=gT (hI.facts 5);clear hI he0 hz0 hc0 hf0;replace HX:=hE.tr HX;simp only [pD];go_wp2;exact nXa (v:=QT (x20,x21)) (by simp [results,Tryz.results186,go_sem,QT]) rfl ⟨(x20,x21),rfl,HX.out,by rw [←HPL.out.1];exact G20.out,by rw [←HPL.out.2];exact G21.out⟩
theorem zL(pa qa:Option Addr)(P pc Q qc:Nat)(p q:List Rat)(S D E:Nat)(w:World)(hp:ct w ⟨pa,P,pc⟩ p)(hq:aD w ⟨qa,Q,qc⟩ q)(hP:P≤100000)(hQ:Q≤100000)
 (hS:1≤S)(hD:0<D)(hD2:D<W32 ^ S)(hEn:0<E)(hE2:E<W32 ^ S)(hpf:∀ x ∈ p,Fr S D x)(hqf:∀ x ∈ q,Fr S E x)(K:Nat)(hsz:GZ K S p q)(hK:K≤16777216) :
  ak 149 [.slice pa P pc,.slice qa Q qc] w SH.v (fun x w'=>aD w' x (cY p q)∧GcR K (cY p q)):=by
 have HX:=Hi (Ext.refl w);have LP:=Hi (RIn.of hp);have LQ:=Hi hq.lin;have HPF:=Hi hpf;have HQF:=Hi hqf;obtain ⟨X0,hX0⟩:=GcI.start hS hD hEn hpf hqf hsz (by have:=hp.len;simp only at this;omega) (by have:=hq.len;simp only at this;omega);have hSs:S+1≤16777216:=by
  obtain ⟨X1,h2,h3⟩:=hsz;have:=h3.small;omega
 have hlp:(av p).length≤P:=by have:=hp.len;have h2:=ae p;rw [ay];simp only at this;omega
 have hlq:(av q).length≤Q:=by have:=hq.len;have h2:=ae q;rw [ay];simp only at this;omega
 have HG:=Hi hX0;clear hp hq hpf hqf hsz hX0;unfold ak;go_enter Tryz.func149,Tryz.ntmps149
 go_wp2_with fail
 refine cM (f7 pa P pc p S D _ LP.out.raw zo hS zo hD hD2 HPF.out) fun x1 w1 hE G1=>?_
 refine mV2 hE ?_ HX LQ;clear HX LQ;intro HX LQ;obtain ⟨xs,xa⟩:=x1;have HXA:=Hi G1.out.2;clear G1;simp only [MT] at *
 go_upto_region 2 with fail
 refine fo ?_;intro w2 hE hB0 hz;have hz_w2:=nle hz;have hr_w2:=nle hz.symm;clear hz;refine mV3 hE ?_ HX LQ HXA;clear HX LQ HXA;intro HX LQ HXA;clear hB0
 go_wp2_with fail
 refine cM (kq qa Q qc q S E _ LQ.out.can zo hS zo hEn hE2 HQF.out) fun x3 w3 hE G3=>?_
 refine mV2 hE ?_ HX HXA;clear HX HXA;intro HX HXA;obtain ⟨ys,ya⟩:=x3;have HYA:=Hi G3.out.2;clear G3;simp only [MT] at *
 clear LP;clear LQ
 (try clear c_B7 f_B7 l_B7);(try clear B7)
 go_wp2;refine fo ?_;intro w4 hE hB0 hz;have hz_w4:=nle hz;have hr_w4:=nle hz.symm;clear hz;refine mV3 hE ?_ HX HXA HYA;clear HX HXA HYA;intro HX HXA HYA;clear hB0;obtain ⟨La,hLa,rfl,hra⟩:=HXA.out;obtain ⟨Lb,hLb,rfl,hrb⟩:=HYA.out;have HA:=Hi (hra.can rfl (nXe _) zo);have HB:=Hi (hrb.can rfl (nXe _) zo);clear hra hrb hLa hLb HXA HYA
 go_loopg [6,8] (av q).length (fun g u v wr=>∃ (x y:SH) (a b:List Rat) (X:Nat),u=x.v∧v=y.v∧b.length≤g∧Ext w wr∧aD wr x a∧aD wr y b∧GcI K p q a b X)
 case atStart=>exact ⟨_,_,_,_,X0,rfl,rfl,nXe _,HX.out,HA.out,HB.out,HG.out⟩
 case round =>
  obtain ⟨⟨xa,xn,xc⟩,⟨ya,yn,yc⟩,a,b,X,rfl,rfl,hg,g1,g2,g3,g4⟩:=hrel;clear HX HA HB HG;have HX:=Hi g1;have LA:=Hi g2.lin;have LB:=Hi g3.lin;have HG:=Hi g4;have hxl:=g2.len;have hyl:=g3.len;simp only at hxl hyl;clear g1 g2 g3 g4;simp only [SH.v];by_cases h0:yn=0
  case pos =>
   subst h0;have hb:b=[]:=nXj.1 hyl;have HV:Hid (cY p q=bF a):=Hi (by have:=HG.out.2.2.2.2.2.2.1;rw [hb] at this;exact this.symm);have HZ:Hid (SzL X a):=Hi (fun x hx=>(HG.out.2.2.1 x hx).sz HG.out.2.2.2.2.1);have hXs:=HG.out.small;have han:=HG.out.2.2.2.2.2.2.2.1
   go_wp2_with fail
   refine cM (nj xa xn xc a X _ LA.out.can zo zo HZ.out) fun x2 w2 hE G2=>?_
   replace HX:=hE.tr HX;go_wp2
   go_ret
   exact ⟨x2,rfl,HX.out,by rw [HV.out];exact G2.out,HG.out.done hb⟩
  obtain ⟨m,rfl⟩:∃ m,yn=m+1:=⟨yn-1,zo⟩;have hpos:(0:Int)<(m:Int)+1:=zo;have Hb0:Hid (b≠[]):=Hi (by intro h;rw [h] at hyl;simp at hyl);obtain ⟨e1,e2,e3,e4,e5,e6,e7,e8,e9⟩:=HG.out;have hsz2:=HG.out.size Hb0.out;have hsz3:X+(xn-m)*(X+1)≤K:=by rw [hxl,hyl,show xn+1-(m+1)=xn-m by omega] at hsz2;exact hsz2
  have hXs:=HG.out.small
  go_wp2_with fail
  refine cM (lZ xa ya xn xc m yc a b X X _ LA.out.can LB.out.can e3 e4 e5 e5 e1 e2 zo zo zo zo) fun x4 w4 hE G4=>?_
  refine mV2 hE ?_ LB HX;clear LB HX;intro LB HX;obtain ⟨ss,⟨ra,rn,rc⟩,ff⟩:=x4;obtain ⟨s,r,f,hdv,h1,h2,h3⟩:=G4.out;obtain ⟨X2,hnx⟩:=HG.out.next Hb0.out hdv;have HNX:=Hi hnx;clear hnx;obtain ⟨d0,d1,d2,d3,d4,d5,d6,d7⟩:=hdv;have hrl:=h2.len;simp only at hrl;have HR1:=Hi h2.lin;have HRF:Hid (∀ x ∈ r,Fr (X+(a.length+1-b.length)*(X+1)) 1 x):=Hi (fun x hx=>by
   have hw:=d3 x hx;have e1:x*((1:Nat):Rat)=x:=Rat.mul_one x;unfold Fr;rw [e1];exact hw)
  have hsr:(av r).length<b.length:=by rw [ay,d4];exact d5
  have hX1:1≤X+(a.length+1-b.length)*(X+1):=zo;have hW1:1<W32 ^ (X+(a.length+1-b.length)*(X+1)):=Nat.one_lt_pow zo dZ;clear h1 h2 h3 G4 d0 d1 d2 d3 d4 d6 d7 e1 e2 e3 e4 e6 e7 hsz3;simp only [DT] at *
  go_upto_region 5 with fail
  refine fo ?_;intro w5 hE hB0 hz;have hz_w5:=nle hz;have hr_w5:=nle hz.symm;clear hz;refine mV3 hE ?_ LB HX HR1;clear LB HX HR1;intro LB HX HR1;clear hB0
  go_wp2_with fail
  refine cM (kq ra rn rc r (X+(a.length+1-b.length)*(X+1)) 1 _ HR1.out.can zo hX1 zo dZ hW1 HRF.out) fun x6 w6 hE G6=>?_
  refine mV2 hE ?_ LB HX;clear LB HX;intro LB HX;obtain ⟨zs,za⟩:=x6;obtain ⟨Lz,hLz,hz,hrz⟩:=G6.out.2;have HZ:=Hi (hrz.can rfl (nXe _) zo);clear G6 hrz hLz;simp only [MT] at *
  subst hz;go_wp2
  go_roundg (gk-1)
  case measure=>omega
  case rel=>exact ⟨⟨ya,m+1,yc⟩,_,b,av r,_,rfl,rfl,zo,HX.out,LB.out.can,HZ.out,HNX.out⟩
end Go.Proofs.YtafgmcimcbhhjaaGreat
