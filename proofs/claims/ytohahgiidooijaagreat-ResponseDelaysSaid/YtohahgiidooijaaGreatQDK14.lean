/- The squared magnitude is nowhere negative on [-1, 1]. Plain facts. -/
import Derived.Test.YtohahgiidooijaaGreatQDK13
import Derived.Test.YtohahgiidooijaaGreatQDK6
import Derived.Test.YtohahgiidooijaaGreatQDK5
import Derived.Test.YtohahgiidooijaaGreatQDK11
import Derived.Test.YtohahgiidooijaaGreatQDK1
import Derived.Test.YtohahgiidooijaaGreatQDK3
set_option linter.unusedVariables false
namespace Go.Proofs.YtohahgiidooijaaGreat
open Go.RowKit Go.Front Go.Num Stab
def tt(x:Rat):Nat→Rat×Rat
 | 0=>(1,0)
 | n+1=>(x*(tt x n).1-(1-x*x)*(tt x n).2,x*(tt x n).2+(tt x n).1)
theorem tG(x:Rat):∀ i j:Nat,(tt x (i+j)).1=(tt x (i+j)).1∧(tt x j).1=(tt x (i+j)).1*(tt x i).1+(1-x*x)*((tt x (i+j)).2*(tt x i).2):=by
 intro i;induction i with
 | zero=>intro j;rw [Nat.zero_add];exact ⟨rfl,by show _=_*1+_*(_*0);grind⟩
 | succ i ih =>
  intro j;have h:=(ih j).2;rw [show i+1+j=(i+j)+1 by omega];refine ⟨rfl,?_⟩;rw [h];show _=(x*(tt x (i+j)).1-(1-x*x)*(tt x (i+j)).2)*(x*(tt x i).1-(1-x*x)*(tt x i).2)+(1-x*x)*((x*(tt x (i+j)).2+(tt x (i+j)).1)*(x*(tt x i).2+(tt x i).1));grind
theorem Dh(x:Rat)(i j:Nat):(tt x ((i:Int)-j).natAbs).1=(tt x i).1*(tt x j).1+(1-x*x)*((tt x i).2*(tt x j).2):=by
 rcases Nat.le_total i j with h|h
 ·obtain ⟨k,rfl⟩:∃ k,j=i+k:=⟨j-i,by omega⟩;rw [show ((i:Int)-(i+k:Nat)).natAbs=k by omega,(tG x i k).2];grind
 ·obtain ⟨k,rfl⟩:∃ k,i=j+k:=⟨i-j,by omega⟩;rw [show (((j+k:Nat):Int)-j).natAbs=k by omega,(tG x j k).2]
theorem A2(x:Rat)(n:Nat):(tt x (n+2)).1=2*x*(tt x (n+1)).1-(tt x n).1:=by
 show x*(x*(tt x n).1-(1-x*x)*(tt x n).2)-(1-x*x)*(x*(tt x n).2+(tt x n).1)=2*x*(x*(tt x n).1-(1-x*x)*(tt x n).2)-(tt x n).1;grind
theorem Fo(x:Rat):∀ k:Nat,(∀ M,k<M→sm M (fun n=>Tf k n*x ^ n)=(tt x k).1)∧∀ M,k+1<M→sm M (fun n=>Tf (k+1) n*x ^ n)=(tt x (k+1)).1:=by
 have z0:∀ M,0<M→sm M (fun n=>Tf 0 n*x ^ n)=1:=fun M hM=>by
  obtain ⟨m,rfl⟩:∃ m,M=m+1:=⟨M-1,by omega⟩;rw [ct,sm_congr (g:=fun _=>0) (fun i _=>by rw [nI,if_neg (by omega),nXz]),sm_zero,nI,if_pos rfl,Rat.pow_zero];grind
 have z1:∀ M,1<M→sm M (fun n=>Tf 1 n*x ^ n)=x:=fun M hM=>by
  obtain ⟨m,rfl⟩:∃ m,M=m+2:=⟨M-2,by omega⟩;rw [ct,ct,sm_congr (g:=fun _=>0) (fun i _=>by rw [o8,if_neg (by omega),nXz]),sm_zero,o8,o8,if_neg (by omega),if_pos rfl,show (x ^ (0+1))=x by grind];grind
 intro k;induction k with
 | zero=>exact ⟨fun M hM=>(z0 M hM).trans rfl,fun M hM=>(z1 M hM).trans (by show x=x*1-(1-x*x)*0;grind)⟩
 | succ k ih =>
  refine ⟨ih.2,fun M hM=>?_⟩;obtain ⟨m,rfl⟩:∃ m,M=m+1:=⟨M-1,by omega⟩;have h1:=ih.2 m (by omega);have h2:=ih.1 (m+1) (by omega);rw [ct] at h2;rw [show k+1+1=k+2 from rfl,A2,ct,lO,if_neg (by omega),Rat.pow_zero];rw [sm_congr (f:=fun i=>Tf (k+2) (i+1)*x ^ (i+1)) (g:=fun i=>2*x*(Tf (k+1) i*x ^ i)+-1*(Tf k (i+1)*x ^ (i+1))) (fun i _=>by
   rw [lO,if_pos (Nat.succ_pos i),Nat.add_sub_cancel,Rat.pow_succ];grind)]
  rw [sm_add,sm_mul,sm_mul,h1,←h2,Rat.pow_zero];grind
theorem AI(p:List Rat)(x:Rat):evV (ah p p) x=sm p.length (fun i=>seq p i*(tt x i).1)*sm p.length (fun i=>seq p i*(tt x i).1)+(1-x*x)*(sm p.length (fun i=>seq p i*(tt x i).2)*sm p.length (fun i=>seq p i*(tt x i).2)):=by
 obtain ⟨M,hM⟩:∃ M,M=(ah p p).length+p.length+1:=⟨_,rfl⟩;rw [jN (N:=M) (by omega)];have e1:sm M (fun n=>seq (ah p p) n*x ^ n)=sm p.length (fun i=>sm p.length (fun j=>seq p i*seq p j*(tt x ((i:Int)-j).natAbs).1)):=by
  rw [sm_congr (g:=fun n=>sm p.length (fun i=>sm p.length (fun j=>seq p i*seq p j*TZ ((i:Int)-j) n*x ^ n))) (fun n _=>by
   rw [show seq (ah p p) n=dS p.length (seq p) (fun d=>TZ d n) from rN p n];unfold dS;rw [nYb,←sm_mul];refine sm_congr fun i _=>?_
   rw [←sm_mul];exact sm_congr fun j _=>by grind)]
  rw [kB];refine sm_congr fun i hi=>?_
  rw [kB];refine sm_congr fun j hj=>?_
  rw [←(Fo x ((i:Int)-j).natAbs).1 M (by omega),←sm_mul];exact sm_congr fun n _=>by unfold TZ;grind
 rw [e1,t6,t6,←sm_mul,←sm_add];refine sm_congr fun i _=>?_
 rw [←sm_mul,←sm_add];refine sm_congr fun j _=>?_
 rw [Dh];grind
theorem jy(p:List Rat){x:Rat}(h1:-1≤x)(h2:x≤1):0≤evV (ah p p) x:=by
 rw [AI];have hs:0≤1-x*x:=by
  have:=Rat.mul_nonneg (show 0≤1-x by grind) (show 0≤1+x by grind);grind
 have k1:=eG (sm p.length (fun i=>seq p i*(tt x i).1));have k2:=Rat.mul_nonneg hs (eG (sm p.length (fun i=>seq p i*(tt x i).2)));grind
def rv(p:List Rat)(x:Rat)(N:Nat):Rat:=sm N (fun i=>seq p i*(tt x i).1)
def iv(p:List Rat)(x:Rat)(N:Nat):Rat:=sm N (fun i=>seq p i*(tt x i).2)
theorem nA{p:List Rat}{N:Nat}(h:p.length≤N)(x:Rat):evV (ah p p) x=rv p x N*rv p x N+(1-x*x)*(iv p x N*iv p x N):=by
 rw [AI];unfold rv iv;rw [bH (f:=fun i=>seq p i*(tt x i).1) h (fun i h1 _=>by rw [show seq p i=0 from aG h1,nXz]),bH (f:=fun i=>seq p i*(tt x i).2) h (fun i h1 _=>by rw [show seq p i=0 from aG h1,nXz])]
theorem BT{u v s:List Rat}(hs:∀ n,seq s n=seq u n+seq v n){x:Rat}(h1:-1≤x)(h2:x≤1):evV (ah s s) x≤2*evV (ah u u) x+2*evV (ah v v) x:=by
 obtain ⟨N,hN⟩:∃ N,N=u.length+v.length+s.length:=⟨_,rfl⟩;rw [nA (N:=N) (by omega),nA (N:=N) (by omega),nA (N:=N) (by omega)];have e1:rv s x N=rv u x N+rv v x N:=by
  unfold rv;rw [←sm_add];exact sm_congr fun i _=>by rw [hs];grind
 have e2:iv s x N=iv u x N+iv v x N:=by
  unfold iv;rw [←sm_add];exact sm_congr fun i _=>by rw [hs];grind
 have hs0:0≤1-x*x:=by
  have:=Rat.mul_nonneg (show 0≤1-x by grind) (show 0≤1+x by grind);grind
 rw [e1,e2];have k1:=eG (rv u x N-rv v x N);have k2:=Rat.mul_nonneg hs0 (eG (iv u x N-iv v x N));grind
theorem BR{p r:List Rat}{L:Nat}(hp:p.length≤L+1)(hr:r.length≤L+1)(h:∀ k,k≤L→seq r k=seq p (L-k)):ah r r=ah p p:=by
 have h1:∀ n,seq (ah r r) n=seq (ah p p) n:=fun n=>by
  rw [cw hr hr,cw hp hp];refine sm_congr fun k hk=>?_
  have key:cc (L+1) (seq r) (seq r) k=cc (L+1) (seq p) (seq p) k:=by
   unfold cc;rw [←bH (n:=L+1-k) (m:=L+1) (by omega) (fun i h1 _=>by rw [show seq r (i+k)=0 from aG (by omega),nYa]),←bH (n:=L+1-k) (m:=L+1) (by omega) (fun i h1 _=>by rw [show seq p (i+k)=0 from aG (by omega),nYa])];rw [mj];refine sm_congr fun i hi=>?_
   rw [h _ (by omega),h _ (by omega),show L-(L+1-k-1-i)=i+k by omega,show L-(L+1-k-1-i+k)=i by omega,nYb]
  unfold ce;rw [key]
 have h2:=dY h1;unfold ah at h2 ⊢
 rwa [vW,vW] at h2
theorem v8(p:List Rat):∃ K:Rat,0<K∧∀ x,-1≤x→x≤1→evV p x≤K:=by
 obtain ⟨K,hK,h⟩:=Sg.ev_lip p (-1) 1;have h0:=Rat.abs_nonneg (x:=evV p (-1));have hle:∀ q:Rat,q≤q.abs:=fun q=>by unfold Rat.abs;split <;> grind
 refine ⟨(evV p (-1)).abs+2*K+1,by grind,fun x h1 h2=>?_⟩;have h3:=h (-1) x (by decide) h1 h2;have h4:=Rat.mul_nonneg hK (show 0≤1-x by grind);have h5:=hle (evV p (-1));have h6:=h3.2;grind
theorem BS{p r u v:List Rat}{w:Rat}(hw:w≠0)(hm:ah r r=ah p p)(h:∀ n,seq (ag u p) n+seq (ag v r) n=seq [w] n):∃ c:Rat,0<c∧∀ x,-1≤x→x≤1→c≤evV (ah p p) x:=by
 obtain ⟨K,hK,hk⟩:=v8 (aS (ah u u) (ah v v));have hw2:0<w*w:=by
  rcases Rat.le_iff_lt_or_eq.1 (eG w) with h1|h1
  ·exact h1
  ·rcases nXq.1 h1.symm with h2|h2 <;> exact absurd h2 hw
 have h2K:(0:Rat)<2*K:=by grind
 have hc:w*w / (2*K)*(2*K)=w*w:=Rat.div_mul_cancel (by grind);refine ⟨w*w / (2*K),Sg.divP hw2 h2K,fun x h1 h2=>?_⟩;have h3:=BT (u:=ag u p) (v:=ag v r) (s:=[w]) (fun n=>(h n).symm) h1 h2;rw [fQ,fQ,hm,Sg.ev_mul5,Sg.ev_mul5,nA (p:=[w]) (N:=1) (nXd 1)] at h3;have e1:rv [w] x 1=w:=by show 0+w*1=w;grind
 have e2:iv [w] x 1=0:=by show 0+w*0=0;grind
 rw [e1,e2] at h3;have h4:=hk x h1 h2;rw [Sg.ev_add5] at h4;have h5:=jy p h1 h2;have h6:=jy u h1 h2;have h7:=jy v h1 h2;generalize evV (ah p p) x=P at *
 generalize evV (ah u u) x=U at *
 generalize evV (ah v v) x=V at *
 generalize w*w / (2*K)=c at *
 have h8:=Rat.mul_nonneg h5 (show 0≤K-(U+V) by grind)
 -- w w <= 2 P (U+V) <= 2 P K
 have h9:c*(2*K)≤P*(2*K):=by rw [hc];grind
 rcases Rat.le_total (a:=c) (b:=P) with h|h
 ·exact h
 ·rcases Rat.le_iff_lt_or_eq.1 h with h|h
  ·have:=Rat.mul_pos (show 0<c-P by grind) h2K;grind
  ·rw [h];exact Rat.le_refl
def rvk(k:Nat)(p:List Rat):List Rat:=(List.range (k+1)).map (fun i=>seq p (k-i))
theorem iz(k:Nat)(p:List Rat)(i:Nat):seq (rvk k p) i=if i≤k then seq p (k-i) else 0:=by
 show (rvk k p).getD i 0=_;unfold rvk;rw [bE];by_cases h:i≤k
 ·rw [if_pos h,if_pos (by omega)]
 ·rw [if_neg h,if_neg (by omega)]
theorem pE(k:Nat)(p:List Rat):(rvk k p).length=k+1:=by unfold rvk;simp
theorem Bk{k:Nat}{p:List Rat}(h:p.length≤k+1)(i:Nat):seq (rvk k (rvk k p)) i=seq p i:=by
 rw [iz];by_cases hi:i≤k
 ·rw [if_pos hi,iz,if_pos (by omega),show k-(k-i)=i by omega]
 ·rw [if_neg hi];exact (aG (by omega)).symm
theorem Am(x:Rat)(m n:Nat):x ^ (m+n)=x ^ m*x ^ n:=by
 induction n with
 | zero=>rw [Nat.add_zero,Rat.pow_zero,Rat.mul_one]
 | succ n ih=>rw [←Nat.add_assoc,Rat.pow_succ,ih,Rat.pow_succ,nYc]
theorem DK{x y:Rat}(h:x*y=1):∀ (k i:Nat),i≤k→x ^ k*y ^ (k-i)=x ^ i:=by
 intro k i hi;obtain ⟨m,rfl⟩:∃ m,k=i+m:=⟨k-i,by omega⟩;rw [show i+m-i=m by omega,Am,nYc];have:x ^ m*y ^ m=1:=by
  induction m with
  | zero=>rw [Rat.pow_zero,Rat.pow_zero];grind
  | succ m ih=>rw [Rat.pow_succ,Rat.pow_succ];have:=ih (by omega);grind
 rw [this,Rat.mul_one]
theorem vZ{k:Nat}{p:List Rat}(h:p.length≤k+1){x y:Rat}(hxy:x*y=1):evV (rvk k p) x=x ^ k*evV p y:=by
 rw [jN (N:=k+1) (by rw [pE];exact nXd _),jN (N:=k+1) h,←sm_mul,mj (k+1) (fun i=>x ^ k*(seq p i*y ^ i))];refine sm_congr fun i hi=>?_
 rw [iz,if_pos (by omega),show k+1-1-i=k-i by omega];have:=DK hxy k i (by omega);rw [←this];grind
theorem CA{p q:List Rat}(h:∀ x,x≠0→evV p x=evV q x):∀ x,evV p x=evV q x:=by
 have h1:∀ x,evV (0 :: p) x=evV (0 :: q) x:=fun x=>by
  rw [eQ,eQ];by_cases hx:x=0
  ·subst hx;grind
  ·rw [h x hx]
 have h2:=Sg.ev_inj h1;intro x;have h3:∀ n,seq p n=1*seq q n:=fun n=>by
  have:=h2 (n+1);rw [Rat.one_mul];exact this
 rw [dD h3 x,Rat.one_mul]
theorem uk{a b:Nat}{p q m:List Rat}(hp:p.length≤a+1)(hq:q.length≤b+1)(hm:m.length≤a+b+1)(h:∀ x,evV m x=evV p x*evV q x)(x:Rat):evV (rvk (a+b) m) x=evV (rvk a p) x*evV (rvk b q) x:=by
 have h1:∀ x,x≠0→evV (rvk (a+b) m) x=evV (ag (rvk a p) (rvk b q)) x:=fun x hx=>by
  have hxy:=nYi x hx;rw [Sg.ev_mul5,vZ hm hxy,vZ hp hxy,vZ hq hxy,h,Am];grind
 rw [CA h1 x,Sg.ev_mul5]
theorem de{g a b:List Rat}(hg:tz g≠[])(h:∀ x,evV g x*evV a x=evV g x*evV b x)(x:Rat):evV a x=evV b x:=by
 have h1:∀ x,evV (ag g (Sg.subV a b)) x=0:=fun x=>by
  rw [Sg.ev_mul5,Sg.ev_sub];have:=h x;grind
 have h2:=Sg.ev_tznil.2 h1;have h3:tz (Sg.subV a b)=[]:=Classical.byContradiction fun hn=>by
  have h7:=Sg.ln_mul hg hn;have h8:=Sg.ln_pos hg;have h9:=Sg.ln_pos hn;have h0:Sg.ln (ag g (Sg.subV a b))=0:=by show (tz _).length=0;rw [h2];rfl
  omega
 have h4:=Sg.ev_tznil.1 h3 x;rw [Sg.ev_sub] at h4;grind
theorem vg{k:Nat}{p:List Rat}(h:seq p 0≠0):Sg.ln (rvk k p)=k+1:=by
 show (tz (rvk k p)).length=k+1;refine iO (by show seq (rvk k p) k≠0;rw [iz,if_pos (nXd _),Nat.sub_self];exact h) fun i hi=>?_
 show seq (rvk k p) i=0;rw [iz,if_neg (by omega)]
theorem ux{p:List Rat}(hp:tz p=p)(h0:seq p 0≠0):∃ (g c:List Rat) (l m:Nat) (e:Rat),e*e=1∧g.length=l+1∧c.length=m+1∧(∀ x,evV p x=evV g x*evV c x)∧(∀ i,i≤l→seq g i=e*seq g (l-i)) ∧
    ∃ u v:List Rat,∀ x,evV u x*evV c x+evV v x*evV (rvk m c) x=1:=by
  have hp0:p≠[]:=fun h=>h0 (by rw [h];rfl)
  have hpz:tz p≠[]:=by rw [hp];exact hp0
  obtain ⟨L,hL⟩:∃ L,p.length=L+1:=⟨p.length-1,by have:=nYf.2 hp0;omega⟩;have hlp:Sg.ln p=L+1:=by show (tz p).length=_;rw [hp];exact hL
  obtain ⟨⟨k1,⟨b1,rfl⟩,h1⟩,⟨k2,⟨b2,rfl⟩,h2⟩,uf,vf,⟨u,rfl⟩,⟨v,rfl⟩,h3⟩:=Sg.gcd_spec p (rvk L p);obtain ⟨g,hg⟩:∃ g,g=tz (bv p (rvk L p)):=⟨_,rfl⟩;obtain ⟨c,hc⟩:∃ c,c=tz b1:=⟨_,rfl⟩;obtain ⟨d,hd⟩:∃ d,d=tz b2:=⟨_,rfl⟩;have eg:∀ x,evV (bv p (rvk L p)) x=evV g x:=fun x=>by rw [hg,jC]
  have ec:∀ x,evV b1 x=evV c x:=fun x=>by rw [hc,jC]
  have ed:∀ x,evV b2 x=evV d x:=fun x=>by rw [hd,jC]
  have i1:∀ x,evV p x=evV g x*evV c x:=fun x=>by rw [h1 x,eg,ec]
  have i2:∀ x,evV (rvk L p) x=evV g x*evV d x:=fun x=>by rw [h2 x,eg,ed]
  have i3:∀ x,evV g x=evV u x*evV p x+evV v x*evV (rvk L p) x:=fun x=>by rw [←eg,h3 x]
  have hgt:tz g=g:=by rw [hg,av]
  have hct:tz c=c:=by rw [hc,av]
  have hdt:tz d=d:=by rw [hd,av]
  have hrz:tz (rvk L p)≠[]:=fun h=>by
    have:=vg (k:=L) h0;have h4:Sg.ln (rvk L p)=0:=by show (tz _).length=0;rw [h];rfl
    omega
  have gz:tz g≠[]:=fun h=>hpz (Sg.ev_tznil.2 fun x=>by rw [i1 x,Sg.ev_tznil.1 h x,nXz])
  have cz:tz c≠[]:=fun h=>hpz (Sg.ev_tznil.2 fun x=>by rw [i1 x,Sg.ev_tznil.1 h x,nYa])
  have dz:tz d≠[]:=fun h=>hrz (Sg.ev_tznil.2 fun x=>by rw [i2 x,Sg.ev_tznil.1 h x,nYa])
  have l1:Sg.ln (ag g c)=L+1:=by rw [←hlp];exact Sg.ln_congr fun x=>by rw [Sg.ev_mul5,i1 x]
  have l2:Sg.ln (ag g d)=L+1:=by rw [←vg (k:=L) h0];exact Sg.ln_congr fun x=>by rw [Sg.ev_mul5,i2 x]
  have l3:=Sg.ln_mul gz cz;have l4:=Sg.ln_mul gz dz;have l5:=Sg.ln_pos gz;have l6:=Sg.ln_pos cz;have lg:Sg.ln g=g.length:=by show (tz g).length=_;rw [hgt]
  have lc:Sg.ln c=c.length:=by show (tz c).length=_;rw [hct]
  have ld:Sg.ln d=d.length:=by show (tz d).length=_;rw [hdt]
  obtain ⟨l,hl⟩:∃ l,g.length=l+1:=⟨g.length-1,by omega⟩;obtain ⟨m,hm⟩:∃ m,c.length=m+1:=⟨c.length-1,by omega⟩;have hdm:d.length=m+1:=by omega
  have hLm:L=l+m:=by omega
  subst hLm
  -- the reverses
  have j1:∀ x,evV (rvk (l+m) p) x=evV (rvk l g) x*evV (rvk m c) x:=fun x=>uk (by omega) (by omega) (by omega) i1 x
  have j2:∀ x,evV p x=evV (rvk l g) x*evV (rvk m d) x:=fun x=>by
    have:=uk (a:=l) (b:=m) (p:=g) (q:=d) (m:=rvk (l+m) p) (by omega) (by omega) (by rw [pE];exact nXd _) i2 x;rw [←this];exact ((dD (c:=1) (fun i=>by rw [Bk (by omega),Rat.one_mul]) x).trans (Rat.one_mul _)).symm
  -- g is a multiple of its reverse
  have k1:∀ x,evV g x=evV (rvk l g) x*evV (aS (ag u (rvk m d)) (ag v (rvk m c))) x:=fun x=>by
    rw [i3 x,j1 x,j2 x,Sg.ev_add5,Sg.ev_mul5,Sg.ev_mul5];grind
  have g0:seq g 0≠0:=fun h=>by
    have:=i1 0;have z:∀ q:List Rat,evV q 0=seq q 0:=fun q=>by
      cases q with
      | nil=>rfl
      | cons a t=>rw [eQ,nYa];show 0+a=a;grind
    rw [z,z,z,h,nXz] at this;exact h0 this
  obtain ⟨K,hK⟩:∃ K,K=aS (ag u (rvk m d)) (ag v (rvk m c)):=⟨_,rfl⟩;rw [←hK] at k1;have Kz:tz K≠[]:=fun h=>gz (Sg.ev_tznil.2 fun x=>by rw [k1 x,Sg.ev_tznil.1 h x,nYa])
  have rz:tz (rvk l g)≠[]:=fun h=>gz (Sg.ev_tznil.2 fun x=>by rw [k1 x,Sg.ev_tznil.1 h x,nXz])
  have l7:=Sg.ln_mul rz Kz;have l8:Sg.ln (ag (rvk l g) K)=Sg.ln g:=Sg.ln_congr fun x=>by rw [Sg.ev_mul5,k1 x]
  rw [l8,vg g0] at l7
  have l9 : (tz K).length = 1 := by have : Sg.ln K = 1 := by omega
                                    exact this
  obtain ⟨e,he⟩:=List.length_eq_one_iff.1 l9;have ke:∀ x,evV K x=e:=fun x=>by rw [←jC K,he];show 0*x+e=e;grind
  have k2:∀ i,seq g i=e*seq (rvk l g) i:=fun i=>by
    have:=Sg.ev_inj (p:=g) (q:=(rvk l g).map (·*e)) (fun x=>by rw [k1 x,ke x,Sg.ev_map,nYb]) i;rw [this,aT,nYb]
  have k3:∀ i,i≤l→seq g i=e*seq g (l-i):=fun i hi=>by rw [k2 i,iz,if_pos hi]
  have ee:e*e=1:=by
    have a1:=k3 0 (Nat.zero_le _);have a2:=k3 l (nXd _);rw [Nat.sub_self] at a2;rw [Nat.sub_zero] at a1;have a3:(1-e*e)*seq g 0=0:=by grind
    rcases nXq.1 a3 with h|h
    · grind
    · exact absurd h g0
  refine ⟨g,c,l,m,e,ee,hl,hm,i1,k3,u,v.map (·*e),fun x=>?_⟩;have a1:∀ x,evV g x*evV (aS (ag u c) (ag (v.map (·*e)) (rvk m c))) x=evV g x*evV [1] x:=fun x=>by
    rw [Sg.ev_add5,Sg.ev_mul5,Sg.ev_mul5,Sg.ev_map];have b1:=i3 x;rw [i1 x,j1 x] at b1;have b2:evV (rvk l g) x=e*evV g x:=by
      have:=k1 x;rw [ke x] at this;rw [this];have:e*(evV (rvk l g) x*e)=(e*e)*evV (rvk l g) x:=by grind
      rw [this,ee,Rat.one_mul]
    rw [b2] at b1;have b3:evV [1] x=1:=by show 0*x+1=(1:Rat);grind
    rw [b3];grind
  have a2:=de gz a1 x;rw [Sg.ev_add5,Sg.ev_mul5,Sg.ev_mul5] at a2;rw [a2];show 0*x+1=(1:Rat);grind
/-! ## The delay -/
theorem ti{u v s:List Rat}{c:Rat}(hs:∀ n,seq s n=c*seq u n)(n:Nat):seq (ah s v) n=c*seq (ah u v) n:=by
 obtain ⟨N,hN⟩:∃ N,N=u.length+v.length+s.length:=⟨_,rfl⟩;rw [cw (N:=N) (by omega) (by omega),cw (N:=N) (by omega) (by omega),←sm_mul];refine sm_congr fun k _=>?_
 have e1:cc N (seq s) (seq v) k=c*cc N (seq u) (seq v) k:=by
  unfold cc;rw [←sm_mul];exact sm_congr fun i _=>by rw [hs];grind
 have e2:cc N (seq v) (seq s) k=c*cc N (seq v) (seq u) k:=by
  unfold cc;rw [←sm_mul];exact sm_congr fun i _=>by rw [hs];grind
 unfold ce;by_cases hk:k=0
 ·rw [if_pos hk,if_pos hk,e1];grind
 ·rw [if_neg hk,if_neg hk,e1,e2];grind
theorem th{h:List Rat}{l:Nat}{e:Rat}(he:e*e=1)(hl:h.length=l+1)(hs:∀ i,i≤l→seq h i=e*seq h (l-i))(n:Nat):2*seq (ah (bF h) h) n=(((l:Nat):Int):Rat)*seq (ah h h) n:=by
 rw [cw (N:=l+1) (by rw [co];omega) (by omega),cw (N:=l+1) (by omega) (by omega),←sm_mul,←sm_mul];refine sm_congr fun k hk=>?_
 have prod:∀ i j,i≤l→j≤l→seq h i*seq h j=seq h (l-i)*seq h (l-j):=fun i j hi hj=>by
  rw [hs i hi,hs j hj];have:e*seq h (l-i)*(e*seq h (l-j))=(e*e)*(seq h (l-i)*seq h (l-j)):=by grind
  rw [this,he,Rat.one_mul]
 have key:cc (l+1) (seq (bF h)) (seq h) k+cc (l+1) (seq h) (seq (bF h)) k=(((l:Nat):Int):Rat)*cc (l+1) (seq h) (seq h) k:=by
  have over:∀ i,l<i→seq h i=0:=fun i hi=>aG (by omega)
  have cut:∀ f:Nat→Rat,(∀ i,l<i+k→f i=0)→sm (l+1) f=sm (l+1-k) f:=fun f hf=>(bH (by omega) (fun i h1 _=>hf i (by omega))).symm
  unfold cc;rw [cut _ (fun i hi=>by rw [over (i+k) (by omega),nYa]),cut _ (fun i hi=>by rw [dU,over (i+k) (by omega)];grind),cut _ (fun i hi=>by rw [over (i+k) (by omega),nYa])];rw [←sm_add];have e1:sm (l+1-k) (fun i=>seq (bF h) i*seq h (i+k)+seq h i*seq (bF h) (i+k))=sm (l+1-k) (fun i=>((((2*i+k:Nat):Int):Rat))*(seq h i*seq h (i+k))):=sm_congr fun i _=>by
   rw [dU,dU,show ((((2*i+k:Nat):Int):Rat))=(((i:Nat):Int):Rat)+((((i+k:Nat):Int):Rat)) by rw [←Rat.intCast_add];congr 1;omega];grind
  have e2:sm (l+1-k) (fun i=>((((2*i+k:Nat):Int):Rat))*(seq h i*seq h (i+k)))=sm (l+1-k) (fun i=>(2*(((l:Nat):Int):Rat)-((((2*i+k:Nat):Int):Rat)))*(seq h i*seq h (i+k))):=by
   rw [mj];refine sm_congr fun i hi=>?_
   rw [prod (l+1-k-1-i) (l+1-k-1-i+k) (by omega) (by omega),show l-(l+1-k-1-i)=i+k by omega,show l-(l+1-k-1-i+k)=i by omega];rw [show ((((2*(l+1-k-1-i)+k:Nat):Int):Rat))=2*(((l:Nat):Int):Rat)-((((2*i+k:Nat):Int):Rat)) by
    rw [show (2:Rat)=((2:Int):Rat) from rfl,←Rat.intCast_mul,←Rat.intCast_sub];congr 1;omega]
   grind
  rw [e1];have e3:sm (l+1-k) (fun i=>((((2*i+k:Nat):Int):Rat))*(seq h i*seq h (i+k)))+sm (l+1-k) (fun i=>(2*(((l:Nat):Int):Rat)-((((2*i+k:Nat):Int):Rat)))*(seq h i*seq h (i+k)))=2*(((l:Nat):Int):Rat)*sm (l+1-k) (fun i=>seq h i*seq h (i+k)):=by
   rw [←sm_add,←sm_mul];exact sm_congr fun i _=>by grind
  grind
 unfold ce;by_cases h0:k=0
 ·rw [if_pos h0,if_pos h0];have:cc (l+1) (seq h) (seq (bF h)) k=cc (l+1) (seq (bF h)) (seq h) k:=by
   subst h0;unfold cc;exact sm_congr fun i _=>nYb ..
  grind
 ·rw [if_neg h0,if_neg h0];grind
def zk(k:Nat):List Rat:=List.replicate k 0++[1]
theorem kp(k n:Nat):seq (zk k) n=if n=k then 1 else 0:=by
 show (zk k).getD n 0=_;unfold zk;rw [nXc];rcases Nat.lt_trichotomy n k with h|h|h
 ·rw [List.getElem?_append_left (by simpa using h),if_neg (by omega)];simp [h]
 ·subst h;simp
 ·rw [List.getElem?_eq_none (by simp;omega),if_neg (by omega)];rfl
theorem Dn:∀ {b:List Rat},tz b≠[]→∃ (k:Nat) (p:List Rat),seq p 0≠0∧∀ n,seq b n=seq (ag (zk k) p) n:=by
 intro b;induction b with
 | nil=>intro h;exact absurd rfl h
 | cons c t ih =>
  intro h;by_cases hc:c=0
  ·subst hc;have ht:tz t≠[]:=fun h0=>h (Sg.ev_tznil.2 fun x=>by rw [eQ,Sg.ev_tznil.1 h0,nXz];grind)
   obtain ⟨k,p,h1,h2⟩:=ih ht;refine ⟨k+1,p,h1,fun n=>?_⟩;rw [bu,cK] at *
   cases n with
   | zero =>
    show (0:Rat)=cv (seq (zk (k+1))) (seq p) 0;show (0:Rat)=0+seq (zk (k+1)) 0*seq p (0-0);rw [kp,if_neg (by omega)];grind
   | succ n =>
    show seq t n=_;rw [h2 n];unfold cv;rw [ct (n+1),kp,if_neg (by omega),nXz,Rat.zero_add];refine sm_congr fun i hi=>?_
    rw [kp,kp,show n+1-(i+1)=n-i by omega];by_cases hik:i=k
    ·rw [if_pos hik,if_pos (by omega)]
    ·rw [if_neg hik,if_neg (by omega)]
  ·refine ⟨0,c :: t,hc,fun n=>?_⟩;rw [bu,cK];unfold cv;rw [ct,kp,if_pos rfl,Rat.one_mul,Nat.sub_zero,sm_congr (g:=fun _=>0) (fun i _=>by rw [kp,if_neg (by omega),nXz]),sm_zero,Rat.add_zero]
theorem oW{b:List Rat}(hb:tz b≠[]):∃ (n' d':List Rat) (c:Rat),0<c∧(∀ x,-1≤x→x≤1→c≤evV d' x)∧∀ x,evV (ah (bF b) b) x*evV d' x=evV n' x*evV (ah b b) x:=by
 obtain ⟨k,p0,h0,h1⟩:=Dn hb;have hp0:seq (tz p0) 0≠0:=by rw [aW];exact h0
 obtain ⟨g,c1,l,m,e,he,hg,hc,h2,h3,u,v,h4⟩:=ux (p:=tz p0) (av p0) hp0;obtain ⟨h,hh⟩:∃ h,h=ag (zk k) g:=⟨_,rfl⟩;have eb:∀ n,seq b n=seq (ag h c1) n:=fun n=>by
  rw [h1 n];refine Sg.ev_inj (fun x=>?_) n;rw [hh,Sg.ev_mul5,Sg.ev_mul5,Sg.ev_mul5,←jC p0,h2 x];grind
 -- the factors
 have nz:∀ n,seq (ah (bF (zk k)) (zk k)) n=(((k:Nat):Int):Rat)*seq (ah (zk k) (zk k)) n:=ti (fun n=>by
  rw [dU,kp];by_cases hn:n=k
  ·rw [if_pos hn,hn]
  ·rw [if_neg hn,nYa,nYa])
 have ng:=th he hg h3;have nh:∀ x,evV (ah (bF h) h) x=((((k:Nat):Int):Rat)+(((l:Nat):Int):Rat) / 2)*evV (ah h h) x:=fun x=>by
  have a1:evV (ah (bF h) h) x=evV (aS (ag (ah (bF (zk k)) (zk k)) (ah g g)) (ag (ah (bF g) g) (ah (zk k) (zk k)))) x :=
   (dD (c:=1) (fun n=>by rw [hh,jE,Sg.seq_add5,Rat.one_mul]) x).trans (Rat.one_mul _)
  have a2:evV (ah (bF (zk k)) (zk k)) x=(((k:Nat):Int):Rat)*evV (ah (zk k) (zk k)) x:=dD nz x;have a3:evV (ah (bF g) g) x=(((l:Nat):Int):Rat) / 2*evV (ah g g) x:=dD (fun n=>by
   have:=ng n;have q2:(((l:Nat):Int):Rat) / 2*2=(((l:Nat):Int):Rat):=Rat.div_mul_cancel (by decide);generalize (((l:Nat):Int):Rat) / 2=w at *
   grind) x
  have a4:evV (ah h h) x=evV (ah (zk k) (zk k)) x*evV (ah g g) x:=by rw [hh,fQ,Sg.ev_mul5]
  rw [a1,Sg.ev_add5,Sg.ev_mul5,Sg.ev_mul5,a2,a3,a4];grind
 have m1:ah b b=ah (ag h c1) (ag h c1):=lI eb eb;have m2:ah (bF b) b=ah (bF (ag h c1)) (ag h c1):=lI (fun n=>by rw [dU,dU,eb n]) eb;obtain ⟨c,hc0,hcx⟩:=BS (p:=c1) (r:=rvk m c1) (u:=u) (v:=v) (w:=1) (by decide) (BR (L:=m) (by omega) (by rw [pE];exact nXd _) (fun i hi=>by rw [iz,if_pos hi])) (fun n=>by
  have a1:∀ x,evV (aS (ag u c1) (ag v (rvk m c1))) x=evV [1] x:=fun x=>by
   rw [Sg.ev_add5,Sg.ev_mul5,Sg.ev_mul5,h4 x];show (1:Rat)=0*x+1;grind
  rw [←Sg.seq_add5];exact Sg.ev_inj a1 n)
 refine ⟨aS ((ah c1 c1).map (·*((((k:Nat):Int):Rat)+(((l:Nat):Int):Rat) / 2))) (ah (bF c1) c1),ah c1 c1,c,hc0,hcx,fun x=>?_⟩;have a1:evV (ah (bF (ag h c1)) (ag h c1)) x=evV (aS (ag (ah (bF h) h) (ah c1 c1)) (ag (ah (bF c1) c1) (ah h h))) x :=
  (dD (c:=1) (fun n=>by rw [jE,Sg.seq_add5,Rat.one_mul]) x).trans (Rat.one_mul _)
 rw [m1,m2,a1,fQ,Sg.ev_add5,Sg.ev_mul5,Sg.ev_mul5,Sg.ev_mul5,nh x,Sg.ev_add5,Sg.ev_map];grind
end Go.Proofs.YtohahgiidooijaaGreat
/- Divisors of a product of linear factors and of a quadratic one without roots; their coefficients. Plain facts. -/
namespace Go.Proofs.YtohahgiidooijaaGreat.Sg
open Go.RowKit Go.Front Go.Num Go.Stab Go.Proofs.YtohahgiidooijaaGreat
def Pd:List Rat→Rat→Rat
 | [],_=>1
 | a :: l,x=>(x-a)*Pd l x
def Qd:Option Rat→Rat→Rat
 | none,_=>1
 | some b,x=>x*x+b
def dg:Option Rat→Nat
 | none=>0
 | some _=>2
def Fac(p rl:List Rat)(b:Option Rat):Prop:=∃ c:Rat,c≠0∧∀ x,evV p x=c*(Pd rl x*Qd b x)
theorem mon_lead{p:List Rat}(h:tz p≠[]):aI (tz (bi p))=1:=by
 rw [cN,iB h];have h1:=bN h;unfold aI at *
 rw [nXk];rw [nXc,nXu];have h2:=nYf.2 h;rw [List.getElem?_eq_getElem (by omega)];rw [nXc,List.getElem?_eq_getElem (by omega)] at h1 ⊢;show (tz p)[(tz p).length-1]*(((1:Int):Rat) / (tz p)[(tz p).length-1])=1;rw [nYb];exact div_cancel h1
theorem nV(a b:Rat):sg (a*b)=sg a*sg b:=by
 rcases eW a with ⟨h,e⟩|⟨h,e⟩|⟨h,e⟩ <;> rcases eW b with ⟨k,f⟩|⟨k,f⟩|⟨k,f⟩ <;> rw [e,f]
 ·have:=Rat.mul_pos (a:=-a) (b:=-b) (by grind) (by grind);rw [sg_pos (by grind)];rfl
 ·rw [k,nYa,jt];rfl
 ·have:=Rat.mul_pos (a:=-a) (b:=b) (by grind) k;rw [dP (by grind)];rfl
 ·rw [h,nXz,jt];rfl
 ·rw [h,nXz,jt];rfl
 ·rw [h,nXz,jt];rfl
 ·have:=Rat.mul_pos (a:=a) (b:=-b) h (by grind);rw [dP (by grind)];rfl
 ·rw [k,nYa,jt];rfl
 ·rw [sg_pos (Rat.mul_pos h k)];rfl
def cn:List Rat→Rat→Rat→Nat
 | [],_,_=>0
 | d :: ds,lo,hi=>(if lo<d∧d≤hi then 1 else 0)+cn ds lo hi
def cc:List Rat→Rat→Rat→Nat
 | [],_,_=>0
 | d :: ds,lo,hi=>(if lo≤d∧d≤hi then 1 else 0)+cc ds lo hi
theorem Ag{r:List Rat}{l:List (List Rat)}(e:eS r=aB r :: l)(x:Rat):im (eS r) x=V (evV (aB r)) (l.map evV) x:=by
 unfold im V sgs;rw [e];simp only [List.map_cons,List.map_map];rfl
theorem Gg{r:List Rat}(h:tz r≠[])(hc:Cp (evV r) (evD r)):∃ l,eS r=aB r :: l∧∀ A B,Fit A B (evV (aB r)) (l.map evV):=by
 obtain ⟨l,e,-⟩:=qW h hc 0 0;refine ⟨l,e,fun A B=>?_⟩;obtain ⟨l',e',h'⟩:=qW h hc A B;have:l=l':=by rw [e] at e';exact (List.cons.inj e').2
 rw [this];exact h'
theorem Ft{c x:Rat}(h:0<c):sg (c*x)=sg x:=by rw [nV,sg_pos h];omega
theorem qP{p:List Rat}(h:tz p≠[])(x:Rat):sg (evV (aB p) x)=sg (evV p x):=by rw [gB p x,Ft (bV h)]
theorem yg{A B d:Rat}{r:Rat→Rat}(hr:Pf r)(hd:0<d)(hb:∀ x,A≤x→x≤B→Big d (r x)):∀ s t,A≤s→s<t→t≤B→sg (r t)=sg (r s):=by
 obtain ⟨K,hK,k1⟩:=hr.lip A B;obtain ⟨e,he,k2⟩:=js hK hd;exact rV he (fun s t h1 h2 h3 h4=>((hb s h1 (by grind)).sign k1 h1 (by grind) h3 (k2 _ h4)).1) (fun s t u _ _ _ _ h1 h2=>h2.trans h1)
theorem mZ{A B:List Rat}(hA:tz A≠[])(hB:tz B≠[]):aB ((bD (aB A) (aB B)).map (·*-1))=aB ((bD A B).map (·*-1)):=by
 obtain ⟨h1,-,-,h4⟩:=bW A hB;have hb:tz (aB B)≠[]:=by rw [bY];exact fun h=>hB (spl_ne.1 h)
 refine (mt (a:=aB A) (b:=aB B) (s:=(aP A B).map (·*aO B)) (r:=bD A B) (f:=aO A) hb (bV hA) (by rw [bY,aE];exact h1) (fun n=>?_)).symm;rw [←cL A n,h4 n];have h5:seq ((aP A B).map (·*aO B))=fun i=>aO B*seq (aP A B) i:=by funext i;rw [aT];grind
 have h6:seq B=fun i=>aO B*seq (aB B) i:=by funext i;exact cL B i
 rw [h5,dZ,h6,cf _ (fun i=>aO B*_),dZ,cf]
def bt(p:List Rat):List Rat:=(tz p).map (·*(1 / ((tz p).getLast?.getD 0).abs))
theorem xU{p:List Rat}(h:tz p≠[]):0<1 / ((tz p).getLast?.getD 0).abs:=by
 have h1:((tz p).getLast?.getD 0)≠0:=by
  obtain ⟨n,hn⟩:∃ n,(tz p).length=n+1:=⟨(tz p).length-1,by have:=nYf.2 h;omega⟩;have h2:=eV (l:=tz p) (n:=n) (by rw [av];exact hn);rw [nXc] at h2;rw [List.getLast?_eq_getElem?,hn];exact h2
 refine divP (by decide) ?_;unfold Rat.abs;split <;> grind
theorem iu(p:List Rat):aB (bt p)=aB p:=by
 by_cases h:tz p=[]
 ·have:bt p=[]:=by unfold bt;rw [h];rfl
  rw [this,spl_ne.2 h];rfl
 ·refine eH (xU h) (fun n=>?_);unfold bt;rw [aT,aW]
theorem f8{p:List Rat}:bt p=[]↔tz p=[]:=by unfold bt;exact List.map_eq_nil_iff
theorem ib(p:List Rat):tz (bt p)=bt p:=by
 by_cases h:tz p=[]
 ·rw [f8.2 h];rfl
 ·unfold bt;rw [gi (fun h0=>by have:=xU h;rw [h0] at this;exact absurd this Rat.lt_irrefl),av]
def rch:Nat→List Rat→List Rat→List (List Rat)
 | 0,_,_=>[]
 | n+1,a,b=>if a=[] then [] else if b=[] then [a] else a :: rch n b (bt ((bD a b).map (·*-1)))
theorem pF:∀ (n:Nat) (a b:List Rat),tz a=a→tz b=b→(rch n a b).map aB=chn n (aB a) (aB b)
 | 0,_,_,_,_=>rfl
 | n+1,a,b,ha,hb=>by
  have ka:aB a=[]↔a=[]:=by rw [spl_ne,ha]
  have kb:aB b=[]↔b=[]:=by rw [spl_ne,hb]
  unfold rch chn;by_cases h1:a=[]
  ·rw [if_pos h1,if_pos (ka.2 h1)];rfl
  ·rw [if_neg h1,if_neg (fun h=>h1 (ka.1 h))];by_cases h2:b=[]
   ·rw [if_pos h2,if_pos (kb.2 h2)];rfl
   ·rw [if_neg h2,if_neg (fun h=>h2 (kb.1 h)),List.map_cons,pF n b _ hb (ib _),iu,mZ (by rw [ha];exact h1) (by rw [hb];exact h2)]
theorem Be(p:List Rat)(x:Rat):sg (evV (aB p) x)=sg (evV p x):=by
 by_cases h:tz p=[]
 ·rw [spl_ne.2 h,ev_tznil.1 h x];rfl
 ·rw [gB p x,nV,sg_pos (bV h)];omega
theorem AY(l:List (List Rat))(x:Rat):im (l.map aB) x=im l x:=by
 unfold im;rw [List.map_map]
 congr 1
 exact List.map_congr_left fun m _=>Be m x
def o5(q:List Rat):List (List Rat):=rch (q.length+1) (bt q) (bt (bA q))
theorem sr(q:List Rat)(x:Rat):im (o5 q) x=im (eS q) x:=by
 rw [←AY (o5 q)];unfold o5 eS;rw [pF _ _ _ (ib _) (ib _),iu,iu]
def wO(p:List Rat)(lo hi:Rat):Int:=(im (o5 (sqfV p)) lo:Int)-im (o5 (sqfV p)) hi+(if sg (evV (sqfV p) lo)=0 then 1 else 0)
theorem cnt6_on{p:List Rat}{c:Rat}(hc:0<c)(lo hi:Rat)(hlh:lo≤hi)(he:∀ x,lo≤x→x≤hi→c≤evV p x):wO p lo hi=0:=by
 have h0:tz p≠[]:=fun h=>by have h1:=he lo Rat.le_refl hlh;rw [ev_tznil.1 h lo] at h1;grind
 have hr:=tT h0;obtain ⟨l,e,hfit⟩:=Gg hr.ne hr.cp;obtain ⟨g,q1,hg,-,-,k1,-⟩:=hr.dv;have hnr:¬ sg (evV (sqfV p) lo)=0:=fun h=>by
  have h1:=ug.1 h;have h2:=he lo Rat.le_refl hlh;rw [k1 lo,h1,nYa] at h2;grind
 unfold wO;rw [if_neg hnr,sr,sr,Ag e,Ag e];rcases Rat.le_iff_lt_or_eq.1 hlh with h1|h1
 ·obtain ⟨M,hM,k2⟩:=hg.on lo hi;have hm:=bV hr.ne;have hM1:0<M+1:=by grind
  have hd:0<c / (M+1):=divP hc hM1;have hdc:=div_cancel (a:=c) (b:=M+1) (by grind);have hbig:∀ x,lo≤x→x≤hi→Big (c / (M+1)) (evV (sqfV p) x):=fun x h2 h3=>Classical.byContradiction fun hn=>by
   obtain ⟨b1,b2⟩:=pN hn;generalize c / (M+1)=d at *
   have b0:Bd d (evV (sqfV p) x):=⟨by grind,by grind⟩;have b3:=((k2 x h2 h3).mul b0).2;have h4:=he x h2 h3;rw [k1 x] at h4;grind
  have hst:=yg (Pf.ev (sqfV p)) hd hbig;have hV:=(hfit lo hi).calm Rat.le_refl h1 Rat.le_refl (fun s t s1 s2 s3 _=>by rw [qP hr.ne,qP hr.ne];exact hst s t s1 s2 s3);rw [hV];omega
 ·rw [h1];omega
end Go.Proofs.YtohahgiidooijaaGreat.Sg
/- Monic of the reference's polynomials. -/
namespace Go.Proofs.YtohahgiidooijaaGreat
open Go.RowKit Go.Front Go.Num Stab
attribute [local go_sem] XW.cell XW.frozen
set_option maxRecDepth 8000 in
set_option maxHeartbeats 4000000 in
theorem j8(ao:Option Addr)(n cap:Nat)(l:List Rat)(S:Nat)(w:World)(h:aJ w ⟨ao,n,cap⟩ l)(hn:n≤1000000)(hS:S≤8000000)(hz:SzL S l) :
  au 193 [.slice ao n cap] w SH.v (fun x w'=>bj w.heap.size w' x (bi l)):=by
 have HX:=Hi (Ext.refl w);have LP:=Hi h.lin;have HSz:=Hi hz;have Hlen:=Hi h.len;simp only at Hlen;clear h hz;unfold au;go_enter Tryz.func193,Tryz.ntmps193
 go_wp2_with fail
 refine cM (aN ao n cap l _ (LP.out.can.raw HSz.out (by omega)) (by omega)) fun x4 w4 hE G4=>?_
 refine mV2 hE ?_ HX LP;clear HX LP;intro HX LP;have hs_w4:=hE.size;clear hE;obtain ⟨pa,P,pc⟩:=x4;have hP:=G4.out.len;simp only at hP;obtain ⟨p,hp⟩:∃ p,p=tz l:=⟨_,rfl⟩;rw [←hp] at G4 hP;have HTZ:=Hi hp;have HSp:Hid (SzL S p):=Hi (by rw [hp];exact SzL.tz HSz.out);have hPn:P≤n:=by rw [←hP,hp,←Hlen.out];exact af l
 have hHP:=Hi hP;have HG:Hid (LIn w4 ⟨pa,P,pc⟩ p w.heap.size w4.heap.size):=Hi G4.out;clear hp hP Hlen;clear LP;clear G4;simp only [SH.v];by_cases h0:P=0
 case pos =>
  subst h0;have HV:Hid (bi l=[]):=Hi (by unfold bi;rw [if_pos (by rw [←HTZ.out];exact nXi.1 hHP.out)]);go_wp2
  go_ret
  exact ⟨⟨none,0,0⟩,rfl,HX.out,by rw [HV.out];exact bj.nil _ _⟩
 obtain ⟨m,rfl⟩:∃ m,P=m+1:=⟨P-1,by omega⟩;have hz0:((m:Int)+1 == 0)=false:=by rw [nXr];omega
 have Hne:Hid (tz l≠[]):=Hi (by rw [←HTZ.out];intro h;have:=hHP.out;rw [h] at this;simp at this);have HL:Hid (aI (tz l)=p.getD m 0):=Hi (by unfold aI;rw [←HTZ.out,hHP.out];rfl);have Zc:Hid (Sz S (p.getD m 0)):=Hi (HSp.out.at (by rw [hHP.out];omega));have ZI:Hid (Sz (1+S) (((1:Int):Rat) / p.getD m 0)):=Hi ((Sz.int (by decide)).div Zc.out);have HV:Hid (bi l=aK p (((1:Int):Rat) / p.getD m 0)):=Hi (by unfold bi aK;rw [if_neg Hne.out,HL.out,←HTZ.out]);obtain ⟨b,off,r,hao,hbl,⟨hc1,hc2,hc3⟩,hPc⟩:=HG.out.celx (k:=m) (by omega);obtain ⟨rneg,ra,rn,rc,rb,rm,rd⟩:=r;simp only at hc1 hc2 hc3;have HC:=Hi hPc;clear hPc h0;subst hao
 go_upto_region 4 with fail
 refine wpG 10 (fun opIx=>match opIx with
  | 1=>.spec RH default RH.v (fun s w'=>ay w' s (((1:Int):Rat)))
  | 8=>.spec RH default RH.v (fun s w'=>ay w' s (((1:Int):Rat) / p.getD m 0))
  | 9=>.spec (SH) (default) (SH.v) (fun x w'=>bj w.heap.size w' x (aK p (((1:Int):Rat) / p.getD m 0)))
  | _=>.quiet) (fun|8=>[1]|9=>[8]|_=>[]) fun w0 he0 hz0 hc0 hf0=>?_
 refine wps he0.out rfl rfl (fun w1 hW hG=>?_) fun x20=>?_
 ·exact spc [.int .i64 1] Tryz.func18 (aX 1 _ (by decide) (by decide))
 refine qZ ?_;refine wps he0.out rfl rfl (fun w1 hW hG=>?_) fun x21=>?_
 ·have g20:=(hG 1 (by decide):aD _ _).get fun _ e g=>g.ext e
  exact spc [x20.v,RH.v ⟨rneg,ra,rn,rc,rb,rm,rd⟩] Tryz.func63 (fD x20 _ _ _ _ (g20.raw (Sz.int (by decide)) (by decide)) ((HC.out.ext hW).raw Zc.out (by omega)))
 refine qZ ?_;refine wps he0.out rfl rfl (fun w1 hW hG=>?_) fun x22=>?_
 ·have g21:=(hG 8 (by decide):aD _ _).get fun _ e g=>g.ext e
  exact spc [.slice (some ⟨b,off,none⟩) (m+1:Nat) pc,x21.v] Tryz.func28 ((eB (some ⟨b,off,none⟩) (m+1) pc p x21 (((1:Int):Rat) / p.getD m 0) _ ((HG.out.ext hW).can.raw HSp.out (by omega)) (g21.raw ZI.out (by omega)) (by omega) (HSp.out.mono (by omega)) (ZI.out.mono (by omega))).wk (fun _ _ _ h=>h.mono (by have:=hW.size;omega)))
 refine qZ ?_;refine aq ?_;intro w5 hI;have hE:=he0.out.trans hI.ext;have G20:=gT (hI.facts 1);have G21:=gT (hI.facts 8);have G22:=gT (hI.facts 9);clear hI he0 hz0 hc0 hf0;refine mV3 hE ?_ HX HG HC;clear HX HG HC;intro HX HG HC;have hs_w5:=hE.size;clear hE;simp only [pD];clear hc1 hc2 hc3;go_wp2
 go_ret
 exact ⟨x22,rfl,HX.out,by rw [HV.out];exact G22.out⟩
end Go.Proofs.YtohahgiidooijaaGreat
