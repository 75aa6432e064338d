/- Sizes for Isolate and Nonnegative. Plain facts. -/
import Derived.Test.YtafgmcimcbhhjaaGreatQZK12
import Derived.Test.YtafgmcimcbhhjaaGreatQZK2
import Derived.Test.YtafgmcimcbhhjaaGreatQZK5
import Derived.Test.YtafgmcimcbhhjaaGreatQZK6
import Derived.Test.YtafgmcimcbhhjaaGreatQZK3
import Derived.Test.YtafgmcimcbhhjaaGreatQZK8
import Derived.Test.YtafgmcimcbhhjaaGreatQZM13
import Derived.Test.YtafgmcimcbhhjaaGreatRows
import Derived.Test.YtafgmcimcbhhjaaGreatQZK1
import Derived.ProofKit
import Derived.OpenShut
import Derived.ShutString
import Derived.ChangeOld
import Derived.Lib.SmallJoins
set_option linter.unusedVariables false
set_option maxRecDepth 8000
namespace Go.Proofs.YtafgmcimcbhhjaaGreat
open Go.RowKit Go.Front Go.Num Stab Sg
theorem u8{K S D T n:Nat}{p:List Rat}{x:Rat}(hS:1≤S)(hD:0<D)(hf:FrL S D p)(hl:p.length≤n)(hn:n≤100)(h0:tz p≠[])(hK:KZ K S p.length)(hK2:K≤10000000)(hx:Sz T x)(hT:n*(T+1)≤20000000):Mz (f9 p) x:=by
 have h1:=qP hS hD hf (by omega) h0 hK;have h2:=n9 p;have h3:=nZ h0;have hK1:1≤K:=by have:=hK.small;omega
 rw [lk];refine ⟨by rw [nXk];omega,fun k hk=>?_⟩;rw [nXk] at hk;have hm:(cb p).getD k [] ∈ cb p:=by
  rw [nXc,List.getElem?_eq_getElem hk];exact List.getElem_mem _
 have e:((cb p).map aR).getD k []=aR ((cb p).getD k []):=by
  rw [nXc,nXc,nXu,List.getElem?_eq_getElem hk];rfl
 have ht:tz ((cb p).getD k [])=(cb p).getD k []:=v8 _ _ _ (bC _) (bC _) _ hm;have hml:=h3 _ hm;obtain ⟨E,e1,e2,e3⟩:=kA (h1 _ hm) ht hK1;rw [e];have hul:(aR ((cb p).getD k [])).length≤n:=by rw [gZ,ht];omega
 refine ⟨by omega,(e3.sz hK1 e1 e2).mono (by omega),fun j hj=>(kk e3 hx hK1 e1 e2 j).mono ?_⟩;have h5:(aR ((cb p).getD k [])).length*(T+1)≤n*(T+1):=nXg _ hul;omega
def isS(S n:Nat):Nat:=(S+1)*(2*n+1)
def isY(S n T:Nat):Nat:=vz (isS S n) n T+8
def isM(S n T:Nat):Nat:=isY S n T+T+1
def isT(S n T:Nat):Nat:=3*T+isM S n T+1
theorem yB{T:Nat}{x:Rat}(h:Sz T x):-((W32 ^ T:Nat):Rat)≤x∧x≤((W32 ^ T:Nat):Rat):=(k8 h (Nat.dvd_refl _)).bd x.den_pos
theorem wB{K S n:Nat}{l:List Rat}(hf:FrB S l)(hl:l.length≤n)(hn:n≤1000)(h0:tz l≠[])(hK:KN K S n):FrK K (tz l)∧FrK K (fI (tz l)):=by
 obtain ⟨h1,D,h2,h3,h4⟩:=hf.tz;have h5:=ag l;exact ⟨uJ h1 h2 h3 h4 (by omega) hK,xx h2 h4 (by rw [aF];exact h0) (by omega) hn hK⟩
theorem yC{S n:Nat}{l:List Rat}(hf:FrB S l)(hl:l.length≤n)(hn:n≤1000)(h0:tz l≠[]):∀ y ∈ aA (fI (tz l)),Wz (isS S n) y:=by
 obtain ⟨h1,D,h2,h3,h4⟩:=hf.tz;have h5:=ag l;have h00:tz (tz l)≠[]:=by rw [aF];exact h0
 have hsl:(aA (tz l)).length≤n:=by rw [aK,aF];omega
 have:=oR (q:=aA (tz l)) (d:=fI (tz l)) (S:=S) (eJ (fun x hx=>h4 x (ju hx)) h2) (by rw [bC];exact fun k=>h00 (bV.1 k)) (vV h00 (vt h00)) (by omega);exact fun y hy=>(this y hy).mono (nXf _ (by omega))
theorem zh{l:List Rat}{S n T bits K P:Nat}{lo hi:Rat}(hf:FrB S l)(hl:l.length≤n)(hP:P≤n)(hn:n≤49)(h0:tz l≠[])(za:Sz T lo)(zb:Sz T hi)(hlh:lo≤hi)(hT:T≤1000)(hb:bits≤256)(hK:KN K S n)(hK1:K≤3900000)(hK2:(n+1)*(K / 3)≤25000000)(hT2:isT S n T≤150000) :
  Is6 l K P lo hi bits T (isM S n T) (isY S n T) (32*isM S n T) (lo.den*hi.den):=by
 have h00:tz (tz l)≠[]:=by rw [aF];exact h0
 have hrt:=qx h00;obtain ⟨k1,k2⟩:=wB hf hl (by omega) h0 hK;have hql:(fI (tz l)).length≤n:=by have:=mW h00;have:=ag l;omega
 have hw:=yC hf hl (by omega) h0;have hwl:(aA (fI (tz l))).length≤n:=by rw [aK];have:=ag (fI (tz l));omega
 obtain ⟨b1,b2⟩:=yB za;obtain ⟨b3,b4⟩:=yB zb;have hnT:n*(isT S n T+1)≤49*150001:=nXw hn (by omega);have hYY:W32 ^ vz (isS S n) n T≤W32 ^ isY S n T:=nXo au (by unfold isY;omega);have hYr:((W32 ^ vz (isS S n) n T:Nat):Rat)≤((W32 ^ isY S n T:Nat):Rat):=by exact_mod_cast hYY
 refine ⟨by omega,h0,k1,hK1,?_,k2,za,zb,hT,⟨hrt.ne,hrt.cp,Nat.mul_pos lo.den_pos hi.den_pos,?_,fun a b h1 h2 h3 h4=>?_,?_⟩,⟨nXd _,?_,(yz hb).mono (by decide),fun x hx=>?_⟩,hb,?_,?_,?_⟩
 ·exact nXe (nXg _ (by omega)) hK2
 ·rw [show 2*T=T+T by omega,Nat.pow_add];exact nXw (nYj za.2) (nYj zb.2)
 ·refine sep hrt.ne hrt.cp hw hwl (by omega) h1 h2 h3 ?_;have:=aU hYr (show 0≤b-a by grind);grind
 ·unfold wd6;have e1:((1:Int):Rat)=1:=rfl;rw [e1];have hp:(0:Rat)<((2 ^ bits:Nat):Rat):=by exact_mod_cast Nat.two_pow_pos bits
  have h1:=aQ (a:=1) (b:=((2 ^ bits:Nat):Rat)) (by grind);have h2:((2 ^ bits:Nat):Rat)≤((W32 ^ isY S n T:Nat):Rat):=by
   have a1:(2:Nat) ^ bits≤2 ^ 256:=nXo (by decide) hb;have a2:(2:Nat) ^ 256≤W32 ^ 8:=by decide
   have a3:W32 ^ 8≤W32 ^ isY S n T:=nXo au (by unfold isY;omega)
   exact_mod_cast nXe a1 (nXe a2 a3)
  have h3:=tA (show (0:Rat)<1 by decide) hp;generalize 1 / ((2 ^ bits:Nat):Rat)=c at *
  have h4:=aU h2 (Rat.le_of_lt h3);grind
 ·have:isT S n T=3*T+isM S n T+1:=rfl;omega
 ·obtain ⟨U,F,u1,u2,u3,u4,u5⟩:=k2;have:isT S n T=3*T+isM S n T+1:=rfl;rw [←this] at hx;exact u8 u1 u2 u4 hql (by omega) hrt.ne u5 (by omega) hx (by omega)
 ·rw [pB hlh];exact k8 za (Nat.dvd_mul_right _ _)
 ·rw [pG hlh];exact k8 zb (Nat.dvd_mul_left _ _)
 ·rw [pB hlh,pG hlh,yS];have e:((W32 ^ isM S n T:Nat):Rat)=((W32 ^ isY S n T:Nat):Rat)*((W32 ^ T:Nat):Rat)*((W32 ^ 1:Nat):Rat):=by
   unfold isM;rw [Nat.pow_add,Nat.pow_add,Rat.natCast_mul,Rat.natCast_mul]
  have h2:(2:Rat)≤((W32 ^ 1:Nat):Rat):=by decide +kernel
  have hY0:(0:Rat)≤((W32 ^ isY S n T:Nat):Rat):=by exact_mod_cast Nat.zero_le _
  have hT0:(0:Rat)≤((W32 ^ T:Nat):Rat):=by exact_mod_cast Nat.zero_le _
  rw [e];generalize ((W32 ^ isY S n T:Nat):Rat)=y at *
  generalize ((W32 ^ T:Nat):Rat)=t at *
  generalize ((W32 ^ 1:Nat):Rat)=u at *
  have a1:=cf (show hi-lo≤2*t by grind) hY0;have a2:=aU h2 (kR hY0 hT0);grind
theorem zT{l:List Rat}{S n T:Nat}(hf:FrB S l)(hl:l.length≤n)(hn:n≤49)(hS:S≤500000)(hT2:T≤150000):∃ D,AfZ S D T n l:=by
 obtain ⟨h1,D,h2,h3,h4⟩:=hf;have hnT:n*(T+1)≤49*150001:=nXw hn (by omega);exact ⟨D,h1,h2,h3,h4,hl,by omega,by omega⟩
theorem nh(pa:Option Addr)(P pc:Nat)(l:List Rat)(S n T K:Nat)(s t:RH)(lo hi:Rat)(w:World)(h:cU w ⟨pa,P,pc⟩ l)(hs:aX w s lo)(ht:aX w t hi)(hf:FrB S l)(hl:l.length≤n)(hn:n≤49)(za:Sz T lo)(zb:Sz T hi)(hlh:lo≤hi)(hT:T≤1000)(hK:KN K S n)(hK1:K≤3900000)(hK2:(n+1)*(K / 3)≤25000000)(hT2:isT S n T≤150000)(hS:S≤500000)
 (hnn:∀ x,lo≤x→x≤hi→0≤evV l x) :
  ar 14 [.slice pa P pc,IvV (s,t)] w (fun _:Unit=>.tuple #[.bool true,.int .i64 0]) (fun _ _=>True):=by
 have hP:P≤n:=by have:=h.len;simp only at this;omega
 by_cases h0:tz l=[]
 ·exact ni pa P pc l s t lo hi w h (by omega) hs ht h0
 ·obtain ⟨D2,hA⟩:=zT (T:=isT S n T) hf hl hn hS hT2;have hI:Is6 l K P (loV lo hi) (hiV lo hi) 0 T (isM S n T) (isY S n T) (32*isM S n T) (lo.den*hi.den):=by
   rw [pB hlh,pG hlh];exact zh hf hl hP hn h0 za zb hlh hT (by decide) hK hK1 hK2 hT2
  have hR:=nj pa P pc l K s t lo hi T (isM S n T) (isY S n T) (32*isM S n T) (lo.den*hi.den) S D2 n w h hs ht hI hA;rw [pB hlh,pG hlh] at hR;rw [uf (aF l) hlh (fun x h1 h2=>by rw [iF];exact hnn x h1 h2) (zg hlh)] at hR;exact hR
end Go.Proofs.YtafgmcimcbhhjaaGreat
/- Valid, of, limited, together, square of package response. -/
namespace Go.Proofs.YtafgmcimcbhhjaaGreat
open Go.RowKit Go.Front Go.Num Stab
attribute [local go_sem] XW.cell XW.frozen
end Go.Proofs.YtafgmcimcbhhjaaGreat
/- The group delay: what is computed, plain facts. -/
namespace Go.Proofs.YtafgmcimcbhhjaaGreat
open Go.RowKit Go.Front Go.Num Stab
theorem zn(c:List Rat):(fbV c).length≤c.length:=by
 unfold fbV;refine nXe (ag _) ?_;rw [nXk,nXs];exact nXd _
theorem mD{p q:List Rat}{n:Nat}(hp:p.length≤n)(hq:q.length≤n):(aC p q).length≤n:=by
 unfold aC;refine nXe (zn _) ?_;rw [nXk,nXs];have:=ag p;have:=ag q;omega
theorem rH{p q:List Rat}{n m:Nat}(hp:p.length≤n)(hq:q.length≤m):(aw p q).length≤n+m-1:=by
 unfold aw;refine nXe (ag _) ?_;have:=ag p;have:=ag q;rw [nXk,nXs];omega
def cc(N:Nat)(u v:Nat→Rat)(k:Nat):Rat:=sm N (fun i=>u i*v (i+k))
def ce(N:Nat)(u v:Nat→Rat)(k:Nat):Rat:=if k=0 then cc N u v k else cc N u v k+cc N v u k
theorem v7{p q:List Rat}{N:Nat}(hp:p.length≤N)(k:Nat):iK (tz p) (tz q) k=cc N (seq p) (seq q) k:=by
 unfold iK cc;have hl:=ag p;rw [sm_congr (g:=fun i=>seq p i*seq q (i+k)) (fun i _=>by rw [aG,aG];rfl)];refine bZ (by omega) fun i h1 h2=>?_
 rcases Nat.lt_or_ge i (tz p).length with h3|h3
 ·rw [show seq q (i+k)=0 from gt (l:=q) (i:=i+k) (by omega)];grind
 ·rw [show seq p i=0 from gt (l:=p) (i:=i) h3];grind
theorem s4{p q:List Rat}{N k:Nat}(hq:q.length≤k):cc N (seq p) (seq q) k=0:=by
 unfold cc;rw [sm_congr (g:=fun _=>0) (fun i _=>by rw [show seq q (i+k)=0 from aT (by omega)];grind),sm_zero]
theorem oU{p q:List Rat}{N:Nat}(hp:p.length≤N)(hq:q.length≤N)(n:Nat):seq (aC p q) n=sm N (fun k=>ce N (seq p) (seq q) k*Tf k n):=by
 show (aC p q).getD n 0=_;unfold aC;rw [oN];unfold fbS;have h1:=ag p;have h2:=ag q;rw [nXk,nXs,sm_congr (g:=fun k=>ce N (seq p) (seq q) k*Tf k n) (fun k hk=>by
  rw [dE,if_pos hk];unfold crE ce;rw [v7 hp,v7 hq])]
 refine bZ (by omega) fun k h3 h4=>?_
 have e1:cc N (seq p) (seq q) k=0:=by
  rw [←aN p,←aN q];exact s4 (by omega)
 have e2:cc N (seq q) (seq p) k=0:=by
  rw [←aN p,←aN q];exact s4 (by omega)
 unfold ce;split
 ·rw [e1];grind
 ·rw [e1,e2];grind
def ttM(x:Rat):Nat→Rat×Rat
 | 0=>(1,0)
 | n+1=>(x*(ttM x n).1-(1-x*x)*(ttM x n).2,x*(ttM x n).2+(ttM x n).1)
theorem qk(x:Rat):∀ i j:Nat,(ttM x (i+j)).1=(ttM x (i+j)).1∧(ttM x j).1=(ttM x (i+j)).1*(ttM x i).1+(1-x*x)*((ttM x (i+j)).2*(ttM x i).2):=by
 intro i;induction i with
 | zero=>intro j;rw [Nat.zero_add];exact ⟨rfl,by show _=_*1+_*(_*0);grind⟩
 | succ i ih =>
  intro j;have h:=(ih j).2;rw [show i+1+j=(i+j)+1 by omega];refine ⟨rfl,?_⟩;rw [h];show _=(x*(ttM x (i+j)).1-(1-x*x)*(ttM x (i+j)).2)*(x*(ttM x i).1-(1-x*x)*(ttM x i).2)+(1-x*x)*((x*(ttM x (i+j)).2+(ttM x (i+j)).1)*(x*(ttM x i).2+(ttM x i).1));grind
theorem yA(x:Rat)(i j:Nat):(ttM x ((i:Int)-j).natAbs).1=(ttM x i).1*(ttM x j).1+(1-x*x)*((ttM x i).2*(ttM x j).2):=by
 rcases Nat.le_total i j with h|h
 ·obtain ⟨k,rfl⟩:∃ k,j=i+k:=⟨j-i,by omega⟩;rw [show ((i:Int)-(i+k:Nat)).natAbs=k by omega,(qk x i k).2];grind
 ·obtain ⟨k,rfl⟩:∃ k,i=j+k:=⟨i-j,by omega⟩;rw [show (((j+k:Nat):Int)-j).natAbs=k by omega,(qk x j k).2]
theorem wv(x:Rat)(n:Nat):(ttM x (n+2)).1=2*x*(ttM x (n+1)).1-(ttM x n).1:=by
 show x*(x*(ttM x n).1-(1-x*x)*(ttM x n).2)-(1-x*x)*(x*(ttM x n).2+(ttM x n).1)=2*x*(x*(ttM x n).1-(1-x*x)*(ttM x n).2)-(ttM x n).1;grind
theorem Ag(x:Rat):∀ k:Nat,(∀ M,k<M→sm M (fun n=>Tf k n*x ^ n)=(ttM x k).1)∧∀ M,k+1<M→sm M (fun n=>Tf (k+1) n*x ^ n)=(ttM x (k+1)).1:=by
 have z0:∀ M,0<M→sm M (fun n=>Tf 0 n*x ^ n)=1:=fun M hM=>by
  obtain ⟨m,rfl⟩:∃ m,M=m+1:=⟨M-1,by omega⟩;rw [ck,sm_congr (g:=fun _=>0) (fun i _=>by rw [lx,if_neg (by omega),nXy]),sm_zero,lx,if_pos rfl,Rat.pow_zero];grind
 have z1:∀ M,1<M→sm M (fun n=>Tf 1 n*x ^ n)=x:=fun M hM=>by
  obtain ⟨m,rfl⟩:∃ m,M=m+2:=⟨M-2,by omega⟩;rw [ck,ck,sm_congr (g:=fun _=>0) (fun i _=>by rw [mK,if_neg (by omega),nXy]),sm_zero,mK,mK,if_neg (by omega),if_pos rfl,show (x ^ (0+1))=x by grind];grind
 intro k;induction k with
 | zero=>exact ⟨fun M hM=>(z0 M hM).trans rfl,fun M hM=>(z1 M hM).trans (by show x=x*1-(1-x*x)*0;grind)⟩
 | succ k ih =>
  refine ⟨ih.2,fun M hM=>?_⟩;obtain ⟨m,rfl⟩:∃ m,M=m+1:=⟨M-1,by omega⟩;have h1:=ih.2 m (by omega);have h2:=ih.1 (m+1) (by omega);rw [ck] at h2;rw [show k+1+1=k+2 from rfl,wv,ck,jN,if_neg (by omega),Rat.pow_zero];rw [sm_congr (f:=fun i=>Tf (k+2) (i+1)*x ^ (i+1)) (g:=fun i=>2*x*(Tf (k+1) i*x ^ i)+-1*(Tf k (i+1)*x ^ (i+1))) (fun i _=>by
   rw [jN,if_pos (Nat.succ_pos i),Nat.add_sub_cancel,Rat.pow_succ];grind)]
  rw [fN,sm_mul,sm_mul,h1,←h2,Rat.pow_zero];grind
theorem zt(p:List Rat)(x:Rat):evV (aC p p) x=sm p.length (fun i=>seq p i*(ttM x i).1)*sm p.length (fun i=>seq p i*(ttM x i).1)+(1-x*x)*(sm p.length (fun i=>seq p i*(ttM x i).2)*sm p.length (fun i=>seq p i*(ttM x i).2)):=by
 obtain ⟨M,hM⟩:∃ M,M=(aC p p).length+p.length+1:=⟨_,rfl⟩;rw [kj (N:=M) (by omega)];have e1:sm M (fun n=>seq (aC p p) n*x ^ n)=sm p.length (fun i=>sm p.length (fun j=>seq p i*seq p j*(ttM x ((i:Int)-j).natAbs).1)):=by
  rw [sm_congr (g:=fun n=>sm p.length (fun i=>sm p.length (fun j=>seq p i*seq p j*TZ ((i:Int)-j) n*x ^ n))) (fun n _=>by
   rw [show seq (aC p p) n=dS p.length (seq p) (fun d=>TZ d n) from oE p n];unfold dS;rw [nYa,←sm_mul];refine sm_congr fun i _=>?_
   rw [←sm_mul];exact sm_congr fun j _=>by grind)]
  rw [je];refine sm_congr fun i hi=>?_
  rw [je];refine sm_congr fun j hj=>?_
  rw [←(Ag x ((i:Int)-j).natAbs).1 M (by omega),←sm_mul];exact sm_congr fun n _=>by unfold TZ;grind
 rw [e1,qE,qE,←sm_mul,←fN];refine sm_congr fun i _=>?_
 rw [←sm_mul,←fN];refine sm_congr fun j _=>?_
 rw [yA];grind
theorem pA(p:List Rat){x:Rat}(h1:-1≤x)(h2:x≤1):0≤evV (aC p p) x:=by
 rw [zt];have hs:0≤1-x*x:=by
  have:=Rat.mul_nonneg (show 0≤1-x by grind) (show 0≤1+x by grind);grind
 have k1:=lH (sm p.length (fun i=>seq p i*(ttM x i).1));have k2:=Rat.mul_nonneg hs (lH (sm p.length (fun i=>seq p i*(ttM x i).2)));grind
def iv(p:List Rat)(x:Rat)(N:Nat):Rat:=sm N (fun i=>seq p i*(ttM x i).2)
theorem xh{p r:List Rat}{L:Nat}(hp:p.length≤L+1)(hr:r.length≤L+1)(h:∀ k,k≤L→seq r k=seq p (L-k)):aC r r=aC p p:=by
 have h1:∀ n,seq (aC r r) n=seq (aC p p) n:=fun n=>by
  rw [oU hr hr,oU hp hp];refine sm_congr fun k hk=>?_
  have key:cc (L+1) (seq r) (seq r) k=cc (L+1) (seq p) (seq p) k:=by
   unfold cc;rw [←bZ (n:=L+1-k) (m:=L+1) (by omega) (fun i h1 _=>by rw [show seq r (i+k)=0 from aT (by omega),nXz]),←bZ (n:=L+1-k) (m:=L+1) (by omega) (fun i h1 _=>by rw [show seq p (i+k)=0 from aT (by omega),nXz])];rw [qD];refine sm_congr fun i hi=>?_
   rw [h _ (by omega),h _ (by omega),show L-(L+1-k-1-i)=i+k by omega,show L-(L+1-k-1-i+k)=i by omega,nYa]
  unfold ce;rw [key]
 have h2:=jp h1;unfold aC at h2 ⊢
 rwa [vR,vR] at h2
end Go.Proofs.YtafgmcimcbhhjaaGreat
/- ChebyshevMagnitudes returns true. -/
set_option maxHeartbeats 8000000
namespace Go.Proofs.YtafgmcimcbhhjaaGreat
open Go.RowKit Go.Front Go.Num Stab Sg
attribute [local go_sem] XW.cell XW.frozen
theorem tI(w:World):ar 15 [] w IvV (fun x w'=>aB w' x.1 (-1)∧aB w' x.2 1):=by
 have HX:=Hi (Ext.refl w);unfold ar;go_enter Tryz.func15,Tryz.ntmps15
 go_upto_region 1 with fail
 refine nmA ?_;intro w0 hE B0 hz_w0 hr_w0;replace HX:=hE.tr HX;have hs_w0:=hE.size;clear hE;replace b_B0:=bX3 B0
 go_wp2_with fail
 refine cM (aL (-1) _ (by decide) (by decide)) fun x1 w1 hE G1=>?_
 refine mV2 hE ?_ B0 HX;clear B0 HX;intro B0 HX;have hs_w1:=hE.size;clear hE;replace b_B0:=bX3 B0
 go_wp2_with fail
 refine cM (aL 1 _ (by decide) (by decide)) fun x2 w2 hE G2=>?_
 refine mV3 hE ?_ G1 B0 HX;clear G1 B0 HX;intro G1 B0 HX;have hs_w2:=hE.size;clear hE;replace b_B0:=bX3 B0
 go_wp2_with fail
 refine cM (nr x1 x2 _ _ _ (G1.out.raw (Sz.int (by decide)) (by decide)) (G2.out.raw (Sz.int (by decide)) (by decide))) fun x3 w3 hE G3=>?_
 refine mV4 hE ?_ G2 G1 B0 HX;clear G2 G1 B0 HX;intro G2 G1 B0 HX;have hs_w3:=hE.size;clear hE;replace b_B0:=bX3 B0;have e1:loV ((-1:Int):Rat) ((1:Int):Rat)=-1:=by decide +kernel
 have e2:hiV ((-1:Int):Rat) ((1:Int):Rat)=1:=by decide +kernel
 rw [e1,e2] at G3;have HL:=Hi G3.out.1;have HH:=Hi G3.out.2;clear G3 e1 e2;go_wp2;refine fZ (F:=fun W=>bodyPost _ _ _ _ _ W) B0.out rfl ?_;intro w10 T;replace HX:=Hi (T.ext HX.out (by omega));replace B0:=Hi (T.bx);replace G1:=Hi (G1.out.keep T.keep);replace G2:=Hi (G2.out.keep T.keep);replace HL:=Hi (HL.out.keep T.keep);replace HH:=Hi (HH.out.keep T.keep);have hs_w10:=nle T.size;have hr_w10:=nle T.size.symm;clear T;replace b_B0:=bX3 B0;exact bodyPost_ret (v:=IvV x3) (by simp [results,Tryz.results15,go_sem,b_B0.1]) rfl ⟨x3,rfl,HX.out,HL.out,HH.out⟩
def ku(p:List Rat)(j:Nat):List Rat:=(List.range j).map (fun i=>p.getD (p.length-1-i) 0)
theorem nG(p:List Rat)(j:Nat):(ku p j).length=j:=by simp [ku]
theorem ve(p:List Rat)(j:Nat):ku p j++[p.getD (p.length-1-j) 0]=ku p (j+1):=by simp [ku,List.range_succ]
theorem ye(p:List Rat){j i:Nat}(h:i<j):(ku p j).getD i 0=p.getD (p.length-1-i) 0:=by
 unfold ku;rw [nXc,nXu,List.getElem?_range h];rfl
theorem zQ{p:List Rat}(h:SzL 1 p)(j:Nat):SzL 1 (ku p j):=fun x hx=>by
 obtain ⟨i,-,rfl⟩:=nYd.1 hx;exact h.getD (by decide) _
theorem xZ(p:List Rat):aC (ku p p.length) (ku p p.length)=aC p p:=by
 cases hn:p.length with
 | zero =>
  rw [nXi.1 hn];rfl
 | succ n =>
  refine xh (L:=n) (by omega) (by rw [nG];exact nXd _) (fun k hk=>?_);show (ku p (n+1)).getD k 0=p.getD (n-k) 0;rw [ye p (by omega),hn];rfl
theorem jT(ao bo:Option Addr)(ac bc:Nat)(xs ys:List Int)(w:World)(h:c9 w ao xs)(hr:InR xs)(hl:xs.length≤9223372036854775807)(hc:xs.length≤ac)(hcm:ac≤9223372036854775807)
 (k:c9 w bo ys)(kr:InR ys)(kl:ys.length≤9223372036854775807)(kc:ys.length≤bc)(kcm:bc≤9223372036854775807) :
  ar 3 [.slice ao xs.length ac,.slice bo ys.length bc] w (fun _:Unit=>.bool true) (fun _ _=>True):=by
 have HX:=Hi (Ext.refl w);have HC1:=Hi (ou ao ac 4 xs w h hr hl (by decide) hc hcm);have HC2:Hid (∀ w',Ext w w'→ar 11 [.slice bo ys.length bc,.int .i64 (3:Nat)] w' SH.v (fun s w2=>cK w'.heap.size w2 s (lX ys 3))):=Hi (fun w' he=>ou bo bc 3 ys w' (k.ext he) kr kl (by decide) kc kcm);obtain ⟨n,hn⟩:∃ n,n=xs.length:=⟨_,rfl⟩;obtain ⟨m,hm⟩:∃ m,m=ys.length:=⟨_,rfl⟩;have ZP:=Hi (yR xs 4);have LP:=Hi (vC xs 4);have ZQ:=Hi (yR ys 3);have LQ:=Hi (vC ys 3);obtain ⟨p,hp⟩:∃ p,p=lX xs 4:=⟨_,rfl⟩;obtain ⟨q,hq⟩:∃ q,q=lX ys 3:=⟨_,rfl⟩;rw [←hn] at HC1 ⊢;rw [←hm] at HC2 ⊢;rw [←hp] at HC1 ZP LP;rw [←hq] at HC2 ZQ LQ;clear h k hr kr hl kl hc kc hcm kcm hn hm hp hq;have FP:Hid (FrB 7 p):=Hi (FrB.of ZP.out LP.out);have FQ:Hid (FrB 7 q):=Hi ((FrB.of ZQ.out LQ.out).mono (by decide));have FM:Hid (FrB 18 (aC p p)):=Hi (FrB.cross FP.out FP.out (by have:=LP.out;omega) (by have:=LP.out;omega));have FN:Hid (FrB 18 (aC q q)):=Hi (FrB.cross FQ.out FQ.out (by have:=LQ.out;omega) (by have:=LQ.out;omega));have LM:Hid ((aC p p).length≤5):=Hi (mD LP.out LP.out);have LN:Hid ((aC q q).length≤4):=Hi (mD LQ.out LQ.out);have FPQ:Hid (FrB 15 (aw p q)):=Hi (FP.out.mul FQ.out (by have:=LP.out;omega));have LPQ:Hid ((aw p q).length≤8):=Hi (rH LP.out LQ.out);have HMP:=Hi (ut p q);have HBM:=Hi (xZ p);have ZBK:=Hi (zQ ZP.out);have HNN:Hid (∀ x,-1≤x→x≤1→0≤evV (aC p p) x):=Hi (fun x h1 h2=>pA p h1 h2);unfold ar;go_enter Tryz.func3,Tryz.ntmps3
 go_wp2_with fail
 refine cM (HC1.out) fun x20 w20 hE G20=>?_
 replace HX:=hE.tr HX;have hs_w20:=hE.size;clear hE;obtain ⟨a1,n1,c1⟩:=x20;simp only [SH.v]
 go_wp2_with fail
 refine cM (HC2.out _ HX.out) fun x22 w22 hE G22=>?_
 refine mV2 hE ?_ G20 HX;clear G20 HX;intro G20 HX;have hs_w22:=hE.size;clear hE;obtain ⟨a2,n2,c2⟩:=x22;have L1:=Hi G20.out.can.lin;have L2:=Hi G22.out.can.lin;clear G20;clear G22;have hn1:=L1.out.len;have hn2:=L2.out.len;simp only at hn1 hn2;have HN1:=Hi hn1;have hb1:n1≤5:=by have:=LP.out;omega
 have hb2:n2≤4:=by have:=LQ.out;omega
 clear hn1 hn2;simp only [SH.v]
 go_wp2_with fail
 refine cM (cF a1 n1 c1 1 p _ (L1.out.can.raw ZP.out (by decide)) (by omega) ZP.out (by decide) (by decide)) fun x25 w25 hE G25=>?_
 refine mV3 hE ?_ HX L1 L2;clear HX L1 L2;intro HX L1 L2;have hs_w25:=hE.size;clear hE;obtain ⟨⟨a3,n3,c3⟩,e3⟩:=x25;obtain ⟨he,hl3⟩:=G25.out;simp only at he hl3;subst he;have L3:=Hi hl3.lin;clear hl3 G25;simp only [RF,SH.v]
 go_wp2_with fail
 refine cM (cF a2 n2 c2 1 q _ (L2.out.can.raw ZQ.out (by decide)) (by omega) ZQ.out (by decide) (by decide)) fun x30 w30 hE G30=>?_
 refine mV4 hE ?_ HX L1 L2 L3;clear HX L1 L2 L3;intro HX L1 L2 L3;have hs_w30:=hE.size;clear hE;obtain ⟨⟨a4,n4,c4⟩,e4⟩:=x30;obtain ⟨he,hl4⟩:=G30.out;simp only at he hl4;subst he;have L4:=Hi hl4.lin;clear hl4 G30;simp only [RF,SH.v]
 go_wp2_with fail
 refine cM (oC a1 a2 n1 c1 n2 c2 p q 1 _ (L1.out.can.raw ZP.out (by decide)) (L2.out.can.raw ZQ.out (by decide)) (by omega) (by omega) ZP.out ZQ.out (by decide)) fun x36 w36 hE G36=>?_
 refine mV5 hE ?_ HX L1 L2 L3 L4;clear HX L1 L2 L3 L4;intro HX L1 L2 L3 L4;have hs_w36:=hE.size;clear hE;obtain ⟨a5,n5,c5⟩:=x36;have hn5:n5≤8:=by have h:=G36.out.len;have:=LPQ.out;simp only at h;omega
 simp only [SH.v]
 go_wp2_with fail
 refine cM (cF a5 n5 c5 15 (aw p q) _ (G36.out.can.raw FPQ.out.sz (by decide)) (by omega) FPQ.out.sz (by decide) (by decide)) fun x37 w37 hE G37=>?_
 refine mV6 hE ?_ G36 HX L1 L2 L3 L4;clear G36 HX L1 L2 L3 L4;intro G36 HX L1 L2 L3 L4;have hs_w37:=hE.size;clear hE;obtain ⟨⟨a6,n6,c6⟩,e6⟩:=x37;obtain ⟨he,hl6⟩:=G37.out;simp only at he hl6;subst he;rw [HMP.out] at hl6;have L6:=Hi hl6.lin;clear hl6 G37;clear G36;simp only [RF,SH.v];have HXA:=Hi (Ext.refl w37);have HO:Hid (dO w37 (w37.heap.size≤·) (.slice none 0 0) (ku p 0)):=Hi (dO.nil _ _);have hs37:w.heap.size≤w37.heap.size:=by omega
 have L19:=L1;have HX9:=HX;go_wp2
 go_loopg [13,14] n1 (fun g u v wr=>∃ (j:Nat) (x:SH),j+g=n1∧u=x.v∧v=.int .i64 ((g:Int)-1)∧Ext w37 wr∧dO wr (w37.heap.size≤·) x.v (ku p j))
 case atStart=>exact ⟨0,⟨none,0,0⟩,by omega,rfl,rfl,HXA.out,HO.out⟩
 case round =>
  obtain ⟨j,⟨ya,yn,yc⟩,hj,rfl,rfl,g1,g2⟩:=hrel;have L3x:=Hi (L3.out.ext g1);have L4x:=Hi (L4.out.ext g1);have L6x:=Hi (L6.out.ext g1);have L1x:=Hi (L19.out.ext g1);have HXx:=Hi (HX9.out.trans g1);clear HX L1 L2 L3 L4 L6 HO HXA;have HX:=HXx;have L1:=L1x;have L3:=L3x;have L4:=L4x;have L6:=L6x;have HXA:=Hi g1;have HO:=Hi g2;clear g1 g2 HXx L1x L3x L4x L6x;by_cases h0:gk=0
  case pos =>
   subst h0;obtain rfl:j=n1:=by omega
   have LB:Hid (cU wr ⟨ya,yn,yc⟩ (ku p j)):=Hi ((show cj wr ⟨ya,yn,yc⟩ (ku p j) from dO.can HO.out).raw (ZBK.out j) (by decide));have HBM2:Hid (aC (ku p j) (ku p j)=aC p p):=Hi (by have h:=HBM.out;rw [HN1.out] at h;exact h);have hyn:yn≤14:=by have h:=LB.out.len;rw [nG] at h;simp only at h;omega
   have hneg:¬ (0:Int)≤((0:Nat):Int)-1:=by omega
   clear HO;simp only [SH.v]
   go_wp2_with fail
   refine cM (cF ya yn yc 1 (ku p j) _ LB.out hyn (ZBK.out j) (by decide) (by decide)) fun x56 w56 hE G56=>?_
   refine mV6 hE ?_ HX L1 L3 L4 L6 HXA;clear HX L1 L3 L4 L6 HXA;intro HX L1 L3 L4 L6 HXA;have hs_w56:=hE.size;clear hE;obtain ⟨⟨a7,n7,c7⟩,e7⟩:=x56;obtain ⟨he,hl7⟩:=G56.out;simp only at he hl7;subst he;rw [HBM2.out] at hl7;have L7:=Hi hl7.lin;clear hl7 G56 LB;simp only [RF,SH.v]
   go_wp2_with fail
   refine cM (tI _) fun x61 w61 hE G61=>?_
   refine mV7 hE ?_ HX L1 L3 L4 L6 HXA L7;clear HX L1 L3 L4 L6 HXA L7;intro HX L1 L3 L4 L6 HXA L7;have hs_w61:=hE.size;clear hE;obtain ⟨⟨ln,la,ll,lc,lb,lm,ld⟩,⟨hn',ha,hl,hc,hb,hm,hd⟩⟩:=x61;have ZL:Hid (Sz 1 (-1:Rat)):=Hi (by exact (Sz.int (z:=-1) (by decide)));have ZH:Hid (Sz 1 (1:Rat)):=Hi (by exact (Sz.int (z:=1) (by decide)))
   go_wp2_with fail
   refine cM (nh a3 n3 c3 (aC p p) 18 5 1 100000 ⟨ln,la,ll,lc,lb,lm,ld⟩ ⟨hn',ha,hl,hc,hb,hm,hd⟩ (-1) 1 _ (L3.out.can.raw FM.out.sz (by decide)) (G61.out.1.raw ZL.out (by decide)) (G61.out.2.raw ZH.out (by decide)) FM.out LM.out (by decide) ZL.out ZH.out (by decide) (by decide) (by unfold KN;decide) (by decide) (by decide) (by decide) (by decide) HNN.out) fun x62 w62 hE _=>?_
   refine mV7 hE ?_ HX L1 L3 L4 L6 HXA L7;clear HX L1 L3 L4 L6 HXA L7;intro HX L1 L3 L4 L6 HXA L7;have hs_w62:=hE.size;clear hE
   go_wp2_with fail
   refine cM (pP _) fun x65 w65 hE _=>?_
   refine mV7 hE ?_ HX L1 L3 L4 L6 HXA L7;clear HX L1 L3 L4 L6 HXA L7;intro HX L1 L3 L4 L6 HXA L7;have hs_w65:=hE.size;clear hE
   go_wp2_with fail
   refine cM (oC a3 a4 n3 c3 n4 c4 (aC p p) (aC q q) 18 _ (L3.out.can.raw FM.out.sz (by decide)) (L4.out.can.raw FN.out.sz (by decide)) (by have h:=L3.out.len;have:=LM.out;simp only at h;omega) (by have h:=L4.out.len;have:=LN.out;simp only at h;omega) FM.out.sz FN.out.sz (by decide)) fun x93 w93 hE G93=>?_
   refine mV7 hE ?_ HX L1 L3 L4 L6 HXA L7;clear HX L1 L3 L4 L6 HXA L7;intro HX L1 L3 L4 L6 HXA L7;have hs_w93:=hE.size;clear hE;obtain ⟨a8,n8,c8⟩:=x93;simp only [SH.v]
   go_wp2_with fail
   refine cM (fj ⟨a6,n6,c6⟩ ⟨a8,n8,c8⟩ _ _ _ L6.out.can G93.out.can) fun x94 w94 hE _=>?_
   refine mV8 hE ?_ G93 HX L1 L3 L4 L6 HXA L7;clear G93 HX L1 L3 L4 L6 HXA L7;intro G93 HX L1 L3 L4 L6 HXA L7;have hs_w94:=hE.size;clear hE;rw [decide_eq_true rfl]
   go_wp2_with fail
   refine cM (fj ⟨a7,n7,c7⟩ ⟨a3,n3,c3⟩ _ _ _ L7.out.can L3.out.can) fun x99 w99 hE _=>?_
   refine mV8 hE ?_ G93 HX L1 L3 L4 L6 HXA L7;clear G93 HX L1 L3 L4 L6 HXA L7;intro G93 HX L1 L3 L4 L6 HXA L7;have hs_w99:=hE.size;clear hE;rw [decide_eq_true rfl];go_wp2
   go_ret
   exact ⟨(),rfl,HX.out,trivial⟩
  obtain ⟨g0,rfl⟩:∃ g0,gk=g0+1:=⟨gk-1,by omega⟩;have hk1:((g0+1:Nat):Int)-1=(g0:Nat):=by omega
  rw [hk1];have hk0:(0:Int)≤(g0:Nat):=by omega
  have hin:(g0:Int)<n1:=by omega
  have HBS:Hid (ku p j++[p.getD g0 0]=ku p (j+1)):=Hi (by rw [←ve,show p.length-1-j=g0 by rw [HN1.out];omega]);obtain ⟨ba,oa,r,hao,hbl,⟨hc1,hc2,hc3⟩,hPc⟩:=L1.out.celx (k:=g0) (by omega);obtain ⟨rneg,ra,rn,rc,rb,rm,rd⟩:=r;simp only at hc1 hc2 hc3;have HC:=Hi hPc;clear hPc;subst hao;simp only [SH.v] at HO
  go_wp2_with (at_builtin;refine cz rfl (.tmp 47) (.tmp 52) 24 Tryz.underlying24 rfl (w37.heap.size≤·) _ _ ⟨rneg,ra,rn,rc,rb,rm,rd⟩ _ rfl HO.out rfl HC.out (by rw [nG];omega) (fun k hk=>by show w37.heap.size≤k;have:=HXA.out.size;omega) ?_;intro s' y3 q1 q2 q3)
  have HXA3:=Hi (Ext.mods HXA.out q2 (fun k h=>h));rw [HBS.out] at q1;have HO3:=Hi q1;clear q1 q2 q3;go_wp2
  go_roundg g0
  case measure=>omega
  case rel=>exact ⟨j+1,s',by omega,rfl,by go_num,HXA3.out,HO3.out⟩
end Go.Proofs.YtafgmcimcbhhjaaGreat
/- What all joins of this seat share. -/
namespace Go.Proofs.YtafgmcimcbhhjaaGreat
open Go.ChangeShapes Go.WideShapes Go.ChangeAt Go.RowKit Go.Front Go.Joins
theorem own:ownKnob Tryz.prog.godebug=none:=by kernel_rfl
theorem rU:laidOutB Tryz.prog=true:=by kernel_rfl
theorem tD{n:Int}(h:(Lit.int .i64 n).wf=true):-9223372036854775808≤n∧n≤9223372036854775807:=by
 simp [Lit.wf] at h;exact ⟨h.1,h.2⟩
theorem ox{H:Type}{enc:TypeId×Value→H}{W:World}{a0:Option Addr}{len0 cap0:Nat}{d:DataW H}{p:List MemPlace}(h0:DataW.Trod enc Tryz.prog W 0 (fun _=>true) true 22 (.slice a0 len0 cap0) d p) :
  ∃ xs:List Int,c9 W a0 xs∧InR xs∧xs.length=len0∧len0≤9223372036854775807∧len0≤cap0∧cap0≤9223372036854775807:=by
 obtain ⟨fuel,hf⟩:=h0;rcases open_ints Tryz.underlying22 Tryz.underlying3 (by kernel_rfl) hf with ⟨hcs,_⟩|⟨x,l,c,zs,hcs,_,hl,hm,hz,_,hcell,hwz⟩
 ·simp [Value.cells] at hcs;obtain ⟨rfl,rfl,rfl⟩:=hcs;exact ⟨[],Or.inl rfl,fun x hx=>by simp at hx,rfl,by decide,by decide,by decide⟩
 ·simp [Value.cells] at hcs;obtain ⟨rfl,rfl,rfl⟩:=hcs;simp only [maxLen] at hm;have hz':zs.length=cap0:=by simpa using hz
  refine ⟨zs.take len0,?_,fun x hx=>tD (hwz x (List.mem_of_mem_take hx)),by simp;omega,by omega,hl,by omega⟩;by_cases hp:0<zs.length
  ·obtain ⟨b,off,rfl,hc⟩:=ints_at hcell hp;refine Or.inr ⟨b,off,rfl,fun k hk=>?_⟩;simp only [nXj] at hk;rw [hc k (by omega)];simp [show k<len0 by omega]
  ·left
   have:zs=[]:=nXi.1 (by omega);rw [this];simp
end Go.Proofs.YtafgmcimcbhhjaaGreat
