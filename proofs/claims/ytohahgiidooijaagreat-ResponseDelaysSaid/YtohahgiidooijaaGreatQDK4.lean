/- Ev, Pd7 -/
import Derived.Test.YtohahgiidooijaaGreatQDK2
set_option linter.unusedVariables false
namespace Go.Proofs.YtohahgiidooijaaGreat
open Go.RowKit Go.Front Go.Num Stab
def evV(p:List Rat)(x:Rat):Rat:=p.foldr (fun c y=>y*x+c) 0
theorem eQ(c:Rat)(p:List Rat)(x:Rat):evV (c :: p) x=evV p x*x+c:=rfl
theorem FL(p:List Rat)(x:Rat):evV p x=sm p.length (fun i=>p.getD i 0*x ^ i):=by
 induction p with
 | nil=>rfl
 | cons c p ih =>
  rw [eQ,ih,List.length_cons,ct,nYb,←sm_mul];rw [sm_congr (f:=fun i=>(c :: p).getD (i+1) 0*x ^ (i+1)) (g:=fun i=>x*(p.getD i 0*x ^ i)) (fun i _=>by rw [List.getD_cons_succ,Rat.pow_succ];grind)];rw [List.getD_cons_zero,Rat.pow_zero];grind
theorem jN{p:List Rat}{N:Nat}(h:p.length≤N)(x:Rat):evV p x=sm N (fun i=>seq p i*x ^ i):=by
 rw [FL];exact bH h (fun i h1 h2=>by rw [aG h1];grind)
theorem dD{p q:List Rat}{c:Rat}(h:∀ i,seq p i=c*seq q i)(x:Rat):evV p x=c*evV q x:=by
 rw [jN (Nat.le_max_left p.length q.length),jN (Nat.le_max_right p.length q.length),←sm_mul];exact sm_congr (fun i _=>by rw [h];grind)
theorem jC(p:List Rat)(x:Rat):evV (tz p) x=evV p x:=by
 rw [dD (p:=tz p) (q:=p) (c:=1) (fun i=>by rw [aW];grind) x];grind
theorem AG(p:List Rat)(x:Rat):aO p*evV (aB p) x=evV p x:=(dD (cL p) x).symm
theorem wo{p:List Rat}{i:Nat}(h:i<p.length):p.drop i=p.getD i 0 :: p.drop (i+1):=by
 rw [List.drop_eq_getElem_cons h,nXc,List.getElem?_eq_getElem h];rfl
theorem Cz{p:List Rat}{i:Nat}(h:i<p.length)(x:Rat):evV (p.drop i) x=evV (p.drop (i+1)) x*x+p.getD i 0:=by rw [wo h,eQ]
def ehS(a:List Rat)(x:Rat)(i:Nat):Rat:=if i=0 then 0 else ((x.den:Int):Rat) ^ (i-1)*evV (a.drop (a.length-i)) x
def ehP(x:Rat)(i:Nat):Rat:=((x.den:Int):Rat) ^ (i-1)
theorem AQ(x:Rat):((x.den:Int):Rat)≠0:=fun h=>by
 have h1:=congrArg Rat.num h;rw [Rat.num_intCast] at h1;have:=x.den_nz;have h2:((0:Rat)).num=0:=rfl;omega
theorem wg{a:List Rat}{i:Nat}(x:Rat)(h:i<a.length):ehS a x i*(x.num:Rat)+a.getD (a.length-1-i) 0*ehP x (i+1)=ehS a x (i+1):=by
 have hx:x*((x.den:Int):Rat)=(x.num:Rat):=low x;have e1:=Cz (p:=a) (i:=a.length-1-i) (by omega) x;rw [show a.length-1-i+1=a.length-i by omega] at e1;unfold ehS ehP;rw [if_neg (Nat.succ_ne_zero i),Nat.add_sub_cancel,show a.length-(i+1)=a.length-1-i by omega,e1];rcases Nat.eq_zero_or_pos i with h0|h0
 ·subst h0;rw [if_pos rfl];simp only [Nat.sub_zero,Rat.pow_zero];rw [List.drop_of_length_le (nXd _)];show (0:Rat)*_+_=1*(0*x+_);grind
 ·rw [if_neg (by omega)];obtain ⟨j,rfl⟩:∃ j,i=j+1:=⟨i-1,by omega⟩;rw [Nat.add_sub_cancel,Rat.pow_succ,←hx];grind
theorem zK(x:Rat){i:Nat}(h:0<i):ehP x i*((x.den:Int):Rat)=ehP x (i+1):=by
 unfold ehP;obtain ⟨j,rfl⟩:∃ j,i=j+1:=⟨i-1,by omega⟩;rw [Nat.add_sub_cancel,Nat.add_sub_cancel,Rat.pow_succ]
theorem An{x:Rat}(h:x≠0)(n:Nat):x ^ n≠0:=by
 induction n with
 | zero=>rw [Rat.pow_zero];decide
 | succ n ih =>
  rw [Rat.pow_succ];intro h1;rcases nXq.1 h1 with h2|h2
  ·exact ih h2
  ·exact h h2
theorem AK(a:List Rat)(x:Rat):ehS a x a.length / ehP x a.length=evV a x:=by
 unfold ehS ehP;split
 ·next h =>
  rw [nXi.1 h,Rat.div_def,nXz];rfl
 ·rw [Nat.sub_self,List.drop_zero,nYb,Rat.div_def,nYc,nYi _ (An (AQ x) _),Rat.mul_one]
theorem rH{t:Nat}{x:Rat}(h:Sz t x)(ht:1≤t):Sz t (x.num:Rat):=⟨by rw [Rat.num_intCast];exact h.1,by rw [Rat.den_intCast];exact Nat.one_lt_pow (by omega) (by decide)⟩
theorem EC{t:Nat}{x:Rat}(h:Sz t x)(ht:1≤t):Sz t ((x.den:Int):Rat):=⟨by rw [Rat.num_intCast];exact h.2,by rw [Rat.den_intCast];exact Nat.one_lt_pow (by omega) (by decide)⟩
theorem Fr.up{S U D E:Nat}{a:Rat}(ha:Fr S D a)(hE:E≤W32 ^ U)(h0:0<E):Fr (S+U) (D*E) a:=by
 have e:a*((D*E:Nat):Rat)=a*(D:Rat)*(((E:Nat):Int):Rat):=by rw [Rat.natCast_mul];show _=a*(D:Rat)*(E:Rat);grind
 have h1:Wz S (a*(D:Rat)):=ha;unfold Fr;rw [e];refine ⟨h1.1.mul (Wh.int _),?_⟩;rw [h1.1.eq,←Rat.intCast_mul,Rat.num_intCast,Int.natAbs_mul,nYg,Nat.pow_add];exact Nat.mul_lt_mul_of_lt_of_le h1.2 hE (nYl aC)
theorem DJ{A U D E:Nat}{y:Rat}{q:List Rat}(hy:Fr A D y)(hq:FrL U E q)(h0:aI q≠0)(hE2:E<W32 ^ U):Fr (A+U) (D*ldD q E) (y / aI q):=by
 refine vT (jk hq) ?_;have h1:Wz (A+U) (y*(D:Rat)*(E:Rat)):=Wz.mul hy (Wz.nat hE2);have h3:=cS (a:=y) h0;have e:y / aI q*(D:Rat)*(aI q*(E:Rat))=y*(D:Rat)*(E:Rat):=by
  generalize y / aI q=c at *
  rw [←h3];grind
 rw [e];exact h1
theorem CG{S U D E n:Nat}{q:List Rat}(hq:FrL U E q)(h0:aI q≠0)(hE:0<E)(hE2:E<W32 ^ U)(hq1:0<q.length):∀ (f:Nat) (u p:List Rat) (j:Nat),j+(p.length+1-q.length)≤n→FrL (S+j*(U+1)) (D*ldD q E ^ j) p→FrL (S+n*(U+1)) (D*ldD q E ^ n) u→FrL (S+n*(U+1)) (D*ldD q E ^ n) (f7 q f u p).1:=by
 have hl:=mx hq;have hp0:=jA hq h0 hE;intro f;induction f with
 | zero=>intro u p j _ _ hu;exact hu
 | succ f ih =>
  intro u p j hj hp hu;rw [show f7 q (f+1) u p=if q.length≤p.length then f7 q f (u.set (p.length-q.length) (aI p / aI q)) (dk p q) else (u,p) from rfl];by_cases h:q.length≤p.length
  ·rw [if_pos h];have hr:=eI p q;refine ih _ _ (j+1) (by omega) ?_ ?_
   ·have h1:=mR hp hq h0;have e:D*ldD q E ^ j*ldD q E=D*ldD q E ^ (j+1):=by rw [nXt,Nat.mul_assoc]
    rw [e] at h1;exact h1.mono (by rw [nXx];omega)
   ·intro x hx;rcases List.mem_or_eq_of_mem_set hx with h2|h2
    ·exact hu x h2
    ·subst h2;have h3:Fr (S+j*(U+1)) (D*ldD q E ^ j) (aI p):=hp.at _;have h4:=DJ h3 hq h0 hE2;obtain ⟨d,rfl⟩:∃ d,n=j+1+d:=⟨n-(j+1),by omega⟩;have h5:=h4.up (U:=U*d) (E:=ldD q E ^ d) (by rw [Nat.pow_mul];exact Nat.pow_le_pow_left (nYk hl) d) (nYl hp0);have e:D*ldD q E ^ j*ldD q E*ldD q E ^ d=D*ldD q E ^ (j+1+d):=by rw [Nat.pow_add,nXt];simp only [Nat.mul_assoc]
     rw [e] at h5;refine h5.mono ?_;rw [Nat.add_mul (j+1) d,nXx,Nat.mul_add d,nYd U d];omega
  ·rw [if_neg h];exact hu
theorem ry{S U:Nat}{p q:List Rat}{D E n:Nat}(hp:FrL S D p)(hq:FrL U E q)(h0:tz q≠[])(hS:1≤S)(hD:0<D)(hD2:D<W32 ^ S)(hE:0<E)(hE2:E<W32 ^ U)(hn:p.length≤n):FrB (S+n*(U+1)) (aP p q):=by
 have hl:=nYf.2 h0;have h1:=af p;have h2:=CG (S:=S) (D:=D) (n:=n) hq.tz (bN h0) hE hE2 hl (tz p).length (List.replicate ((tz p).length+1-(tz q).length) 0) (tz p) 0 (by omega) (by rw [Nat.zero_mul,Nat.pow_zero,Nat.mul_one];exact hp.tz) (fun x hx=>by rw [List.eq_of_mem_replicate hx];exact Fr.zero _ _);refine ⟨by omega,_,Nat.mul_pos hD (nYl (jA hq.tz (bN h0) hE)),?_,FrL.tz h2⟩;have h3:ldD (tz q) E ^ n≤W32 ^ (U*n):=by rw [Nat.pow_mul];exact Nat.pow_le_pow_left (nYk (mx hq.tz)) n
 have h4:D*ldD (tz q) E ^ n<W32 ^ (S+U*n):=by
  rw [Nat.pow_add];exact Nat.mul_lt_mul_of_lt_of_le hD2 h3 (nYl aC)
 exact nXm h4 (gE (by rw [Nat.mul_add,nYd U n];omega))
theorem r5{t i:Nat}{x:Rat}(h:Sz t x):Wz (t*i+1) (ehP x i):=by
 unfold ehP;have h1:∀ j,Wz (t*j+1) (((x.den:Int):Rat) ^ j):=by
  intro j;induction j with
  | zero=>rw [Rat.pow_zero];exact Wz.one.mono (by omega)
  | succ j ih =>
   rw [Rat.pow_succ];refine (ih.mul (Wz.int (S:=t) (z:=(x.den:Int)) (by simpa using h.2))).mono (by rw [Nat.mul_succ];omega)
 exact (h1 (i-1)).mono (by have:=nXf t (show i-1≤i by omega);omega)
theorem AL{S t:Nat}{a:List Rat}{x:Rat}(ha:∀ y ∈ a,Wz S y)(h:Sz t x):∀ i,i≤a.length→Wz (S+t+(t+1)*i+1) (ehS a x i):=by
 intro i;induction i with
 | zero=>intro _;unfold ehS;rw [if_pos rfl];exact Wz.zero _
 | succ i ih =>
  intro hi;rw [←wg x (by omega)];have h1:=(ih (by omega)).mul (Wz.int (S:=t) (z:=x.num) h.1);have h2:Wz (S+(t*(i+1)+1)) (a.getD (a.length-1-i) 0*ehP x (i+1)):=(ha _ (eP (by omega))).mul (r5 h);have e:(t+1)*(i+1)=(t+1)*i+t+1:=by rw [Nat.mul_succ];omega
  have e2:t*(i+1)=t*i+t:=by rw [Nat.mul_succ]
  have e3:(t+1)*i=t*i+i:=nXx t i;exact ((h1.mono (S':=S+t+(t+1)*i+1+t) (by omega)).add (h2.mono (by omega))).mono (by omega)
end Go.Proofs.YtohahgiidooijaaGreat
/- Sturm's theorem over the rationals: on a fine enough grid the changes of sign in a chain fall by one where the first member changes its sign. Plain facts. -/
namespace Go.Proofs.YtohahgiidooijaaGreat.Sg
def sg(q:Rat):Int:=if q<0 then -1 else if q=0 then 0 else 1
theorem dP{q:Rat}(h:q<0):sg q=-1:=if_pos h
theorem jt:sg 0=0:=by decide
theorem sg_pos{q:Rat}(h:0<q):sg q=1:=by unfold sg;rw [if_neg (by grind),if_neg (by grind)]
theorem tri(a b:Rat):a<b∨a=b∨b<a:=by grind
theorem tot(a b:Rat):a≤b∨b≤a:=by grind
theorem eW(q:Rat):(q<0∧sg q=-1)∨(q=0∧sg q=0)∨(0<q∧sg q=1):=by
 rcases tri q 0 with h|h|h
 ·exact Or.inl ⟨h,dP h⟩
 ·subst h;exact Or.inr (Or.inl ⟨rfl,jt⟩)
 ·exact Or.inr (Or.inr ⟨h,sg_pos h⟩)
theorem ug{q:Rat}:sg q=0↔q=0:=by rcases eW q with ⟨h,e⟩|⟨h,e⟩|⟨h,e⟩ <;> rw [e] <;> constructor <;> intro k <;> first|omega|grind
def vr:Int→List Int→Nat
 | _,[]=>0
 | last,s :: l=>if s=0 then vr last l else (if last≠0∧s≠last then 1 else 0)+vr s l
def IsS(x:Int):Prop:=x=-1∨x=0∨x=1
theorem sP(q:Rat):IsS (sg q):=by rcases eW q with ⟨h,e⟩|⟨h,e⟩|⟨h,e⟩ <;> rw [e] <;> unfold IsS <;> omega
inductive Rl:Int→List Int→List Int→Prop
 | nil (p:Int):Rl p [] []
 | big {p x:Int} {a b:List Int} (hx:x≠0) (h:Rl x a b):Rl p (x :: a) (x :: b)
 | small {p x y z:Int} {a b:List Int} (hp:p≠0) (hz:z=-p) (ip:IsS p) (ix:IsS x) (iy:IsS y) (h:Rl z a b):Rl p (x :: z :: a) (y :: z :: b)
theorem qB{p x z:Int}{a:List Int}(hp:p≠0)(hz:z=-p)(ip:IsS p)(ix:IsS x):vr p (x :: z :: a)=1+vr z a:=by
 have hz0:z≠0:=by omega
 have hzp:z≠p:=by omega
 by_cases h0:x=0
 ·subst h0;simp [vr,hz0,hp,hzp]
 ·by_cases h1:x=p
  ·subst h1;simp [vr,h0,hz0,hzp]
  ·have h2:x=z:=by unfold IsS at ip ix;omega
   subst h2;simp [vr,h0,hp,h1]
theorem Rl.vr{p:Int}{a b:List Int}(h:Rl p a b):vr p a=vr p b:=by
 induction h with
 | nil p=>rfl
 | big hx h ih=>simp [Sg.vr,hx,ih]
 | small hp hz ip ix iy h ih=>rw [qB hp hz ip ix,qB hp hz ip iy,ih]
def Bd(M x:Rat):Prop:=-M≤x∧x≤M
theorem Bd.mono{M N x:Rat}(h:Bd M x)(k:M≤N):Bd N x:=by have h1:=h.1;have h2:=h.2;exact ⟨by grind,by grind⟩
theorem Bd.add{M N x y:Rat}(h:Bd M x)(k:Bd N y):Bd (M+N) (x+y):=by have h1:=h.1;have h2:=h.2;have h3:=k.1;have h4:=k.2;exact ⟨by grind,by grind⟩
theorem Bd.sub{M N x y:Rat}(h:Bd M x)(k:Bd N y):Bd (M+N) (x-y):=by have h1:=h.1;have h2:=h.2;have h3:=k.1;have h4:=k.2;exact ⟨by grind,by grind⟩
theorem Bd.neg{M x:Rat}(h:Bd M x):Bd M (-x):=by have h1:=h.1;have h2:=h.2;exact ⟨by grind,by grind⟩
theorem Bd.mul{M N x y:Rat}(h:Bd M x)(k:Bd N y):Bd (M*N) (x*y):=by
 have h1:=h.1;have h2:=h.2;have h3:=k.1;have h4:=k.2;have e1:=Rat.mul_nonneg (a:=M-x) (b:=N+y) (by grind) (by grind);have e2:=Rat.mul_nonneg (a:=M+x) (b:=N-y) (by grind) (by grind);have e3:=Rat.mul_nonneg (a:=M-x) (b:=N-y) (by grind) (by grind);have e4:=Rat.mul_nonneg (a:=M+x) (b:=N+y) (by grind) (by grind);exact ⟨by grind,by grind⟩
theorem Bd.self{x:Rat}(h:0≤x):Bd x x:=⟨by grind,by grind⟩
theorem Bd.ex(x:Rat):∃ M,0≤M∧Bd M x:=by
 rcases tot 0 x with h|h
 ·exact ⟨x,h,by grind,by grind⟩
 ·exact ⟨-x,by grind,by grind,by grind⟩
theorem fX{A B x:Rat}:∃ R,0≤R∧∀ x,A≤x→x≤B→Bd R x:=by
 obtain ⟨M,h1,h2⟩:=Bd.ex A;obtain ⟨N,h3,h4⟩:=Bd.ex B;refine ⟨M+N,by grind,fun x hA hB=>?_⟩;have h5:=h2.1;have h6:=h2.2;have h7:=h4.1;have h8:=h4.2;exact ⟨by grind,by grind⟩
theorem yU{a b:Rat}(h:0≤a)(k:0≤b):0≤a*b:=Rat.mul_nonneg h k
theorem As{a b:Rat}(h:0<a)(k:0<b):0<a*b:=Rat.mul_pos h k
theorem divP{a b:Rat}(h:0<a)(k:0<b):0<a / b:=by rw [Rat.div_def];exact Rat.mul_pos h (Rat.inv_pos.2 k)
theorem div_cancel{a b:Rat}(k:b≠0):a / b*b=a:=by rw [Rat.div_def,nYc,Rat.inv_mul_cancel _ k,Rat.mul_one]
theorem ig{a b c:Rat}(h:a≤b)(k:0≤c):a*c≤b*c:=Rat.mul_le_mul_of_nonneg_right h k
theorem eM{a b c:Rat}(h:a≤b)(k:0≤c):c*a≤c*b:=Rat.mul_le_mul_of_nonneg_left h k
theorem iZ{a b c:Rat}(h:a<b)(k:0<c):a*c<b*c:=by
 have:=Rat.mul_pos (show 0<b-a by grind) k;grind
theorem thr{c m x:Rat}(hc:0<c)(hm:0<m)(h:m*3≤c*x*4):m / (2*c)≤x:=by
 apply Classical.byContradiction;intro hn;have h1:=iZ (show x<m / (2*c) by grind) hc;have h2:m / (2*c)*(2*c)=m:=div_cancel (by grind);grind
def Lip(A B K:Rat)(f:Rat→Rat):Prop:=∀ s t,A≤s→s≤t→t≤B→Bd (K*(t-s)) (f t-f s)
theorem Lip.mono{A B K L:Rat}{f:Rat→Rat}(h:Lip A B K f)(k:K≤L):Lip A B L f:=fun s t h1 h2 h3=>(h s t h1 h2 h3).mono (ig k (by grind))
def On(A B M:Rat)(f:Rat→Rat):Prop:=∀ x,A≤x→x≤B→Bd M (f x)
def Big(r x:Rat):Prop:=r≤x∨x≤-r
theorem pN{r x:Rat}(h:¬ Big r x):-r<x∧x<r:=by
 unfold Big at h;exact ⟨by grind,by grind⟩
theorem Big.sign{A B K r s t:Rat}{f:Rat→Rat}(hf:Lip A B K f)(hb:Big r (f s))(h1:A≤s)(h2:s≤t)(h3:t≤B)(h4:K*(t-s)<r):sg (f t)=sg (f s)∧sg (f s)≠0:=by
 obtain ⟨e1,e2⟩:=hf s t h1 h2 h3;have hr:0<r:=by grind
 rcases hb with h|h
 ·rw [sg_pos (show 0<f s by grind),sg_pos (show 0<f t by grind)];exact ⟨rfl,by decide⟩
 ·rw [dP (show f s<0 by grind),dP (show f t<0 by grind)];exact ⟨rfl,by decide⟩
def Row(A B:Rat)(f g h:Rat→Rat):Prop:=∃ c d Q:Rat,0<c∧0<d∧0≤Q∧∃ q:Rat→Rat,On A B Q q∧∀ x,c*f x+d*h x=q x*g x
def Ch(A B:Rat):(Rat→Rat)→List (Rat→Rat)→Prop
 | f,[]=>∃ r,0<r∧∀ x,A≤x→x≤B→Big r (f x)
 | f,[g]=>Ch A B g []
 | f,g :: h :: l=>Row A B f g h∧Ch A B g (h :: l)
def sgs(l:List (Rat→Rat))(x:Rat):List Int:=l.map (fun f=>sg (f x))
def Gs(f:Rat→Rat)(l:List (Rat→Rat))(b r s t:Rat):Prop :=
 (Big r (f s)→sg (f s)≠0∧sg (f t)=sg (f s)∧Rl (sg (f s)) (sgs l s) (sgs l t)) ∧
 (¬ Big r (f s)→∃ g l',l=g :: l'∧Big b (g s)∧sg (g s)≠0∧sg (g t)=sg (g s)∧Rl (sg (g s)) (sgs l' s) (sgs l' t))
def St(A B:Rat)(f:Rat→Rat)(l:List (Rat→Rat)):Prop :=
 ∃ b,0<b∧∃ r0,0<r0∧∀ r,0<r→r≤r0→∃ e,0<e∧∀ s t,A≤s→s≤t→t≤B→t-s≤e→Gs f l b r s t
theorem js{K r:Rat}(hK:0≤K)(hr:0<r):∃ e,0<e∧∀ d,d≤e→K*d<r:=by
 refine ⟨r / (K+1),divP hr (by grind),fun d hd=>?_⟩;have h1:=eM hd hK;have h2:r / (K+1)*(K+1)=r:=div_cancel (by grind);have h3:=divP hr (show 0<K+1 by grind);grind
theorem rM{a b:Rat}(ha:0<a)(hb:0<b):∃ c,0<c∧c≤a∧c≤b:=by
 rcases tot a b with h|h
 ·exact ⟨a,ha,Rat.le_refl,h⟩
 ·exact ⟨b,hb,h,Rat.le_refl⟩
theorem ut{A B b r s c d Q:Rat}{f g h q:Rat→Rat}(hc:0<c)(hd:0<d)(hQ:0≤Q)(hq:On A B Q q)(he:∀ x,c*f x+d*h x=q x*g x)(h1:A≤s)(h2:s≤B)(hg:¬ Big r (g s))(hr:Q*r*4≤d*b)(hb0:0<b)(hb:Big b (h s)) :
  (f s<0∧0<h s∧d*b*3≤-(c*f s)*4)∨(0<f s∧h s<0∧d*b*3≤c*f s*4):=by
 obtain ⟨g1,g2⟩:=pN hg;obtain ⟨k1,k2⟩:=(hq s h1 h2).mul (show Bd r (g s) from ⟨by grind,by grind⟩);have e:=he s;have hdb:=As hd hb0;rcases hb with h3|h3
 ·left
  have h4:=eM h3 (Rat.le_of_lt hd);have h5:c*f s<0:=by grind
  refine ⟨?_,by grind,by grind⟩;rcases tri (f s) 0 with h6|h6|h6
  ·exact h6
  ·rw [h6] at h5;grind
  ·have:=As hc h6;grind
 ·right
  have h4:=eM (show b≤-h s by grind) (Rat.le_of_lt hd);have h5:0<c*f s:=by grind
  refine ⟨?_,by grind,by grind⟩;rcases tri (f s) 0 with h6|h6|h6
  ·have:=As hc (show 0 < -f s by grind);grind
  ·rw [h6] at h5;grind
  ·exact h6
theorem FV{A B:Rat}:∀ (l:List (Rat→Rat)) (f:Rat→Rat),Ch A B f l→(∃ K,0≤K∧Lip A B K f)→(∀ g ∈ l,∃ K,0≤K∧Lip A B K g)→St A B f l:=by
 intro l;induction l with
 | nil =>
  intro f ⟨d,hd,hb⟩ ⟨K,hK,hL⟩ _;refine ⟨1,by decide,d,hd,fun r hr hrd=>?_⟩;obtain ⟨e,he,h⟩:=js hK hr;refine ⟨e,he,fun s t h1 h2 h3 h4=>⟨fun h5=>?_,fun h5=>?_⟩⟩
  ·obtain ⟨g1,g2⟩:=h5.sign hL h1 h2 h3 (h _ h4);exact ⟨g2,g1,Rl.nil _⟩
  ·refine absurd ?_ h5;rcases hb s h1 (by grind) with h6|h6
   ·exact Or.inl (by grind)
   ·exact Or.inr (by grind)
 | cons g l ih =>
  intro f hc ⟨K,hK,hL⟩ hl;have hg:Ch A B g l:=by
   cases l with
   | nil=>exact hc
   | cons h l=>exact hc.2
  obtain ⟨b,hb,r0,hr0,hst⟩:=ih g hg (hl g List.mem_cons_self) (fun x hx=>hl x (List.mem_cons_of_mem _ hx))
  -- the threshold of g and that of f
  obtain ⟨rg,hrg,hrg0,rf,hrf,hsm⟩:∃ rg,0<rg∧rg≤r0∧∃ rf,0<rf∧∀ s,A≤s→s≤B→∀ h l',l=h :: l'→¬ Big rg (g s)→Big b (h s)→sg (h s)=-sg (f s)∧sg (f s)≠0∧Big rf (f s):=by
   cases l with
   | nil=>exact ⟨r0,hr0,Rat.le_refl,1,by decide,fun s _ _ h l' e=>by cases e⟩
   | cons h l =>
    obtain ⟨⟨c,d,Q,hc,hd,hQ,q,hq,he⟩,-⟩:=hc;obtain ⟨e,he0,hee⟩:=js (K:=Q*4) (r:=d*b) (by grind) (As hd hb);obtain ⟨rg,h1,h2,h3⟩:=rM hr0 he0;have hp:=divP (As hd hb) (show 0<2*c by grind);refine ⟨rg,h1,h2,d*b / (2*c),hp,fun s k1 k2 h' l' e k3 k4=>?_⟩;cases e;have hr4:=hee rg h3;rcases ut hc hd hQ hq he k1 k2 k3 (by grind) hb k4 with ⟨m1,m2,m3⟩|⟨m1,m2,m3⟩
    ·rw [sg_pos m2,dP m1];refine ⟨rfl,by decide,Or.inr ?_⟩;have:=thr (x:=-f s) hc (As hd hb) (by grind);grind
    ·rw [dP m2,sg_pos m1];exact ⟨rfl,by decide,Or.inl (thr hc (As hd hb) m3)⟩
  obtain ⟨eg,heg,hcell⟩:=hst rg hrg hrg0;refine ⟨rg,hrg,rf,hrf,fun r hr hrf'=>?_⟩;obtain ⟨ef,hef,hstep⟩:=js hK hr;obtain ⟨e,he,he1,he2⟩:=rM heg hef;refine ⟨e,he,fun s t h1 h2 h3 h4=>?_⟩;have hg:=hcell s t h1 h2 h3 (by grind);refine ⟨fun h5=>?_,fun h5=>?_⟩
  ·obtain ⟨g1,g2⟩:=h5.sign hL h1 h2 h3 (hstep _ (by grind));refine ⟨g2,g1,?_⟩;by_cases hb':Big rg (g s)
   ·obtain ⟨k1,k2,k3⟩:=hg.1 hb';show Rl _ (sg (g s) :: sgs l s) (sg (g t) :: sgs l t);rw [k2];exact Rl.big k1 k3
   ·obtain ⟨h,l',rfl,k1,k2,k3,k4⟩:=hg.2 hb';obtain ⟨m1,m2,m3⟩:=hsm s h1 (by grind) h l' rfl hb' k1;show Rl _ (sg (g s) :: sg (h s) :: sgs l' s) (sg (g t) :: sg (h t) :: sgs l' t);rw [k3];exact Rl.small g2 m1 (sP _) (sP _) (sP _) k4
  ·refine ⟨g,l,rfl,?_⟩;by_cases hb':Big rg (g s)
   ·obtain ⟨k1,k2,k3⟩:=hg.1 hb';exact ⟨hb',k1,k2,k3⟩
   ·obtain ⟨h,l',rfl,k1,k2,k3,k4⟩:=hg.2 hb';obtain ⟨m1,m2,m3⟩:=hsm s h1 (by grind) h l' rfl hb' k1;refine absurd ?_ h5;rcases m3 with m|m
    ·exact Or.inl (by grind)
    ·exact Or.inr (by grind)
def V(f:Rat→Rat)(l:List (Rat→Rat))(x:Rat):Nat:=vr 0 (sgs (f :: l) x)
theorem gF{x:Int}{a:List Int}(h:x≠0):vr 0 (x :: a)=vr x a:=by simp [vr,h]
theorem qC{a:List Int}:vr 0 (0 :: a)=vr 0 a:=by simp [vr]
def E9(A B:Rat)(f g:Rat→Rat):Prop:=∃ k K,0<k∧0≤K∧∀ s t,A≤s→s≤t→t≤B→Bd (K*(t-s)*(t-s)) (f t-f s-k*g s*(t-s))
def cross(f:Rat→Rat)(s t:Rat):Nat:=if sg (f s)≠0∧sg (f t)≠sg (f s) then 1 else 0
theorem sK{A B:Rat}{f:Rat→Rat}{l:List (Rat→Rat)}(hc:Ch A B f l)(hf:∃ K,0≤K∧Lip A B K f)(hl:∀ g ∈ l,∃ K,0≤K∧Lip A B K g)(hs:∀ g l',l=g :: l'→E9 A B f g) :
  ∃ e,0<e∧∀ s t,A≤s→s<t→t≤B→t-s≤e→V f l s=V f l t+cross f s t∧(f s=0→f t≠0):=by
 obtain ⟨b,hb,r0,hr0,hst⟩:=FV l f hc hf hl;obtain ⟨e1,he1,hcell⟩:=hst r0 hr0 Rat.le_refl;obtain ⟨e2,he2,hsl⟩:∃ e2,0<e2∧∀ g l',l=g :: l'→∀ s t,A≤s→s<t→t≤B→t-s≤e2→(b≤g s→f s<f t)∧(g s≤-b→f t<f s):=by
  cases l with
  | nil=>exact ⟨1,by decide,fun g l' e=>by cases e⟩
  | cons g l =>
   obtain ⟨k,K,hk,hK,h⟩:=hs g l rfl;obtain ⟨e,he,h2⟩:=js hK (As hk hb);refine ⟨e,he,fun g' l' ee s t h3 h4 h5 h6=>?_⟩;cases ee;obtain ⟨m1,m2⟩:=h s t h3 (by grind) h5;have h7:=iZ (h2 _ h6) (show 0<t-s by grind);refine ⟨fun h8=>?_,fun h8=>?_⟩
   ·have h9:=ig (eM h8 (Rat.le_of_lt hk)) (show 0≤t-s by grind);grind
   ·have h9:=ig (eM h8 (Rat.le_of_lt hk)) (show 0≤t-s by grind);grind
 obtain ⟨e,he,hm1,hm2⟩:=rM he1 he2;refine ⟨e,he,fun s t h1 h2 h3 h4=>?_⟩;obtain ⟨c1,c2⟩:=hcell s t h1 (by grind) h3 (by grind);by_cases h5:Big r0 (f s)
 ·obtain ⟨k1,k2,k3⟩:=c1 h5;refine ⟨?_,fun h=>absurd (ug.2 h) k1⟩;unfold V cross;show vr 0 (sg (f s) :: sgs l s)=vr 0 (sg (f t) :: sgs l t)+_;rw [k2,gF k1,gF k1,k3.vr,if_neg (by simp)];rfl
 ·obtain ⟨g,l',rfl,k1,k2,k3,k4⟩:=c2 h5;obtain ⟨s1,s2⟩:=hsl g l' rfl s t h1 h2 h3 (by grind);have e0:V f (g :: l') s=(if sg (f s)≠0∧sg (g s)≠sg (f s) then 1 else 0)+vr (sg (g s)) (sgs l' s):=by
   show vr 0 (sg (f s) :: sg (g s) :: sgs l' s)=_;by_cases h0:sg (f s)=0
   ·rw [h0,qC,gF k2];simp
   ·rw [gF h0];simp [vr,k2,h0]
  have e1:V f (g :: l') t=(if sg (f t)≠0∧sg (g s)≠sg (f t) then 1 else 0)+vr (sg (g s)) (sgs l' s):=by
   show vr 0 (sg (f t) :: sg (g t) :: sgs l' t)=_;rw [k3,k4.vr];by_cases h0:sg (f t)=0
   ·rw [h0,qC,gF k2];simp
   ·rw [gF h0];simp [vr,k2,h0]
  rw [e0,e1];unfold cross;rcases k1 with k|k
  ·have hlt:=s1 k;rw [sg_pos (show 0<g s by grind)];clear hc hf hl hs hst hcell hsl c1 c2 k3 k4 s1 s2 e0 e1;rcases eW (f s) with ⟨a1,a2⟩|⟨a1,a2⟩|⟨a1,a2⟩ <;> rcases eW (f t) with ⟨b1,b2⟩|⟨b1,b2⟩|⟨b1,b2⟩ <;> rw [a2,b2] <;> first|(exfalso;grind)|(refine ⟨by simp <;> omega,?_⟩;grind)
  ·have hlt:=s2 k;rw [dP (show g s<0 by grind)];clear hc hf hl hs hst hcell hsl c1 c2 k3 k4 s1 s2 e0 e1;rcases eW (f s) with ⟨a1,a2⟩|⟨a1,a2⟩|⟨a1,a2⟩ <;> rcases eW (f t) with ⟨b1,b2⟩|⟨b1,b2⟩|⟨b1,b2⟩ <;> rw [a2,b2] <;> first|(exfalso;grind)|(refine ⟨by simp <;> omega,?_⟩;grind)
theorem rV{A B e:Rat}{P:Rat→Rat→Prop}(he:0<e)(h1:∀ s t,A≤s→s<t→t≤B→t-s≤e→P s t)(h2:∀ s t u,A≤s→s<t→t<u→u≤B→P s t→P t u→P s u):∀ s t,A≤s→s<t→t≤B→P s t:=by
  have key:∀ n:Nat,∀ s t,A≤s→s<t→t≤B→t-s≤(n:Rat)*e→P s t:=by
    intro n;induction n with
    | zero => intro s t a b c d; exfalso; have : ((0 : Nat) : Rat) * e = 0 := by rw [show ((0 : Nat) : Rat) = 0 from rfl]; grind
              grind
    | succ n ih =>
      intro s t a b c d;rcases tot (t-s) e with h|h
      · exact h1 s t a b c h
      · by_cases hq:t-s=e
        · exact h1 s t a b c (by grind)
        · have e1:((n+1:Nat):Rat)*e=(n:Rat)*e+e:=by rw [Rat.natCast_add,show ((1:Nat):Rat)=1 from rfl];grind
          exact h2 s (s+e) t a (by grind) (by grind) c (h1 s (s+e) a (by grind) (by grind) (by grind)) (ih (s+e) t (by grind) (by grind) c (by grind))
  intro s t a b c;have hx:0<(t-s) / e:=divP (by grind) he;obtain ⟨n,hn⟩:∃ n:Nat,(t-s) / e≤(n:Rat):=by
    have h3:=Rat.lt_floor_add_one ((t-s) / e);refine ⟨((t-s) / e).floor.toNat+1,?_⟩;have h4:(((t-s) / e).floor+1:Int)≤((((t-s) / e).floor.toNat+1:Nat):Int):=by omega
    have h5:=Rat.intCast_le_intCast.2 h4;rw [Rat.intCast_natCast] at h5;grind
  refine key n s t a b c ?_;have h8:=ig hn (Rat.le_of_lt he);rw [div_cancel (by grind)] at h8;exact h8
theorem Cy(p:List Rat)(A B:Rat):∃ M,0≤M∧On A B M (evV p):=by
 obtain ⟨R,hR,hb⟩:=fX (A:=A) (B:=B) (x:=0);induction p with
 | nil=>exact ⟨0,Rat.le_refl,fun x _ _=>⟨by show -0≤(0:Rat);decide,by show (0:Rat)≤0;decide⟩⟩
 | cons c p ih =>
  obtain ⟨M,hM,h⟩:=ih;obtain ⟨N,hN,k⟩:=Bd.ex c;exact ⟨M*R+N,by have:=yU hM hR;grind,fun x h1 h2=>((h x h1 h2).mul (hb x h1 h2)).add k⟩
theorem ev_lip(p:List Rat)(A B:Rat):∃ K,0≤K∧Lip A B K (evV p):=by
 obtain ⟨R,hR,hb⟩:=fX (A:=A) (B:=B) (x:=0);induction p with
 | nil=>exact ⟨0,Rat.le_refl,fun s t _ h _=>⟨by show -(0*(t-s))≤(0:Rat)-0;grind,by show (0:Rat)-0≤0*(t-s);grind⟩⟩
 | cons c p ih =>
  obtain ⟨K,hK,h⟩:=ih;obtain ⟨M,hM,k⟩:=Cy p A B;refine ⟨K*R+M,by have:=yU hK hR;grind,fun s t h1 h2 h3=>?_⟩;have a:=(h s t h1 h2 h3).mul (hb t (by grind) h3);have b:=(k s h1 (by grind)).mul (Bd.self (show 0≤t-s by grind));have e:evV (c :: p) t-evV (c :: p) s=(evV p t-evV p s)*t+evV p s*(t-s):=by
   show evV p t*t+c-(evV p s*s+c)=_;grind
  rw [e,show (K*R+M)*(t-s)=K*(t-s)*R+M*(t-s) by grind];exact a.add b
def evD:List Rat→Rat→Rat
 | [],_=>0
 | _ :: p,x=>evD p x*x+evV p x
theorem Em(p:List Rat)(A B:Rat):∃ M,0≤M∧On A B M (evD p):=by
 obtain ⟨R,hR,hb⟩:=fX (A:=A) (B:=B) (x:=0);induction p with
 | nil=>exact ⟨0,Rat.le_refl,fun x _ _=>⟨by show -0≤(0:Rat);decide,by show (0:Rat)≤0;decide⟩⟩
 | cons c p ih =>
  obtain ⟨M,hM,h⟩:=ih;obtain ⟨N,hN,k⟩:=Cy p A B;exact ⟨M*R+N,by have:=yU hM hR;grind,fun x h1 h2=>((h x h1 h2).mul (hb x h1 h2)).add (k x h1 h2)⟩
theorem rY(p:List Rat)(A B:Rat):∃ K,0≤K∧∀ s t,A≤s→s≤t→t≤B→Bd (K*(t-s)*(t-s)) (evV p t-evV p s-evD p s*(t-s)):=by
 obtain ⟨R,hR,hb⟩:=fX (A:=A) (B:=B) (x:=0);induction p with
 | nil=>exact ⟨0,Rat.le_refl,fun s t _ h _=>⟨by show -(0*(t-s)*(t-s))≤(0:Rat)-0-0*(t-s);grind,by show (0:Rat)-0-0*(t-s)≤0*(t-s)*(t-s);grind⟩⟩
 | cons c p ih =>
  obtain ⟨K,hK,h⟩:=ih;obtain ⟨M,hM,k⟩:=Em p A B;refine ⟨K*R+M,by have:=yU hK hR;grind,fun s t h1 h2 h3=>?_⟩;have a:=(h s t h1 h2 h3).mul (hb t (by grind) h3);have h0:0≤t-s:=by grind
  have b:=((k s h1 (by grind)).mul (Bd.self h0)).mul (Bd.self h0);have e:evV (c :: p) t-evV (c :: p) s-evD (c :: p) s*(t-s)=(evV p t-evV p s-evD p s*(t-s))*t+evD p s*(t-s)*(t-s):=by
   show evV p t*t+c-(evV p s*s+c)-(evD p s*s+evV p s)*(t-s)=_;grind
  rw [e,show (K*R+M)*(t-s)*(t-s)=K*(t-s)*(t-s)*R+M*(t-s)*(t-s) by grind];exact a.add b
structure Fit (A B:Rat) (f:Rat→Rat) (l:List (Rat→Rat)):Prop where
 ch:Ch A B f l
 lf:∃ K,0≤K∧Lip A B K f
 ll:∀ g ∈ l,∃ K,0≤K∧Lip A B K g
 sl:∀ g l',l=g :: l'→E9 A B f g
theorem Fit.cell{A B:Rat}{f:Rat→Rat}{l:List (Rat→Rat)}(h:Fit A B f l):∃ e,0<e∧∀ s t,A≤s→s<t→t≤B→t-s≤e→V f l s=V f l t+cross f s t∧(f s=0→f t≠0):=sK h.ch h.lf h.ll h.sl
theorem Fit.calm{A B:Rat}{f:Rat→Rat}{l:List (Rat→Rat)}(h:Fit A B f l){x y:Rat}(hx:A≤x)(hxy:x<y)(hy:y≤B)(hs:∀ s t,x≤s→s<t→t≤y→f s≠0→sg (f t)=sg (f s)):V f l x=V f l y:=by
 obtain ⟨e,he,hc⟩:=h.cell;refine rV (A:=x) (B:=y) (P:=fun s t=>V f l s=V f l t) he (fun s t h1 h2 h3 h4=>?_) (fun s t u _ _ _ _ h1 h2=>h1.trans h2) x y Rat.le_refl hxy Rat.le_refl;rw [(hc s t (by grind) h2 (by grind) h4).1];unfold cross;rw [if_neg (fun h5=>h5.2 (hs s t h1 h2 h3 (fun h=>h5.1 (ug.2 h))))];rfl
end Go.Proofs.YtohahgiidooijaaGreat.Sg
