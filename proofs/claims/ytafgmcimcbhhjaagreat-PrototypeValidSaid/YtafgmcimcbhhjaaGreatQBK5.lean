import Derived.Test.YtafgmcimcbhhjaaGreatQBK4
set_option linter.unusedVariables false
namespace Go.Proofs.YtafgmcimcbhhjaaGreat
open Go.RowKit Go.Front Go.Num Stab
def evV(p:List Rat)(x:Rat):Rat:=p.foldr (fun c y=>y*x+c) 0
theorem jn(c:Rat)(p:List Rat)(x:Rat):evV (c :: p) x=evV p x*x+c:=rfl
theorem Gv(p:List Rat)(x:Rat):evV p x=sm p.length (fun i=>p.getD i 0*x ^ i):=by
 induction p with
 | nil=>rfl
 | cons c p ih =>
  rw [jn,ih,List.length_cons,jH,nYd,←lJ];rw [sm_congr (f:=fun i=>(c :: p).getD (i+1) 0*x ^ (i+1)) (g:=fun i=>x*(p.getD i 0*x ^ i)) (fun i _=>by rw [List.getD_cons_succ,Rat.pow_succ];grind)];rw [List.getD_cons_zero,Rat.pow_zero];grind
theorem pZ{p:List Rat}{N:Nat}(h:p.length≤N)(x:Rat):evV p x=sm N (fun i=>seq p i*x ^ i):=by
 rw [Gv];exact vf h (fun i h1 h2=>by rw [bH h1];grind)
theorem gQ{p q:List Rat}{c:Rat}(h:∀ i,seq p i=c*seq q i)(x:Rat):evV p x=c*evV q x:=by
 rw [pZ (Nat.le_max_left p.length q.length),pZ (Nat.le_max_right p.length q.length),←lJ];exact sm_congr (fun i _=>by rw [h];grind)
theorem xt(p:List Rat)(x:Rat):evV (tz p) x=evV p x:=by
 rw [gQ (p:=tz p) (q:=p) (c:=1) (fun i=>by rw [aZ];grind) x];grind
theorem xI{p:List Rat}{i:Nat}(h:i<p.length):p.drop i=p.getD i 0 :: p.drop (i+1):=by
 rw [List.drop_eq_getElem_cons h,nXd,List.getElem?_eq_getElem h];rfl
theorem Dd{p:List Rat}{i:Nat}(h:i<p.length)(x:Rat):evV (p.drop i) x=evV (p.drop (i+1)) x*x+p.getD i 0:=by rw [xI h,jn]
def ehS(a:List Rat)(x:Rat)(i:Nat):Rat:=if i=0 then 0 else ((x.den:Int):Rat) ^ (i-1)*evV (a.drop (a.length-i)) x
def ehP(x:Rat)(i:Nat):Rat:=((x.den:Int):Rat) ^ (i-1)
theorem FA(x:Rat):((x.den:Int):Rat)≠0:=fun h=>by
 have h1:=congrArg Rat.num h;rw [Rat.num_intCast] at h1;have:=x.den_nz;have h2:((0:Rat)).num=0:=rfl;omega
theorem xE{a:List Rat}{i:Nat}(x:Rat)(h:i<a.length):ehS a x i*(x.num:Rat)+a.getD (a.length-1-i) 0*ehP x (i+1)=ehS a x (i+1):=by
 have hx:x*((x.den:Int):Rat)=(x.num:Rat):=low x;have e1:=Dd (p:=a) (i:=a.length-1-i) zo x;rw [show a.length-1-i+1=a.length-i by omega] at e1;unfold ehS ehP;rw [if_neg (Nat.succ_ne_zero i),Nat.add_sub_cancel,show a.length-(i+1)=a.length-1-i by omega,e1];rcases Nat.eq_zero_or_pos i with h0|h0
 ·subst h0;rw [if_pos rfl];simp only [Nat.sub_zero,Rat.pow_zero];rw [List.drop_of_length_le (nXe _)];show (0:Rat)*_+_=1*(0*x+_);grind
 ·rw [if_neg zo];obtain ⟨j,rfl⟩:∃ j,i=j+1:=⟨i-1,zo⟩;rw [Nat.add_sub_cancel,Rat.pow_succ,←hx];grind
theorem Ax(x:Rat){i:Nat}(h:0<i):ehP x i*((x.den:Int):Rat)=ehP x (i+1):=by
 unfold ehP;obtain ⟨j,rfl⟩:∃ j,i=j+1:=⟨i-1,zo⟩;rw [Nat.add_sub_cancel,Nat.add_sub_cancel,Rat.pow_succ]
theorem EL{x:Rat}(h:x≠0)(n:Nat):x ^ n≠0:=by
 induction n with
 | zero=>rw [Rat.pow_zero];decide
 | succ n ih =>
  rw [Rat.pow_succ];intro h1;rcases nXr.1 h1 with h2|h2
  ·exact ih h2
  ·exact h h2
theorem Fp(a:List Rat)(x:Rat):ehS a x a.length / ehP x a.length=evV a x:=by
 unfold ehS ehP;split
 ·next h =>
  rw [nXj.1 h,Rat.div_def,nYb];rfl
 ·rw [Nat.sub_self,List.drop_zero,nYd,Rat.div_def,nYe,nYk _ (EL (FA x) _),Rat.mul_one]
theorem sO{t:Nat}{x:Rat}(h:Sz t x)(ht:1≤t):Sz t (x.num:Rat):=⟨by rw [Rat.num_intCast];exact h.1,by rw [Rat.den_intCast];exact Nat.one_lt_pow zo dZ⟩
theorem Fz{t:Nat}{x:Rat}(h:Sz t x)(ht:1≤t):Sz t ((x.den:Int):Rat):=⟨by rw [Rat.num_intCast];exact h.2,by rw [Rat.den_intCast];exact Nat.one_lt_pow zo dZ⟩
theorem Fr.up{S U D E:Nat}{a:Rat}(ha:Fr S D a)(hE:E≤W32 ^ U)(h0:0<E):Fr (S+U) (D*E) a:=by
 have e:a*((D*E:Nat):Rat)=a*(D:Rat)*(((E:Nat):Int):Rat):=by rw [Rat.natCast_mul];show _=a*(D:Rat)*(E:Rat);grind
 have h1:Wz S (a*(D:Rat)):=ha;unfold Fr;rw [e];refine ⟨h1.1.mul (Wh.int _),?_⟩;rw [h1.1.eq,←Rat.intCast_mul,Rat.num_intCast,Int.natAbs_mul,nYi,Nat.pow_add];exact Nat.mul_lt_mul_of_lt_of_le h1.2 hE (nYn aw)
theorem xF{t i:Nat}{x:Rat}(h:Sz t x):Wz (t*i+1) (ehP x i):=by
 unfold ehP;have h1:∀ j,Wz (t*j+1) (((x.den:Int):Rat) ^ j):=by
  intro j;induction j with
  | zero=>rw [Rat.pow_zero];exact Wz.one.mono zo
  | succ j ih =>
   rw [Rat.pow_succ];refine (ih.mul (Wz.int (S:=t) (z:=(x.den:Int)) (by simpa using h.2))).mono (by rw [Nat.mul_succ];omega)
 exact (h1 (i-1)).mono (by have:=nXg t (show i-1≤i by omega);omega)
theorem Fq{S t:Nat}{a:List Rat}{x:Rat}(ha:∀ y ∈ a,Wz S y)(h:Sz t x):∀ i,i≤a.length→Wz (S+t+(t+1)*i+1) (ehS a x i):=by
 intro i;induction i with
 | zero=>intro _;unfold ehS;rw [if_pos rfl];exact Wz.zero _
 | succ i ih =>
  intro hi;rw [←xE x zo];have h1:=(ih zo).mul (Wz.int (S:=t) (z:=x.num) h.1);have h2:Wz (S+(t*(i+1)+1)) (a.getD (a.length-1-i) 0*ehP x (i+1)):=(ha _ (eX zo)).mul (xF h);have e:(t+1)*(i+1)=(t+1)*i+t+1:=by rw [Nat.mul_succ];omega
  have e2:t*(i+1)=t*i+t:=by rw [Nat.mul_succ]
  have e3:(t+1)*i=t*i+i:=nXz t i;exact ((h1.mono (S':=S+t+(t+1)*i+1+t) zo).add (h2.mono zo)).mono zo
end Go.Proofs.YtafgmcimcbhhjaaGreat
/- Sturm's theorem over the rationals: on a fine enough grid the changes of sign in a chain fall by one where the first member changes its sign. Plain facts. -/
namespace Go.Proofs.YtafgmcimcbhhjaaGreat.Sg
def sg(q:Rat):Int:=if q<0 then -1 else if q=0 then 0 else 1
theorem eo{q:Rat}(h:q<0):sg q=-1:=if_pos h
theorem jd:sg 0=0:=by decide
theorem sg_pos{q:Rat}(h:0<q):sg q=1:=by unfold sg;rw [if_neg (by grind),if_neg (by grind)]
theorem tri(a b:Rat):a<b∨a=b∨b<a:=by grind
theorem tot(a b:Rat):a≤b∨b≤a:=by grind
theorem cj(q:Rat):(q<0∧sg q=-1)∨(q=0∧sg q=0)∨(0<q∧sg q=1):=by
 rcases tri q 0 with h|h|h
 ·exact Or.inl ⟨h,eo h⟩
 ·subst h;exact Or.inr (Or.inl ⟨rfl,jd⟩)
 ·exact Or.inr (Or.inr ⟨h,sg_pos h⟩)
theorem lL{q:Rat}:sg q=0↔q=0:=by rcases cj q with ⟨h,e⟩|⟨h,e⟩|⟨h,e⟩ <;> rw [e] <;> constructor <;> intro k <;> first|omega|grind
def vr:Int→List Int→Nat
 | _,[]=>0
 | last,s :: l=>if s=0 then vr last l else (if last≠0∧s≠last then 1 else 0)+vr s l
def IsS(x:Int):Prop:=x=-1∨x=0∨x=1
theorem o8(q:Rat):IsS (sg q):=by rcases cj q with ⟨h,e⟩|⟨h,e⟩|⟨h,e⟩ <;> rw [e] <;> unfold IsS <;> omega
inductive Rl:Int→List Int→List Int→Prop
 | nil (p:Int):Rl p [] []
 | big {p x:Int} {a b:List Int} (hx:x≠0) (h:Rl x a b):Rl p (x :: a) (x :: b)
 | small {p x y z:Int} {a b:List Int} (hp:p≠0) (hz:z=-p) (ip:IsS p) (ix:IsS x) (iy:IsS y) (h:Rl z a b):Rl p (x :: z :: a) (y :: z :: b)
theorem r6{p x z:Int}{a:List Int}(hp:p≠0)(hz:z=-p)(ip:IsS p)(ix:IsS x):vr p (x :: z :: a)=1+vr z a:=by
 have hz0:z≠0:=zo;have hzp:z≠p:=zo;by_cases h0:x=0
 ·subst h0;simp [vr,hz0,hp,hzp]
 ·by_cases h1:x=p
  ·subst h1;simp [vr,h0,hz0,hzp]
  ·have h2:x=z:=by unfold IsS at ip ix;omega
   subst h2;simp [vr,h0,hp,h1]
theorem Rl.vr{p:Int}{a b:List Int}(h:Rl p a b):vr p a=vr p b:=by
 induction h with
 | nil p=>rfl
 | big hx h ih=>simp [Sg.vr,hx,ih]
 | small hp hz ip ix iy h ih=>rw [r6 hp hz ip ix,r6 hp hz ip iy,ih]
def Bd(M x:Rat):Prop:=-M≤x∧x≤M
theorem Bd.mono{M N x:Rat}(h:Bd M x)(k:M≤N):Bd N x:=by have h1:=h.1;have h2:=h.2;exact ⟨by grind,by grind⟩
theorem Bd.add{M N x y:Rat}(h:Bd M x)(k:Bd N y):Bd (M+N) (x+y):=by have h1:=h.1;have h2:=h.2;have h3:=k.1;have h4:=k.2;exact ⟨by grind,by grind⟩
theorem Bd.sub{M N x y:Rat}(h:Bd M x)(k:Bd N y):Bd (M+N) (x-y):=by have h1:=h.1;have h2:=h.2;have h3:=k.1;have h4:=k.2;exact ⟨by grind,by grind⟩
theorem Bd.neg{M x:Rat}(h:Bd M x):Bd M (-x):=by have h1:=h.1;have h2:=h.2;exact ⟨by grind,by grind⟩
theorem Bd.mul{M N x y:Rat}(h:Bd M x)(k:Bd N y):Bd (M*N) (x*y):=by
 have h1:=h.1;have h2:=h.2;have h3:=k.1;have h4:=k.2;have e1:=Rat.mul_nonneg (a:=M-x) (b:=N+y) (by grind) (by grind);have e2:=Rat.mul_nonneg (a:=M+x) (b:=N-y) (by grind) (by grind);have e3:=Rat.mul_nonneg (a:=M-x) (b:=N-y) (by grind) (by grind);have e4:=Rat.mul_nonneg (a:=M+x) (b:=N+y) (by grind) (by grind);exact ⟨by grind,by grind⟩
theorem Bd.self{x:Rat}(h:0≤x):Bd x x:=⟨by grind,by grind⟩
theorem Bd.ex(x:Rat):∃ M,0≤M∧Bd M x:=by
 rcases tot 0 x with h|h
 ·exact ⟨x,h,by grind,by grind⟩
 ·exact ⟨-x,by grind,by grind,by grind⟩
theorem gH{A B x:Rat}:∃ R,0≤R∧∀ x,A≤x→x≤B→Bd R x:=by
 obtain ⟨M,h1,h2⟩:=Bd.ex A;obtain ⟨N,h3,h4⟩:=Bd.ex B;refine ⟨M+N,by grind,fun x hA hB=>?_⟩;have h5:=h2.1;have h6:=h2.2;have h7:=h4.1;have h8:=h4.2;exact ⟨by grind,by grind⟩
theorem gu{a b:Rat}(h:0≤a)(k:0≤b):0≤a*b:=Rat.mul_nonneg h k
theorem sV{a b:Rat}(h:0<a)(k:0<b):0<a*b:=Rat.mul_pos h k
theorem tw{a b:Rat}(h:0<a)(k:0<b):0<a / b:=by rw [Rat.div_def];exact Rat.mul_pos h (Rat.inv_pos.2 k)
theorem aK{a b:Rat}(k:b≠0):a / b*b=a:=by rw [Rat.div_def,nYe,Rat.inv_mul_cancel _ k,Rat.mul_one]
theorem cP{a b c:Rat}(h:a≤b)(k:0≤c):a*c≤b*c:=Rat.mul_le_mul_of_nonneg_right h k
theorem aY{a b c:Rat}(h:a≤b)(k:0≤c):c*a≤c*b:=Rat.mul_le_mul_of_nonneg_left h k
theorem f8{a b c:Rat}(h:a<b)(k:0<c):a*c<b*c:=by
 have:=Rat.mul_pos (show 0<b-a by grind) k;grind
theorem thr{c m x:Rat}(hc:0<c)(hm:0<m)(h:m*3≤c*x*4):m / (2*c)≤x:=by
 apply Classical.byContradiction;intro hn;have h1:=f8 (show x<m / (2*c) by grind) hc;have h2:m / (2*c)*(2*c)=m:=aK (by grind);grind
def Lip(A B K:Rat)(f:Rat→Rat):Prop:=∀ s t,A≤s→s≤t→t≤B→Bd (K*(t-s)) (f t-f s)
theorem Lip.mono{A B K L:Rat}{f:Rat→Rat}(h:Lip A B K f)(k:K≤L):Lip A B L f:=fun s t h1 h2 h3=>(h s t h1 h2 h3).mono (cP k (by grind))
def On(A B M:Rat)(f:Rat→Rat):Prop:=∀ x,A≤x→x≤B→Bd M (f x)
def Big(r x:Rat):Prop:=r≤x∨x≤-r
theorem jf{r x:Rat}(h:¬ Big r x):-r<x∧x<r:=by
 unfold Big at h;exact ⟨by grind,by grind⟩
theorem Big.sign{A B K r s t:Rat}{f:Rat→Rat}(hf:Lip A B K f)(hb:Big r (f s))(h1:A≤s)(h2:s≤t)(h3:t≤B)(h4:K*(t-s)<r):sg (f t)=sg (f s)∧sg (f s)≠0:=by
 obtain ⟨e1,e2⟩:=hf s t h1 h2 h3;have hr:0<r:=by grind
 rcases hb with h|h
 ·rw [sg_pos (show 0<f s by grind),sg_pos (show 0<f t by grind)];exact ⟨rfl,dZ⟩
 ·rw [eo (show f s<0 by grind),eo (show f t<0 by grind)];exact ⟨rfl,dZ⟩
def Row(A B:Rat)(f g h:Rat→Rat):Prop:=∃ c d Q:Rat,0<c∧0<d∧0≤Q∧∃ q:Rat→Rat,On A B Q q∧∀ x,c*f x+d*h x=q x*g x
def Ch(A B:Rat):(Rat→Rat)→List (Rat→Rat)→Prop
 | f,[]=>∃ r,0<r∧∀ x,A≤x→x≤B→Big r (f x)
 | f,[g]=>Ch A B g []
 | f,g :: h :: l=>Row A B f g h∧Ch A B g (h :: l)
def sgs(l:List (Rat→Rat))(x:Rat):List Int:=l.map (fun f=>sg (f x))
def ID(f:Rat→Rat)(l:List (Rat→Rat))(b r s t:Rat):Prop :=
 (Big r (f s)→sg (f s)≠0∧sg (f t)=sg (f s)∧Rl (sg (f s)) (sgs l s) (sgs l t)) ∧
 (¬ Big r (f s)→∃ g l',l=g :: l'∧Big b (g s)∧sg (g s)≠0∧sg (g t)=sg (g s)∧Rl (sg (g s)) (sgs l' s) (sgs l' t))
def St(A B:Rat)(f:Rat→Rat)(l:List (Rat→Rat)):Prop :=
 ∃ b,0<b∧∃ r0,0<r0∧∀ r,0<r→r≤r0→∃ e,0<e∧∀ s t,A≤s→s≤t→t≤B→t-s≤e→ID f l b r s t
theorem jc{K r:Rat}(hK:0≤K)(hr:0<r):∃ e,0<e∧∀ d,d≤e→K*d<r:=by
 refine ⟨r / (K+1),tw hr (by grind),fun d hd=>?_⟩;have h1:=aY hd hK;have h2:r / (K+1)*(K+1)=r:=aK (by grind);have h3:=tw hr (show 0<K+1 by grind);grind
theorem nr{a b:Rat}(ha:0<a)(hb:0<b):∃ c,0<c∧c≤a∧c≤b:=by
 rcases tot a b with h|h
 ·exact ⟨a,ha,Rat.le_refl,h⟩
 ·exact ⟨b,hb,h,Rat.le_refl⟩
theorem vt{A B b r s c d Q:Rat}{f g h q:Rat→Rat}(hc:0<c)(hd:0<d)(hQ:0≤Q)(hq:On A B Q q)(he:∀ x,c*f x+d*h x=q x*g x)(h1:A≤s)(h2:s≤B)(hg:¬ Big r (g s))(hr:Q*r*4≤d*b)(hb0:0<b)(hb:Big b (h s)) :
  (f s<0∧0<h s∧d*b*3≤-(c*f s)*4)∨(0<f s∧h s<0∧d*b*3≤c*f s*4):=by
 obtain ⟨g1,g2⟩:=jf hg;obtain ⟨k1,k2⟩:=(hq s h1 h2).mul (show Bd r (g s) from ⟨by grind,by grind⟩);have e:=he s;have hdb:=sV hd hb0;rcases hb with h3|h3
 ·left
  have h4:=aY h3 (Rat.le_of_lt hd);have h5:c*f s<0:=by grind
  refine ⟨?_,by grind,by grind⟩;rcases tri (f s) 0 with h6|h6|h6
  ·exact h6
  ·rw [h6] at h5;grind
  ·have:=sV hc h6;grind
 ·right
  have h4:=aY (show b≤-h s by grind) (Rat.le_of_lt hd);have h5:0<c*f s:=by grind
  refine ⟨?_,by grind,by grind⟩;rcases tri (f s) 0 with h6|h6|h6
  ·have:=sV hc (show 0 < -f s by grind);grind
  ·rw [h6] at h5;grind
  ·exact h6
theorem GD{A B:Rat}:∀ (l:List (Rat→Rat)) (f:Rat→Rat),Ch A B f l→(∃ K,0≤K∧Lip A B K f)→(∀ g ∈ l,∃ K,0≤K∧Lip A B K g)→St A B f l:=by
 intro l;induction l with
 | nil =>
  intro f ⟨d,hd,hb⟩ ⟨K,hK,hL⟩ _;refine ⟨1,dZ,d,hd,fun r hr hrd=>?_⟩;obtain ⟨e,he,h⟩:=jc hK hr;refine ⟨e,he,fun s t h1 h2 h3 h4=>⟨fun h5=>?_,fun h5=>?_⟩⟩
  ·obtain ⟨g1,g2⟩:=h5.sign hL h1 h2 h3 (h _ h4);exact ⟨g2,g1,Rl.nil _⟩
  ·refine absurd ?_ h5;rcases hb s h1 (by grind) with h6|h6
   ·exact Or.inl (by grind)
   ·exact Or.inr (by grind)
 | cons g l ih =>
  intro f hc ⟨K,hK,hL⟩ hl;have hg:Ch A B g l:=by
   cases l with
   | nil=>exact hc
   | cons h l=>exact hc.2
  obtain ⟨b,hb,r0,hr0,hst⟩:=ih g hg (hl g List.mem_cons_self) (fun x hx=>hl x (List.mem_cons_of_mem _ hx))
  -- the threshold of g and that of f
  obtain ⟨rg,hrg,hrg0,rf,hrf,hsm⟩:∃ rg,0<rg∧rg≤r0∧∃ rf,0<rf∧∀ s,A≤s→s≤B→∀ h l',l=h :: l'→¬ Big rg (g s)→Big b (h s)→sg (h s)=-sg (f s)∧sg (f s)≠0∧Big rf (f s):=by
   cases l with
   | nil=>exact ⟨r0,hr0,Rat.le_refl,1,dZ,fun s _ _ h l' e=>by cases e⟩
   | cons h l =>
    obtain ⟨⟨c,d,Q,hc,hd,hQ,q,hq,he⟩,-⟩:=hc;obtain ⟨e,he0,hee⟩:=jc (K:=Q*4) (r:=d*b) (by grind) (sV hd hb);obtain ⟨rg,h1,h2,h3⟩:=nr hr0 he0;have hp:=tw (sV hd hb) (show 0<2*c by grind);refine ⟨rg,h1,h2,d*b / (2*c),hp,fun s k1 k2 h' l' e k3 k4=>?_⟩;cases e;have hr4:=hee rg h3;rcases vt hc hd hQ hq he k1 k2 k3 (by grind) hb k4 with ⟨m1,m2,m3⟩|⟨m1,m2,m3⟩
    ·rw [sg_pos m2,eo m1];refine ⟨rfl,dZ,Or.inr ?_⟩;have:=thr (x:=-f s) hc (sV hd hb) (by grind);grind
    ·rw [eo m2,sg_pos m1];exact ⟨rfl,dZ,Or.inl (thr hc (sV hd hb) m3)⟩
  obtain ⟨eg,heg,hcell⟩:=hst rg hrg hrg0;refine ⟨rg,hrg,rf,hrf,fun r hr hrf'=>?_⟩;obtain ⟨ef,hef,hstep⟩:=jc hK hr;obtain ⟨e,he,he1,he2⟩:=nr heg hef;refine ⟨e,he,fun s t h1 h2 h3 h4=>?_⟩;have hg:=hcell s t h1 h2 h3 (by grind);refine ⟨fun h5=>?_,fun h5=>?_⟩
  ·obtain ⟨g1,g2⟩:=h5.sign hL h1 h2 h3 (hstep _ (by grind));refine ⟨g2,g1,?_⟩;by_cases hb':Big rg (g s)
   ·obtain ⟨k1,k2,k3⟩:=hg.1 hb';show Rl _ (sg (g s) :: sgs l s) (sg (g t) :: sgs l t);rw [k2];exact Rl.big k1 k3
   ·obtain ⟨h,l',rfl,k1,k2,k3,k4⟩:=hg.2 hb';obtain ⟨m1,m2,m3⟩:=hsm s h1 (by grind) h l' rfl hb' k1;show Rl _ (sg (g s) :: sg (h s) :: sgs l' s) (sg (g t) :: sg (h t) :: sgs l' t);rw [k3];exact Rl.small g2 m1 (o8 _) (o8 _) (o8 _) k4
  ·refine ⟨g,l,rfl,?_⟩;by_cases hb':Big rg (g s)
   ·obtain ⟨k1,k2,k3⟩:=hg.1 hb';exact ⟨hb',k1,k2,k3⟩
   ·obtain ⟨h,l',rfl,k1,k2,k3,k4⟩:=hg.2 hb';obtain ⟨m1,m2,m3⟩:=hsm s h1 (by grind) h l' rfl hb' k1;refine absurd ?_ h5;rcases m3 with m|m
    ·exact Or.inl (by grind)
    ·exact Or.inr (by grind)
def V(f:Rat→Rat)(l:List (Rat→Rat))(x:Rat):Nat:=vr 0 (sgs (f :: l) x)
theorem iI{x:Int}{a:List Int}(h:x≠0):vr 0 (x :: a)=vr x a:=by simp [vr,h]
theorem r7{a:List Int}:vr 0 (0 :: a)=vr 0 a:=by simp [vr]
def FX(A B:Rat)(f g:Rat→Rat):Prop:=∃ k K,0<k∧0≤K∧∀ s t,A≤s→s≤t→t≤B→Bd (K*(t-s)*(t-s)) (f t-f s-k*g s*(t-s))
def rN(f:Rat→Rat)(s t:Rat):Nat:=if sg (f s)≠0∧sg (f t)≠sg (f s) then 1 else 0
theorem tQ{A B:Rat}{f:Rat→Rat}{l:List (Rat→Rat)}(hc:Ch A B f l)(hf:∃ K,0≤K∧Lip A B K f)(hl:∀ g ∈ l,∃ K,0≤K∧Lip A B K g)(hs:∀ g l',l=g :: l'→FX A B f g) :
  ∃ e,0<e∧∀ s t,A≤s→s<t→t≤B→t-s≤e→V f l s=V f l t+rN f s t∧(f s=0→f t≠0):=by
 obtain ⟨b,hb,r0,hr0,hst⟩:=GD l f hc hf hl;obtain ⟨e1,he1,hcell⟩:=hst r0 hr0 Rat.le_refl;obtain ⟨e2,he2,hsl⟩:∃ e2,0<e2∧∀ g l',l=g :: l'→∀ s t,A≤s→s<t→t≤B→t-s≤e2→(b≤g s→f s<f t)∧(g s≤-b→f t<f s):=by
  cases l with
  | nil=>exact ⟨1,dZ,fun g l' e=>by cases e⟩
  | cons g l =>
   obtain ⟨k,K,hk,hK,h⟩:=hs g l rfl;obtain ⟨e,he,h2⟩:=jc hK (sV hk hb);refine ⟨e,he,fun g' l' ee s t h3 h4 h5 h6=>?_⟩;cases ee;obtain ⟨m1,m2⟩:=h s t h3 (by grind) h5;have h7:=f8 (h2 _ h6) (show 0<t-s by grind);refine ⟨fun h8=>?_,fun h8=>?_⟩
   ·have h9:=cP (aY h8 (Rat.le_of_lt hk)) (show 0≤t-s by grind);grind
   ·have h9:=cP (aY h8 (Rat.le_of_lt hk)) (show 0≤t-s by grind);grind
 obtain ⟨e,he,hm1,hm2⟩:=nr he1 he2;refine ⟨e,he,fun s t h1 h2 h3 h4=>?_⟩;obtain ⟨c1,c2⟩:=hcell s t h1 (by grind) h3 (by grind);by_cases h5:Big r0 (f s)
 ·obtain ⟨k1,k2,k3⟩:=c1 h5;refine ⟨?_,fun h=>absurd (lL.2 h) k1⟩;unfold V rN;show vr 0 (sg (f s) :: sgs l s)=vr 0 (sg (f t) :: sgs l t)+_;rw [k2,iI k1,iI k1,k3.vr,if_neg (by simp)];rfl
 ·obtain ⟨g,l',rfl,k1,k2,k3,k4⟩:=c2 h5;obtain ⟨s1,s2⟩:=hsl g l' rfl s t h1 h2 h3 (by grind);have e0:V f (g :: l') s=(if sg (f s)≠0∧sg (g s)≠sg (f s) then 1 else 0)+vr (sg (g s)) (sgs l' s):=by
   show vr 0 (sg (f s) :: sg (g s) :: sgs l' s)=_;by_cases h0:sg (f s)=0
   ·rw [h0,r7,iI k2];simp
   ·rw [iI h0];simp [vr,k2,h0]
  have e1:V f (g :: l') t=(if sg (f t)≠0∧sg (g s)≠sg (f t) then 1 else 0)+vr (sg (g s)) (sgs l' s):=by
   show vr 0 (sg (f t) :: sg (g t) :: sgs l' t)=_;rw [k3,k4.vr];by_cases h0:sg (f t)=0
   ·rw [h0,r7,iI k2];simp
   ·rw [iI h0];simp [vr,k2,h0]
  rw [e0,e1];unfold rN;rcases k1 with k|k
  ·have hlt:=s1 k;rw [sg_pos (show 0<g s by grind)];clear hc hf hl hs hst hcell hsl c1 c2 k3 k4 s1 s2 e0 e1;rcases cj (f s) with ⟨a1,a2⟩|⟨a1,a2⟩|⟨a1,a2⟩ <;> rcases cj (f t) with ⟨b1,b2⟩|⟨b1,b2⟩|⟨b1,b2⟩ <;> rw [a2,b2] <;> first|(exfalso;grind)|(refine ⟨by simp <;> omega,?_⟩;grind)
  ·have hlt:=s2 k;rw [eo (show g s<0 by grind)];clear hc hf hl hs hst hcell hsl c1 c2 k3 k4 s1 s2 e0 e1;rcases cj (f s) with ⟨a1,a2⟩|⟨a1,a2⟩|⟨a1,a2⟩ <;> rcases cj (f t) with ⟨b1,b2⟩|⟨b1,b2⟩|⟨b1,b2⟩ <;> rw [a2,b2] <;> first|(exfalso;grind)|(refine ⟨by simp <;> omega,?_⟩;grind)
theorem k7{A B e:Rat}{P:Rat→Rat→Prop}(he:0<e)(h1:∀ s t,A≤s→s<t→t≤B→t-s≤e→P s t)(h2:∀ s t u,A≤s→s<t→t<u→u≤B→P s t→P t u→P s u):∀ s t,A≤s→s<t→t≤B→P s t:=by
  have key:∀ n:Nat,∀ s t,A≤s→s<t→t≤B→t-s≤(n:Rat)*e→P s t:=by
    intro n;induction n with
    | zero => intro s t a b c d; exfalso; have : ((0 : Nat) : Rat) * e = 0 := by rw [show ((0 : Nat) : Rat) = 0 from rfl]; grind
              grind
    | succ n ih =>
      intro s t a b c d;rcases tot (t-s) e with h|h
      · exact h1 s t a b c h
      · by_cases hq:t-s=e
        · exact h1 s t a b c (by grind)
        · have e1:((n+1:Nat):Rat)*e=(n:Rat)*e+e:=by rw [Rat.natCast_add,show ((1:Nat):Rat)=1 from rfl];grind
          exact h2 s (s+e) t a (by grind) (by grind) c (h1 s (s+e) a (by grind) (by grind) (by grind)) (ih (s+e) t (by grind) (by grind) c (by grind))
  intro s t a b c;obtain ⟨n,hn⟩:∃ n:Nat,(t-s) / e≤(n:Rat):=by
    have h3:=Rat.lt_floor_add_one ((t-s) / e);refine ⟨((t-s) / e).floor.toNat+1,?_⟩;have h4:(((t-s) / e).floor+1:Int)≤((((t-s) / e).floor.toNat+1:Nat):Int):=zo;have h5:=Rat.intCast_le_intCast.2 h4;rw [Rat.intCast_natCast] at h5;grind
  refine key n s t a b c ?_;have h8:=cP hn (Rat.le_of_lt he);rw [aK (by grind)] at h8;exact h8
theorem Dc(p:List Rat)(A B:Rat):∃ M,0≤M∧On A B M (evV p):=by
 obtain ⟨R,hR,hb⟩:=gH (A:=A) (B:=B) (x:=0);induction p with
 | nil=>exact ⟨0,Rat.le_refl,fun x _ _=>⟨by show -0≤(0:Rat);decide,by show (0:Rat)≤0;decide⟩⟩
 | cons c p ih =>
  obtain ⟨M,hM,h⟩:=ih;obtain ⟨N,hN,k⟩:=Bd.ex c;exact ⟨M*R+N,by have:=gu hM hR;grind,fun x h1 h2=>((h x h1 h2).mul (hb x h1 h2)).add k⟩
theorem ti(p:List Rat)(A B:Rat):∃ K,0≤K∧Lip A B K (evV p):=by
 obtain ⟨R,hR,hb⟩:=gH (A:=A) (B:=B) (x:=0);induction p with
 | nil=>exact ⟨0,Rat.le_refl,fun s t _ h _=>⟨by show -(0*(t-s))≤(0:Rat)-0;grind,by show (0:Rat)-0≤0*(t-s);grind⟩⟩
 | cons c p ih =>
  obtain ⟨K,hK,h⟩:=ih;obtain ⟨M,hM,k⟩:=Dc p A B;refine ⟨K*R+M,by have:=gu hK hR;grind,fun s t h1 h2 h3=>?_⟩;have a:=(h s t h1 h2 h3).mul (hb t (by grind) h3);have b:=(k s h1 (by grind)).mul (Bd.self (show 0≤t-s by grind));have e:evV (c :: p) t-evV (c :: p) s=(evV p t-evV p s)*t+evV p s*(t-s):=by
   show evV p t*t+c-(evV p s*s+c)=_;grind
  rw [e,show (K*R+M)*(t-s)=K*(t-s)*R+M*(t-s) by grind];exact a.add b
def evD:List Rat→Rat→Rat
 | [],_=>0
 | _ :: p,x=>evD p x*x+evV p x
theorem Fm(p:List Rat)(A B:Rat):∃ M,0≤M∧On A B M (evD p):=by
 obtain ⟨R,hR,hb⟩:=gH (A:=A) (B:=B) (x:=0);induction p with
 | nil=>exact ⟨0,Rat.le_refl,fun x _ _=>⟨by show -0≤(0:Rat);decide,by show (0:Rat)≤0;decide⟩⟩
 | cons c p ih =>
  obtain ⟨M,hM,h⟩:=ih;obtain ⟨N,hN,k⟩:=Dc p A B;exact ⟨M*R+N,by have:=gu hM hR;grind,fun x h1 h2=>((h x h1 h2).mul (hb x h1 h2)).add (k x h1 h2)⟩
theorem th(p:List Rat)(A B:Rat):∃ K,0≤K∧∀ s t,A≤s→s≤t→t≤B→Bd (K*(t-s)*(t-s)) (evV p t-evV p s-evD p s*(t-s)):=by
 obtain ⟨R,hR,hb⟩:=gH (A:=A) (B:=B) (x:=0);induction p with
 | nil=>exact ⟨0,Rat.le_refl,fun s t _ h _=>⟨by show -(0*(t-s)*(t-s))≤(0:Rat)-0-0*(t-s);grind,by show (0:Rat)-0-0*(t-s)≤0*(t-s)*(t-s);grind⟩⟩
 | cons c p ih =>
  obtain ⟨K,hK,h⟩:=ih;obtain ⟨M,hM,k⟩:=Fm p A B;refine ⟨K*R+M,by have:=gu hK hR;grind,fun s t h1 h2 h3=>?_⟩;have a:=(h s t h1 h2 h3).mul (hb t (by grind) h3);have h0:0≤t-s:=by grind
  have b:=((k s h1 (by grind)).mul (Bd.self h0)).mul (Bd.self h0);have e:evV (c :: p) t-evV (c :: p) s-evD (c :: p) s*(t-s)=(evV p t-evV p s-evD p s*(t-s))*t+evD p s*(t-s)*(t-s):=by
   show evV p t*t+c-(evV p s*s+c)-(evD p s*s+evV p s)*(t-s)=_;grind
  rw [e,show (K*R+M)*(t-s)*(t-s)=K*(t-s)*(t-s)*R+M*(t-s)*(t-s) by grind];exact a.add b
structure Fit (A B:Rat) (f:Rat→Rat) (l:List (Rat→Rat)):Prop where
 ch:Ch A B f l
 lf:∃ K,0≤K∧Lip A B K f
 ll:∀ g ∈ l,∃ K,0≤K∧Lip A B K g
 sl:∀ g l',l=g :: l'→FX A B f g
theorem Fit.cell{A B:Rat}{f:Rat→Rat}{l:List (Rat→Rat)}(h:Fit A B f l):∃ e,0<e∧∀ s t,A≤s→s<t→t≤B→t-s≤e→V f l s=V f l t+rN f s t∧(f s=0→f t≠0):=tQ h.ch h.lf h.ll h.sl
theorem Fit.mono{A B:Rat}{f:Rat→Rat}{l:List (Rat→Rat)}(h:Fit A B f l):∀ s t,A≤s→s<t→t≤B→V f l t≤V f l s:=by
 obtain ⟨e,he,hc⟩:=h.cell;refine k7 he (fun s t h1 h2 h3 h4=>?_) (fun s t u _ _ _ _ h1 h2=>by omega);have:=(hc s t h1 h2 h3 h4).1;omega
theorem Fit.calm{A B:Rat}{f:Rat→Rat}{l:List (Rat→Rat)}(h:Fit A B f l){x y:Rat}(hx:A≤x)(hxy:x<y)(hy:y≤B)(hs:∀ s t,x≤s→s<t→t≤y→f s≠0→sg (f t)=sg (f s)):V f l x=V f l y:=by
 obtain ⟨e,he,hc⟩:=h.cell;refine k7 (A:=x) (B:=y) (P:=fun s t=>V f l s=V f l t) he (fun s t h1 h2 h3 h4=>?_) (fun s t u _ _ _ _ h1 h2=>h1.trans h2) x y Rat.le_refl hxy Rat.le_refl;rw [(hc s t (by grind) h2 (by grind) h4).1];unfold rN;rw [if_neg (fun h5=>h5.2 (hs s t h1 h2 h3 (fun h=>h5.1 (lL.2 h))))];rfl
open Go.RowKit Go.Front Go.Num Go.Stab Go.Proofs.YtafgmcimcbhhjaaGreat
theorem xx{r a b:List Rat}{c:Rat}(h:∀ i,seq r i=c*seq a i+seq b i)(x:Rat):evV r x=c*evV a x+evV b x:=by
 obtain ⟨N,h1,h2,h3⟩:∃ N,r.length≤N∧a.length≤N∧b.length≤N:=⟨r.length+a.length+b.length,zo,zo,zo⟩;rw [pZ h1,pZ h2,pZ h3,←lJ,←AY];exact sm_congr (fun i _=>by rw [h];grind)
theorem lN(r:List Rat):seq (0 :: r)=sh (seq r):=by funext n;cases n <;> rfl
theorem Gx(p:List Rat){q r:List Rat}(h:∀ n,seq r n=cv (seq p) (seq q) n)(x:Rat):evV r x=evV p x*evV q x:=by
 induction p generalizing r with
 | nil =>
  have e:evV r x=0*evV [] x:=gQ (fun i=>by rw [h i,←iG];show (0:Rat)=0*_;grind) x;rw [e];show (0:Rat)*_=(0:Rat)*_;grind
 | cons c p ih =>
  have e1:evV (aq p q) x=evV p x*evV q x:=ih (fun n=>by rw [eB,iG]);have e2:evV r x=c*evV q x+evV (0 :: aq p q) x:=xx (fun i=>by
   rw [h i,←iG,lN,eB];rfl) x
  rw [e2,jn,e1,jn];grind
theorem aJ(p q:List Rat)(x:Rat):evV (aq p q) x=evV p x*evV q x:=Gx p (fun n=>by rw [eB,iG]) x
theorem gA(p q:List Rat)(n:Nat):seq (br p q) n=seq p n+seq q n:=by
 unfold br;rw [aZ];show ((List.range (max p.length q.length)).map (fun i=>p.getD i 0+q.getD i 0)).getD n 0=p.getD n 0+q.getD n 0;rw [dk];split
 ·rfl
 ·rw [bH (l:=p) zo,bH (l:=q) zo];exact (Rat.add_zero 0).symm
theorem ev_add5(p q:List Rat)(x:Rat):evV (br p q) x=evV p x+evV q x:=by
 have:=xx (r:=br p q) (a:=p) (b:=q) (c:=1) (fun i=>by rw [gA];grind) x;rw [this];grind
theorem bJ(p:List Rat)(c x:Rat):evV (p.map (·*c)) x=c*evV p x:=gQ (fun i=>by rw [aX];grind) x
def Pf(f:Rat→Rat):Prop:=∃ p,f=evV p
theorem Pf.ev(p:List Rat):Pf (evV p):=⟨p,rfl⟩
theorem Pf.const(c:Rat):Pf (fun _=>c):=⟨[c],funext fun x=>by show c=0*x+c;grind⟩
theorem Pf.add{f g:Rat→Rat}(hf:Pf f)(hg:Pf g):Pf (fun x=>f x+g x):=by
 obtain ⟨p,rfl⟩:=hf;obtain ⟨q,rfl⟩:=hg;exact ⟨br p q,funext fun x=>(ev_add5 p q x).symm⟩
theorem Pf.mul{f g:Rat→Rat}(hf:Pf f)(hg:Pf g):Pf (fun x=>f x*g x):=by
 obtain ⟨p,rfl⟩:=hf;obtain ⟨q,rfl⟩:=hg;exact ⟨aq p q,funext fun x=>(aJ p q x).symm⟩
theorem Pf.smul{f:Rat→Rat}(c:Rat)(hf:Pf f):Pf (fun x=>c*f x):=(Pf.const c).mul hf
theorem Pf.sub{f g:Rat→Rat}(hf:Pf f)(hg:Pf g):Pf (fun x=>f x-g x):=by
 have h:=hf.add (hg.smul (-1));have e:(fun x=>f x-g x)=(fun x=>f x+-1*g x):=funext fun x=>by grind
 rw [e];exact h
theorem Pf.lip{f:Rat→Rat}(h:Pf f)(A B:Rat):∃ K,0≤K∧Lip A B K f:=by obtain ⟨p,rfl⟩:=h;exact ti p A B
theorem Pf.on{f:Rat→Rat}(h:Pf f)(A B:Rat):∃ K,0≤K∧On A B K f:=by obtain ⟨p,rfl⟩:=h;exact Dc p A B
theorem sZ{K v:Rat}(hK:0≤K)(h:∀ d,0<d→d≤1→v≤K*d):v≤0:=by
 apply Classical.byContradiction;intro hn;obtain ⟨e,he,h1⟩:=jc hK (show 0<v by grind);obtain ⟨d,hd,h2,h3⟩:=nr he (show (0:Rat)<1 by decide);have h4:=h1 d h2;have h5:=h d hd h3;grind
theorem rI(p:List Rat)(h:∀ x,evV p x=0):∀ i,seq p i=0:=by
 induction p with
 | nil=>intro i;rfl
 | cons c p ih =>
  have hc:c=0:=by have:=h 0;rw [jn] at this;grind
  have h1:∀ x,x≠0→evV p x=0:=fun x hx=>by
   have h2:=h x;rw [jn,hc] at h2;have h3:evV p x*x=0:=by grind
   rcases nXr.1 h3 with h4|h4
   ·exact h4
   ·exact absurd h4 hx
  have h0:evV p 0=0:=by
   obtain ⟨K,hK,hL⟩:=ti p 0 1;have a1:=sZ (v:=evV p 0) hK (fun d hd h2=>by
    have h3:=(hL 0 d Rat.le_refl (by grind) h2).1;rw [h1 d (by grind)] at h3;grind)
   have a2:=sZ (v:=-evV p 0) hK (fun d hd h2=>by
    have h3:=(hL 0 d Rat.le_refl (by grind) h2).2;rw [h1 d (by grind)] at h3;grind)
   grind
  have h2:=ih (fun x=>by
   by_cases hx:x=0
   ·rw [hx];exact h0
   ·exact h1 x hx)
  intro i;cases i with
  | zero=>exact hc
  | succ i=>exact h2 i
theorem i9{p q:List Rat}(h:∀ x,evV p x=evV q x):∀ i,seq p i=seq q i:=by
 have h1:=rI (br p (q.map (·*-1))) (fun x=>by rw [ev_add5,bJ,h x];grind);intro i;have:=h1 i;rw [gA,aX] at this;grind
theorem ev_tznil{p:List Rat}:tz p=[]↔∀ x,evV p x=0:=by
 constructor
 ·intro h x;rw [←xt,h];rfl
 ·intro h;have:=jQ (a:=p) (b:=[]) (fun i=>by rw [rI p h i];rfl);exact this
theorem GA{p q:List Rat}(hp:tz p≠[])(hq:tz q≠[]):∃ n,cv (seq p) (seq q) n≠0:=by
 obtain ⟨a,ha⟩:∃ a,(tz p).length=a+1:=⟨(tz p).length-1,by have:=nYh.2 hp;omega⟩;obtain ⟨b,hb⟩:∃ b,(tz q).length=b+1:=⟨(tz q).length-1,by have:=nYh.2 hq;omega⟩;refine ⟨a+b,?_⟩;rw [←aZ p,←aZ q,qp (by rw [←ha];exact Bd.seq _) (by rw [←hb];exact Bd.seq _)];intro h;have h1:=co hp;have h2:=co hq;unfold aO at h1 h2;rw [ha,Nat.add_sub_cancel] at h1;rw [hb,Nat.add_sub_cancel] at h2;rcases nXr.1 h with h3|h3
 ·exact h1 h3
 ·exact h2 h3
theorem Bh{f g:Rat→Rat}(hf:Pf f)(hg:Pf g)(h:∀ x,f x*g x=0)(h0:∃ x,f x≠0):∀ x,g x=0:=by
 obtain ⟨p,rfl⟩:=hf;obtain ⟨q,rfl⟩:=hg;obtain ⟨y,hy⟩:=h0;have hp:tz p≠[]:=fun h=>hy (ev_tznil.1 h y)
 by_cases hq:tz q=[]
 ·exact ev_tznil.1 hq
 ·exfalso;obtain ⟨n,hn⟩:=GA hp hq;have h1:=rI (aq p q) (fun x=>by rw [aJ];exact h x) n;rw [eB,iG] at h1;exact hn h1
theorem jP{f g h:Rat→Rat}(hf:Pf f)(hg:Pf g)(hh:Pf h)(he:∀ x,f x*g x=f x*h x)(h0:∃ x,f x≠0):∀ x,g x=h x:=fun x=>by
 have:=Bh hf (hg.sub hh) (fun x=>by have:=he x;grind) h0 x;grind
def Dv(a b:Rat→Rat):Prop:=∃ c,Pf c∧∀ x,b x=a x*c x
def Cp(a b:Rat→Rat):Prop:=∃ u v,Pf u∧Pf v∧∀ x,u x*a x+v x*b x=1
theorem Dv.add{a b c:Rat→Rat}(h:Dv a b)(k:Dv a c):Dv a (fun x=>b x+c x):=by
 obtain ⟨u,hu,h1⟩:=h;obtain ⟨v,hv,h2⟩:=k;exact ⟨_,hu.add hv,fun x=>by show b x+c x=_;rw [h2,h1];grind⟩
theorem Dv.sub{a b c:Rat→Rat}(h:Dv a b)(k:Dv a c):Dv a (fun x=>b x-c x):=by
 obtain ⟨u,hu,h1⟩:=h;obtain ⟨v,hv,h2⟩:=k;exact ⟨_,hu.sub hv,fun x=>by show b x-c x=_;rw [h2,h1];grind⟩
theorem Dv.mulr{a b c:Rat→Rat}(h:Dv a b)(k:Pf c):Dv a (fun x=>b x*c x):=by
 obtain ⟨u,hu,h1⟩:=h;exact ⟨_,hu.mul k,fun x=>by show b x*c x=_;rw [h1];grind⟩
theorem Dv.mull{a b c:Rat→Rat}(h:Dv a b)(k:Pf c):Dv a (fun x=>c x*b x):=by
 obtain ⟨u,hu,h1⟩:=h;exact ⟨_,hu.mul k,fun x=>by show c x*b x=_;rw [h1];grind⟩
theorem Cp.dv{a b c:Rat→Rat}(h:Cp a b)(hc:Pf c)(k:Dv a (fun x=>b x*c x)):Dv a c:=by
 obtain ⟨u,v,hu,hv,h1⟩:=h;obtain ⟨d,hd,h2⟩:=k;exact ⟨_,(hu.mul hc).add (hv.mul hd),fun x=>by
  have e1:=h1 x;have e2:b x*c x=a x*d x:=h2 x;show c x=a x*((u x*c x)+v x*d x);grind⟩
theorem Cp.dvl{a b c:Rat→Rat}(h:Cp a b)(hc:Pf c)(k:Dv a (fun x=>c x*b x)):Dv a c:=h.dv hc (by
 obtain ⟨d,hd,h2⟩:=k;exact ⟨d,hd,fun x=>by rw [←h2];grind⟩)
theorem Cp.symm{a b:Rat→Rat}(h:Cp a b):Cp b a:=by
 obtain ⟨u,v,hu,hv,h1⟩:=h;exact ⟨v,u,hv,hu,fun x=>by have:=h1 x;grind⟩
def IsD(f g:Rat→Rat):Prop:=∀ A B,∃ K,0≤K∧∀ s t,A≤s→s≤t→t≤B→Bd (K*(t-s)*(t-s)) (f t-f s-g s*(t-s))
theorem IsD.ev(p:List Rat):IsD (evV p) (evD p):=fun A B=>th p A B
theorem IsD.const(c:Rat):IsD (fun _=>c) (fun _=>0):=fun A B=>⟨0,Rat.le_refl,fun s t _ _ _=>⟨by grind,by grind⟩⟩
theorem IsD.uniq{f g h:Rat→Rat}(a:IsD f g)(b:IsD f h)(x:Rat):g x=h x:=by
 obtain ⟨K,hK,h1⟩:=a x (x+1);obtain ⟨L,hL,h2⟩:=b x (x+1);have key:∀ d,0<d→d≤1→g x-h x≤(K+L)*d∧h x-g x≤(K+L)*d:=fun d hd h3=>by
  obtain ⟨e1,e2⟩:=h1 x (x+d) Rat.le_refl (by grind) (by grind);obtain ⟨e3,e4⟩:=h2 x (x+d) Rat.le_refl (by grind) (by grind);rw [show x+d-x=d by grind] at e1 e2 e3 e4;have cancel:∀ u v:Rat,u*d≤v*d→u≤v:=fun u v h=>by
   apply Classical.byContradiction;intro hn;have:=f8 (show v<u by grind) hd;grind
  exact ⟨cancel _ _ (by grind),cancel _ _ (by grind)⟩
 have a1:=sZ (v:=g x-h x) (K:=K+L) (by grind) (fun d h1 h2=>(key d h1 h2).1);have a2:=sZ (v:=h x-g x) (K:=K+L) (by grind) (fun d h1 h2=>(key d h1 h2).2);grind
theorem IsD.mul{f g f' g':Rat→Rat}(a:IsD f f')(b:IsD g g')(hf:Pf f)(hg:Pf g)(hf':Pf f'):IsD (fun x=>f x*g x) (fun x=>f' x*g x+f x*g' x):=by
 intro A B;obtain ⟨K,hK,h1⟩:=a A B;obtain ⟨L,hL,h2⟩:=b A B;obtain ⟨M,hM,h3⟩:=hf.on A B;obtain ⟨N,hN,h4⟩:=hg.on A B;obtain ⟨P,hP,h5⟩:=hf'.on A B;obtain ⟨Q,hQ,h6⟩:=hg.lip A B;refine ⟨K*N+P*Q+M*L,by have:=gu hK hN;have:=gu hP hQ;have:=gu hM hL;grind,fun s t k1 k2 k3=>?_⟩;have h0:0≤t-s:=by grind
 have b1:=(h1 s t k1 k2 k3).mul (h4 t (by grind) k3);have b2:=((h5 s k1 (by grind)).mul (Bd.self h0)).mul (h6 s t k1 k2 k3);have b3:=(h3 s k1 (by grind)).mul (h2 s t k1 k2 k3);have e:=(b1.add b2).add b3;rw [show (K*N+P*Q+M*L)*(t-s)*(t-s)=K*(t-s)*(t-s)*N+P*(t-s)*(Q*(t-s))+M*(L*(t-s)*(t-s)) by grind,
  show f t*g t-f s*g s-(f' s*g s+f s*g' s)*(t-s)=(f t-f s-f' s*(t-s))*g t+f' s*(t-s)*(g t-g s)+f s*(g t-g s-g' s*(t-s)) by grind]
 exact e
def derL:List Rat→List Rat
 | []=>[]
 | _ :: p=>br (0 :: derL p) p
theorem dt(p:List Rat)(x:Rat):evV (derL p) x=evD p x:=by
 induction p with
 | nil=>rfl
 | cons c p ih =>
  show evV (br (0 :: derL p) p) x=evD p x*x+evV p x;rw [ev_add5,jn,ih];grind
theorem seq_derL(p:List Rat)(n:Nat):seq (derL p) n=((n+1:Nat):Rat)*seq p (n+1):=by
 induction p generalizing n with
 | nil=>show (0:Rat)=_*(0:Rat);grind
 | cons c p ih =>
  show seq (br (0 :: derL p) p) n=((n+1:Nat):Rat)*seq p n;rw [gA,lN];cases n with
  | zero=>show (0:Rat)+seq p 0=((0+1:Nat):Rat)*seq p 0;rw [show ((0+1:Nat):Rat)=1 from rfl];grind
  | succ n =>
   show seq (derL p) n+seq p (n+1)=_;rw [ih,Rat.natCast_add (n+1) 1,show ((1:Nat):Rat)=1 from rfl];grind
theorem Pf.der(p:List Rat):Pf (evD p):=⟨derL p,funext fun x=>(dt p x).symm⟩
theorem vT{f:Rat→Rat}(h:Pf f):∃ g,Pf g∧IsD f g:=by obtain ⟨p,rfl⟩:=h;exact ⟨_,Pf.der p,IsD.ev p⟩
theorem qe{a p:List Rat}(h:Pr a p):∃ c:Rat,c≠0∧∀ x,evV a x=c*evV p x:=by
 obtain ⟨c,h1,h2⟩:=h;exact ⟨c,h1,fun x=>gQ h2 x⟩
theorem j0(p:List Rat){q:List Rat}(h:tz q≠[])(x:Rat):evV p x=evV (bE p q) x*evV q x+evV (bC p q) x:=by
 have h1:=(cx p h).2.2.2;have h2:=xx (r:=p) (a:=aq (bE p q) q) (b:=bC p q) (c:=1) (fun i=>by rw [h1 i,eB,iG];grind) x;rw [h2,aJ];grind
def IsG(g a b:Rat→Rat):Prop:=Dv g a∧Dv g b∧∃ u v,Pf u∧Pf v∧∀ x,g x=u x*a x+v x*b x
theorem xe:∀ (f:Nat) (p q:List Rat),q.length≤f→tz q=q→IsG (evV (pW f p q)) (evV p) (evV q):=by
 have hbase:∀ p:List Rat,IsG (evV p) (evV p) (evV []):=fun p=>⟨⟨_,Pf.const 1,fun x=>by grind⟩,⟨_,Pf.const 0,fun x=>by show (0:Rat)=_*0;grind⟩,_,_,Pf.const 1,Pf.const 0,fun x=>by show _=1*_+0*(0:Rat);grind⟩
 intro f;induction f with
 | zero =>
  intro p q h ht;obtain rfl:q=[]:=nXj.1 zo;exact hbase p
 | succ f ih =>
  intro p q h ht;by_cases h0:q=[]
  ·subst h0;rw [iR];exact hbase p
  ·have hq:tz q≠[]:=by rw [ht];exact h0
   have h1:=(cx p hq).1;have h2:=dm (bC p q);have h3:=ae (bC p q);rw [ht] at h1;rw [iC h0];obtain ⟨g1,g2,u,v,hu,hv,g3⟩:=ih q (bF (bC p q)) zo (fK _);obtain ⟨c,hc,hm⟩:=qe (fL (bC p q));have hr:∀ x,evV (bC p q) x=c⁻¹*evV (bF (bC p q)) x:=fun x=>by
    have:=nYk c hc;rw [hm x];grind
   refine ⟨?_,g1,_,_,hv.smul c,hu.sub ((hv.smul c).mul (Pf.ev (bE p q))),fun x=>?_⟩
   ·have h4:=(g1.mull (Pf.ev (bE p q))).add (g2.mull (Pf.const c⁻¹));obtain ⟨d,hd,h5⟩:=h4;exact ⟨d,hd,fun x=>by rw [←h5 x,j0 p hq x,hr x]⟩
   ·rw [g3 x,hm x,j0 p hq x];grind
theorem jY(p q:List Rat):IsG (evV (cY p q)) (evV p) (evV q):=by
 obtain ⟨g1,g2,u,v,hu,hv,g3⟩:=xe (tz q).length (bF p) (bF q) (by rw [dm];exact nXe _) (fK q);obtain ⟨c,hc,h1⟩:=qe (fL p);obtain ⟨d,hd,h2⟩:=qe (fL q);have inv:∀ {c:Rat} {f g:Rat→Rat},c≠0→(∀ x,f x=c*g x)→∀ x,g x=c⁻¹*f x:=fun hc h x=>by
  have:=nYk _ hc;rw [h x];grind
 refine ⟨?_,?_,_,_,hu.smul c,hv.smul d,fun x=>?_⟩
 ·obtain ⟨e,he,h3⟩:=g1.mull (Pf.const c⁻¹);exact ⟨e,he,fun x=>(inv hc h1 x).trans (h3 x)⟩
 ·obtain ⟨e,he,h3⟩:=g2.mull (Pf.const d⁻¹);exact ⟨e,he,fun x=>(inv hd h2 x).trans (h3 x)⟩
 ·show evV (pW (tz q).length (bF p) (bF q)) x=_;rw [g3 x,h1,h2];grind
theorem mA{a b:List Rat}(h:Dv (evV a) (evV b))(hb:tz b≠[]):(tz a).length≤(tz b).length:=by
 obtain ⟨c,⟨p,rfl⟩,h1⟩:=h;have ha:tz a≠[]:=fun h=>hb (ev_tznil.2 fun x=>by rw [h1 x,ev_tznil.1 h x];grind)
 have hp:tz p≠[]:=fun h=>hb (ev_tznil.2 fun x=>by rw [h1 x,ev_tznil.1 h x];grind)
 obtain ⟨i,hi⟩:∃ a',(tz a).length=a'+1:=⟨(tz a).length-1,by have:=nYh.2 ha;omega⟩;obtain ⟨j,hj⟩:∃ b',(tz p).length=b'+1:=⟨(tz p).length-1,by have:=nYh.2 hp;omega⟩;have h2:=i9 (p:=b) (q:=aq a p) (fun x=>by rw [aJ];exact h1 x) (i+j);rw [eB,iG,←aZ a,←aZ p,qp (by rw [←hi];exact Bd.seq _) (by rw [←hj];exact Bd.seq _),←aZ b] at h2;have k1:=co ha;have k2:=co hp;unfold aO at k1 k2;rw [hi,Nat.add_sub_cancel] at k1;rw [hj,Nat.add_sub_cancel] at k2;rcases Nat.lt_or_ge (i+j) (tz b).length with h3|h3
 ·omega
 ·exfalso;rw [Bd.seq (tz b) _ h3] at h2;rcases nXr.1 h2.symm with h4|h4
  ·exact k1 h4
  ·exact k2 h4
theorem fu{p:List Rat}(h:tz p≠[]):∃ n,(tz p).length=n+1∧seq p n≠0:=by
 obtain ⟨n,hn⟩:∃ n,(tz p).length=n+1:=⟨(tz p).length-1,by have:=nYh.2 h;omega⟩;exact ⟨n,hn,jC hn⟩
theorem ES{n:Nat}:((n+1:Nat):Rat)≠0:=fun h=>by
 have:n+1=0:=by exact_mod_cast h
 omega
theorem iE(p:List Rat)(n:Nat)(h:(tz p).length=n+1):(tz (derL p)).length≤n:=by
 rcases Nat.lt_or_ge n (tz (derL p)).length with h1|h1
 ·exfalso;have h2:tz (derL p)≠[]:=fun h=>by rw [h] at h1;simp at h1
  obtain ⟨k,h3,h4⟩:=fu h2;rw [seq_derL] at h4;apply h4;rw [←aZ p,Bd.seq (tz p) (k+1) zo];grind
 ·exact h1
theorem BG{p:List Rat}{n:Nat}(h:(tz p).length=n+2):tz (derL p)≠[]:=fun h0=>by
 have h1:seq (derL p) n=0:=by rw [←aZ,h0];rfl
 rw [seq_derL] at h1;have h2:seq p (n+1)≠0:=jC h;rcases nXr.1 h1 with h3|h3
 ·exact ES h3
 ·exact h2 h3
theorem jj{p:List Rat}(h:(tz p).length≤1):∀ x,evV p x=seq p 0:=fun x=>by
 rw [←xt,←aZ p]
 match tz p,h with
 | [],_=>rfl
 | [c],_=>show 0*x+c=c;grind
theorem Eo{g p p' r q1:Rat→Rat}(hg:Pf g)(hr:Pf r)(hq:Pf q1)(h:IsG g p p')(h1:∀ x,p x=g x*r x)(h2:∀ x,p' x=g x*q1 x)(h0:∃ x,p x≠0):Cp r q1:=by
 obtain ⟨-,-,u,v,hu,hv,h3⟩:=h;refine ⟨u,v,hu,hv,fun x=>?_⟩;refine jP (f:=g) (g:=fun x=>u x*r x+v x*q1 x) (h:=fun _=>1) hg ((hu.mul hr).add (hv.mul hq)) (Pf.const 1) (fun x=>?_) ?_ x
 ·have e:=h3 x;rw [h1,h2] at e;grind
 ·obtain ⟨y,hy⟩:=h0;exact ⟨y,fun h=>hy (by rw [h1,h];grind)⟩
theorem yY:∀ (n:Nat) (p:List Rat),(tz p).length≤n→tz p≠[]→∀ g r:Rat→Rat,Pf g→Pf r→IsG g (evV p) (evD p)→(∀ x,evV p x=g x*r x)→∀ r',Pf r'→IsD r r'→Cp r r':=by
 intro n;induction n with
 | zero=>intro p h h0;exact absurd (nXj.1 zo) h0
 | succ n ih =>
  intro p hn h0 g r hg hr hG h1 r' hr' hd;have hp0:∃ x,evV p x≠0:=Classical.byContradiction fun h=>h0 (ev_tznil.2 fun x=>Classical.byContradiction fun h2=>h ⟨x,h2⟩)
  obtain ⟨q1,hq1,h2⟩:=hG.2.1;have hcp:=Eo hg hr hq1 hG h1 h2 hp0;obtain ⟨gl,rfl⟩:=id hg;have hg0:tz gl≠[]:=fun h=>by
   obtain ⟨y,hy⟩:=hp0;exact hy (by rw [h1,ev_tznil.1 h y];grind)
  have hgx:∃ x,evV gl x≠0:=by
   obtain ⟨y,hy⟩:=hp0;exact ⟨y,fun h=>hy (by rw [h1,h];grind)⟩
  have hslope:∀ x,evD gl x*r x+evV gl x*r' x=evV gl x*q1 x:=fun x=>by
   have e:=(IsD.mul (IsD.ev gl) hd hg hr (Pf.der gl)).uniq (by
    have:=IsD.ev p;rw [show evV p=fun x=>evV gl x*r x from funext h1] at this;exact this) x
   rw [h2 x] at e;exact e
  rcases Nat.lt_or_ge 1 (tz gl).length with hl|hl
  ·-- g is not a constant
   obtain ⟨k,hk,-⟩:=fu hg0;have hpg:=mA hG.1 h0;obtain ⟨m,hm⟩:∃ m,(tz p).length=m+2:=⟨(tz p).length-2,zo⟩;have hpd:=BG hm;have hdl:Dv (evV gl) (evV (derL p)):=by rw [show evV (derL p)=evD p from funext (dt p)];exact hG.2.1
   have hlen:=mA hdl hpd;have hder:=iE p (m+1) hm;have hG2:=jY gl (derL gl);rw [show evV (derL gl)=evD gl from funext (dt gl)] at hG2;obtain ⟨r1,hr1,e1⟩:=hG2.1;obtain ⟨s1,hs1,e2⟩:=hG2.2.1;obtain ⟨r1',hr1',hd1⟩:=vT hr1;have hc1:=ih gl zo hg0 _ r1 (Pf.ev _) hr1 hG2 e1 r1' hr1' hd1;have hc2:=Eo (Pf.ev _) hr1 hs1 hG2 e1 e2 hgx;have hp2x:∃ x,evV (cY gl (derL gl)) x≠0:=by
    obtain ⟨y,hy⟩:=hgx;exact ⟨y,fun h=>hy (by rw [e1,h];grind)⟩
   have e3:∀ x,s1 x*r x=r1 x*(q1 x-r' x):=jP (f:=evV (cY gl (derL gl))) (g:=fun x=>s1 x*r x) (h:=fun x=>r1 x*(q1 x-r' x)) (Pf.ev _) (hs1.mul hr) (hr1.mul (hq1.sub hr')) (fun x=>by
    have h3:=hslope x;rw [e2 x,e1 x] at h3;grind) hp2x
   obtain ⟨w,hw,e4⟩:=hc2.dv hr ⟨_,hq1.sub hr',e3⟩;have hr1x:∃ x,r1 x≠0:=by
    obtain ⟨y,hy⟩:=hgx;exact ⟨y,fun h=>hy (by rw [e1,h];grind)⟩
   have e5:∀ x,s1 x*w x=q1 x-r' x:=jP (f:=r1) (g:=fun x=>s1 x*w x) (h:=fun x=>q1 x-r' x) hr1 (hs1.mul hw) (hq1.sub hr') (fun x=>by
    have h3:=e3 x;rw [e4 x] at h3;grind) hr1x
   obtain ⟨rl,hrl⟩:=id hr;have hrd:r'=evD rl:=funext fun x=>hd.uniq (by rw [hrl];exact IsD.ev rl) x
   have hG3:=jY rl (derL rl);rw [show evV (derL rl)=evD rl from funext (dt rl),←hrl,←hrd] at hG3;obtain ⟨h,hh⟩:∃ h,h=evV (cY rl (derL rl)):=⟨_,rfl⟩;rw [←hh] at hG3;obtain ⟨d1,d2,ua,va,hua,hva,d3⟩:=hG3;obtain ⟨w',hw',hdw⟩:=vT hw;have hcw:Cp h w:=by
    obtain ⟨u,v,hu,hv,b1⟩:=hcp;obtain ⟨x1,hx1,b2⟩:=d1;obtain ⟨x2,hx2,b3⟩:=d2;refine ⟨_,_,(hu.mul hx1).add (hv.mul hx2),hv.mul hs1,fun x=>?_⟩;have b4:=b1 x;have b5:=e5 x;have b6:q1 x=s1 x*w x+r' x:=by grind
    rw [b6,b2 x,b3 x] at b4;grind
   have hr1d:Dv h r1:=hcw.dvl hr1 (by
    obtain ⟨x1,hx1,b2⟩:=d1;exact ⟨x1,hx1,fun x=>by rw [←b2 x,e4 x]⟩)
   have hrs:∀ x,r1' x*w x+r1 x*w' x=r' x:=fun x=>(IsD.mul hd1 hdw hr1 hw hr1').uniq (by
    rw [←show r=fun x=>r1 x*w x from funext e4];exact hd) x
   have hr1d':Dv h r1':=hcw.dvl hr1' (by
    obtain ⟨x1,hx1,b2⟩:=d2.sub (hr1d.mulr hw');exact ⟨x1,hx1,fun x=>by
     have e:=b2 x;have e':=hrs x;rw [←e];show r1' x*w x=r' x-r1 x*w' x;grind⟩)
   obtain ⟨a,b,ha,hb,c1⟩:=hc1;obtain ⟨x1,hx1,c2⟩:=hr1d;obtain ⟨x2,hx2,c3⟩:=hr1d';refine ⟨_,_,((ha.mul hx1).add (hb.mul hx2)).mul hua,((ha.mul hx1).add (hb.mul hx2)).mul hva,fun x=>?_⟩;have c4:=c1 x;rw [c2 x,c3 x,d3 x] at c4;grind
  ·-- g is a constant
   have hcst:=jj hl;obtain ⟨y,hy⟩:=hgx;have hc0:seq gl 0≠0:=by rw [←hcst y];exact hy
   have hz:∀ x,evD gl x=0:=fun x=>(IsD.ev gl).uniq (by rw [show evV gl=fun _=>seq gl 0 from funext hcst];exact IsD.const _) x
   have he:∀ x,r' x=q1 x:=fun x=>by
    have h3:=hslope x;rw [hz x,hcst x] at h3;have h4:=nYk _ hc0;have h5:(seq gl 0)⁻¹*(seq gl 0*r' x)=(seq gl 0)⁻¹*(seq gl 0*q1 x):=by congr 1;grind
    rw [←nYe,←nYe,nYd _ (seq gl 0),h4,Rat.one_mul,Rat.one_mul] at h5;exact h5
   rw [show r'=q1 from funext he];exact hcp
end Go.Proofs.YtafgmcimcbhhjaaGreat.Sg
