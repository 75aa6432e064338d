import Derived.Test.YtkcpmclnocmalaaGreatQMK5
set_option linter.unusedVariables false
namespace Go.Proofs.YtkcpmclnocmalaaGreat.Sg
def sg(q:Rat):Int:=if q<0 then -1 else if q=0 then 0 else 1
theorem cP{q:Rat}(h:q<0):sg q=-1:=if_pos h
theorem fi:sg 0=0:=by decide
theorem dI{q:Rat}(h:0<q):sg q=1:=by unfold sg;rw [if_neg (by grind),if_neg (by grind)]
theorem tri(a b:Rat):a<b∨a=b∨b<a:=by grind
theorem tot(a b:Rat):a≤b∨b≤a:=by grind
theorem bR(q:Rat):(q<0∧sg q=-1)∨(q=0∧sg q=0)∨(0<q∧sg q=1):=by
 rcases tri q 0 with h|h|h
 ·exact Or.inl ⟨h,cP h⟩
 ·subst h;exact Or.inr (Or.inl ⟨rfl,fi⟩)
 ·exact Or.inr (Or.inr ⟨h,dI h⟩)
theorem eV{q:Rat}:sg q=0↔q=0:=by rcases bR q with ⟨h,e⟩|⟨h,e⟩|⟨h,e⟩ <;> rw [e] <;> constructor <;> intro k <;> first|omega|grind
def vr:Int→List Int→Nat
 | _,[]=>0
 | last,s :: l=>if s=0 then vr last l else (if last≠0∧s≠last then 1 else 0)+vr s l
def IsS(x:Int):Prop:=x=-1∨x=0∨x=1
theorem mG(q:Rat):IsS (sg q):=by rcases bR q with ⟨h,e⟩|⟨h,e⟩|⟨h,e⟩ <;> rw [e] <;> unfold IsS <;> omega
inductive Rl:Int→List Int→List Int→Prop
 | nil (p:Int):Rl p [] []
 | big {p x:Int} {a b:List Int} (hx:x≠0) (h:Rl x a b):Rl p (x :: a) (x :: b)
 | small {p x y z:Int} {a b:List Int} (hp:p≠0) (hz:z=-p) (ip:IsS p) (ix:IsS x) (iy:IsS y) (h:Rl z a b):Rl p (x :: z :: a) (y :: z :: b)
theorem qk{p x z:Int}{a:List Int}(hp:p≠0)(hz:z=-p)(ip:IsS p)(ix:IsS x):vr p (x :: z :: a)=1+vr z a:=by
 have hz0:z≠0:=zo;have hzp:z≠p:=zo;by_cases h0:x=0
 ·subst h0;simp [vr,hz0,hp,hzp]
 ·by_cases h1:x=p
  ·subst h1;simp [vr,h0,hz0,hzp]
  ·have h2:x=z:=by unfold IsS at ip ix;omega
   subst h2;simp [vr,h0,hp,h1]
theorem Rl.vr{p:Int}{a b:List Int}(h:Rl p a b):vr p a=vr p b:=by
 induction h with
 | nil p=>rfl
 | big hx h ih=>simp [Sg.vr,hx,ih]
 | small hp hz ip ix iy h ih=>rw [qk hp hz ip ix,qk hp hz ip iy,ih]
def Bd(M x:Rat):Prop:=-M≤x∧x≤M
theorem Bd.mono{M N x:Rat}(h:Bd M x)(k:M≤N):Bd N x:=by have h1:=h.1;have h2:=h.2;exact ⟨by grind,by grind⟩
theorem Bd.add{M N x y:Rat}(h:Bd M x)(k:Bd N y):Bd (M+N) (x+y):=by have h1:=h.1;have h2:=h.2;have h3:=k.1;have h4:=k.2;exact ⟨by grind,by grind⟩
theorem Bd.sub{M N x y:Rat}(h:Bd M x)(k:Bd N y):Bd (M+N) (x-y):=by have h1:=h.1;have h2:=h.2;have h3:=k.1;have h4:=k.2;exact ⟨by grind,by grind⟩
theorem Bd.neg{M x:Rat}(h:Bd M x):Bd M (-x):=by have h1:=h.1;have h2:=h.2;exact ⟨by grind,by grind⟩
theorem Bd.mul{M N x y:Rat}(h:Bd M x)(k:Bd N y):Bd (M*N) (x*y):=by
 have h1:=h.1;have h2:=h.2;have h3:=k.1;have h4:=k.2;have e1:=Rat.mul_nonneg (a:=M-x) (b:=N+y) (by grind) (by grind);have e2:=Rat.mul_nonneg (a:=M+x) (b:=N-y) (by grind) (by grind);have e3:=Rat.mul_nonneg (a:=M-x) (b:=N-y) (by grind) (by grind);have e4:=Rat.mul_nonneg (a:=M+x) (b:=N+y) (by grind) (by grind);exact ⟨by grind,by grind⟩
theorem Bd.self{x:Rat}(h:0≤x):Bd x x:=⟨by grind,by grind⟩
theorem Bd.ex(x:Rat):∃ M,0≤M∧Bd M x:=by
 rcases tot 0 x with h|h
 ·exact ⟨x,h,by grind,by grind⟩
 ·exact ⟨-x,by grind,by grind,by grind⟩
theorem fQ{A B x:Rat}:∃ R,0≤R∧∀ x,A≤x→x≤B→Bd R x:=by
 obtain ⟨M,h1,h2⟩:=Bd.ex A;obtain ⟨N,h3,h4⟩:=Bd.ex B;refine ⟨M+N,by grind,fun x hA hB=>?_⟩;have h5:=h2.1;have h6:=h2.2;have h7:=h4.1;have h8:=h4.2;exact ⟨by grind,by grind⟩
theorem yA{a b:Rat}(h:0≤a)(k:0≤b):0≤a*b:=Rat.mul_nonneg h k
theorem Aw{a b:Rat}(h:0<a)(k:0<b):0<a*b:=Rat.mul_pos h k
theorem zy{a b:Rat}(h:0<a)(k:0<b):0<a / b:=by rw [Rat.div_def];exact Rat.mul_pos h (Rat.inv_pos.2 k)
theorem aQ{a b:Rat}(k:b≠0):a / b*b=a:=by rw [Rat.div_def,nYe,Rat.inv_mul_cancel _ k,Rat.mul_one]
theorem il{a b c:Rat}(h:a≤b)(k:0≤c):a*c≤b*c:=Rat.mul_le_mul_of_nonneg_right h k
theorem eL{a b c:Rat}(h:a≤b)(k:0≤c):c*a≤c*b:=Rat.mul_le_mul_of_nonneg_left h k
theorem jc{a b c:Rat}(h:a<b)(k:0<c):a*c<b*c:=by
 have:=Rat.mul_pos (show 0<b-a by grind) k;grind
theorem thr{c m x:Rat}(hc:0<c)(hm:0<m)(h:m*3≤c*x*4):m / (2*c)≤x:=by
 apply Classical.byContradiction;intro hn;have h1:=jc (show x<m / (2*c) by grind) hc;have h2:m / (2*c)*(2*c)=m:=aQ (by grind);grind
def Lip(A B K:Rat)(f:Rat→Rat):Prop:=∀ s t,A≤s→s≤t→t≤B→Bd (K*(t-s)) (f t-f s)
theorem Lip.mono{A B K L:Rat}{f:Rat→Rat}(h:Lip A B K f)(k:K≤L):Lip A B L f:=fun s t h1 h2 h3=>(h s t h1 h2 h3).mono (il k (by grind))
def On(A B M:Rat)(f:Rat→Rat):Prop:=∀ x,A≤x→x≤B→Bd M (f x)
def Big(r x:Rat):Prop:=r≤x∨x≤-r
theorem kL{r x:Rat}(h:¬ Big r x):-r<x∧x<r:=by
 unfold Big at h;exact ⟨by grind,by grind⟩
theorem Big.sign{A B K r s t:Rat}{f:Rat→Rat}(hf:Lip A B K f)(hb:Big r (f s))(h1:A≤s)(h2:s≤t)(h3:t≤B)(h4:K*(t-s)<r):sg (f t)=sg (f s)∧sg (f s)≠0:=by
 obtain ⟨e1,e2⟩:=hf s t h1 h2 h3;have hr:0<r:=by grind
 rcases hb with h|h
 ·rw [dI (show 0<f s by grind),dI (show 0<f t by grind)];exact ⟨rfl,dZ⟩
 ·rw [cP (show f s<0 by grind),cP (show f t<0 by grind)];exact ⟨rfl,dZ⟩
def Row(A B:Rat)(f g h:Rat→Rat):Prop:=∃ c d Q:Rat,0<c∧0<d∧0≤Q∧∃ q:Rat→Rat,On A B Q q∧∀ x,c*f x+d*h x=q x*g x
def Ch(A B:Rat):(Rat→Rat)→List (Rat→Rat)→Prop
 | f,[]=>∃ r,0<r∧∀ x,A≤x→x≤B→Big r (f x)
 | f,[g]=>Ch A B g []
 | f,g :: h :: l=>Row A B f g h∧Ch A B g (h :: l)
def sgs(l:List (Rat→Rat))(x:Rat):List Int:=l.map (fun f=>sg (f x))
def F4(f:Rat→Rat)(l:List (Rat→Rat))(b r s t:Rat):Prop :=
 (Big r (f s)→sg (f s)≠0∧sg (f t)=sg (f s)∧Rl (sg (f s)) (sgs l s) (sgs l t)) ∧
 (¬ Big r (f s)→∃ g l',l=g :: l'∧Big b (g s)∧sg (g s)≠0∧sg (g t)=sg (g s)∧Rl (sg (g s)) (sgs l' s) (sgs l' t))
def St(A B:Rat)(f:Rat→Rat)(l:List (Rat→Rat)):Prop :=
 ∃ b,0<b∧∃ r0,0<r0∧∀ r,0<r→r≤r0→∃ e,0<e∧∀ s t,A≤s→s≤t→t≤B→t-s≤e→F4 f l b r s t
theorem dt{K r:Rat}(hK:0≤K)(hr:0<r):∃ e,0<e∧∀ d,d≤e→K*d<r:=by
 refine ⟨r / (K+1),zy hr (by grind),fun d hd=>?_⟩;have h1:=eL hd hK;have h2:r / (K+1)*(K+1)=r:=aQ (by grind);have h3:=zy hr (show 0<K+1 by grind);grind
theorem dD{a b:Rat}(ha:0<a)(hb:0<b):∃ c,0<c∧c≤a∧c≤b:=by
 rcases tot a b with h|h
 ·exact ⟨a,ha,Rat.le_refl,h⟩
 ·exact ⟨b,hb,h,Rat.le_refl⟩
theorem ur{A B b r s c d Q:Rat}{f g h q:Rat→Rat}(hc:0<c)(hd:0<d)(hQ:0≤Q)(hq:On A B Q q)(he:∀ x,c*f x+d*h x=q x*g x)(h1:A≤s)(h2:s≤B)(hg:¬ Big r (g s))(hr:Q*r*4≤d*b)(hb0:0<b)(hb:Big b (h s)) :
  (f s<0∧0<h s∧d*b*3≤-(c*f s)*4)∨(0<f s∧h s<0∧d*b*3≤c*f s*4):=by
 obtain ⟨g1,g2⟩:=kL hg;obtain ⟨k1,k2⟩:=(hq s h1 h2).mul (show Bd r (g s) from ⟨by grind,by grind⟩);have e:=he s;have hdb:=Aw hd hb0;rcases hb with h3|h3
 ·left
  have h4:=eL h3 (Rat.le_of_lt hd);have h5:c*f s<0:=by grind
  refine ⟨?_,by grind,by grind⟩;rcases tri (f s) 0 with h6|h6|h6
  ·exact h6
  ·rw [h6] at h5;grind
  ·have:=Aw hc h6;grind
 ·right
  have h4:=eL (show b≤-h s by grind) (Rat.le_of_lt hd);have h5:0<c*f s:=by grind
  refine ⟨?_,by grind,by grind⟩;rcases tri (f s) 0 with h6|h6|h6
  ·have:=Aw hc (show 0 < -f s by grind);grind
  ·rw [h6] at h5;grind
  ·exact h6
theorem Fu{A B:Rat}:∀ (l:List (Rat→Rat)) (f:Rat→Rat),Ch A B f l→(∃ K,0≤K∧Lip A B K f)→(∀ g ∈ l,∃ K,0≤K∧Lip A B K g)→St A B f l:=by
 intro l;induction l with
 | nil =>
  intro f ⟨d,hd,hb⟩ ⟨K,hK,hL⟩ _;refine ⟨1,dZ,d,hd,fun r hr hrd=>?_⟩;obtain ⟨e,he,h⟩:=dt hK hr;refine ⟨e,he,fun s t h1 h2 h3 h4=>⟨fun h5=>?_,fun h5=>?_⟩⟩
  ·obtain ⟨g1,g2⟩:=h5.sign hL h1 h2 h3 (h _ h4);exact ⟨g2,g1,Rl.nil _⟩
  ·refine absurd ?_ h5;rcases hb s h1 (by grind) with h6|h6
   ·exact Or.inl (by grind)
   ·exact Or.inr (by grind)
 | cons g l ih =>
  intro f hc ⟨K,hK,hL⟩ hl;have hg:Ch A B g l:=by
   cases l with
   | nil=>exact hc
   | cons h l=>exact hc.2
  obtain ⟨b,hb,r0,hr0,hst⟩:=ih g hg (hl g List.mem_cons_self) (fun x hx=>hl x (List.mem_cons_of_mem _ hx))
  -- the threshold of g and that of f
  obtain ⟨rg,hrg,hrg0,rf,hrf,hsm⟩:∃ rg,0<rg∧rg≤r0∧∃ rf,0<rf∧∀ s,A≤s→s≤B→∀ h l',l=h :: l'→¬ Big rg (g s)→Big b (h s)→sg (h s)=-sg (f s)∧sg (f s)≠0∧Big rf (f s):=by
   cases l with
   | nil=>exact ⟨r0,hr0,Rat.le_refl,1,dZ,fun s _ _ h l' e=>by cases e⟩
   | cons h l =>
    obtain ⟨⟨c,d,Q,hc,hd,hQ,q,hq,he⟩,-⟩:=hc;obtain ⟨e,he0,hee⟩:=dt (K:=Q*4) (r:=d*b) (by grind) (Aw hd hb);obtain ⟨rg,h1,h2,h3⟩:=dD hr0 he0;have hp:=zy (Aw hd hb) (show 0<2*c by grind);refine ⟨rg,h1,h2,d*b / (2*c),hp,fun s k1 k2 h' l' e k3 k4=>?_⟩;cases e;have hr4:=hee rg h3;rcases ur hc hd hQ hq he k1 k2 k3 (by grind) hb k4 with ⟨m1,m2,m3⟩|⟨m1,m2,m3⟩
    ·rw [dI m2,cP m1];refine ⟨rfl,dZ,Or.inr ?_⟩;have:=thr (x:=-f s) hc (Aw hd hb) (by grind);grind
    ·rw [cP m2,dI m1];exact ⟨rfl,dZ,Or.inl (thr hc (Aw hd hb) m3)⟩
  obtain ⟨eg,heg,hcell⟩:=hst rg hrg hrg0;refine ⟨rg,hrg,rf,hrf,fun r hr hrf'=>?_⟩;obtain ⟨ef,hef,hstep⟩:=dt hK hr;obtain ⟨e,he,he1,he2⟩:=dD heg hef;refine ⟨e,he,fun s t h1 h2 h3 h4=>?_⟩;have hg:=hcell s t h1 h2 h3 (by grind);refine ⟨fun h5=>?_,fun h5=>?_⟩
  ·obtain ⟨g1,g2⟩:=h5.sign hL h1 h2 h3 (hstep _ (by grind));refine ⟨g2,g1,?_⟩;by_cases hb':Big rg (g s)
   ·obtain ⟨k1,k2,k3⟩:=hg.1 hb';show Rl _ (sg (g s) :: sgs l s) (sg (g t) :: sgs l t);rw [k2];exact Rl.big k1 k3
   ·obtain ⟨h,l',rfl,k1,k2,k3,k4⟩:=hg.2 hb';obtain ⟨m1,m2,m3⟩:=hsm s h1 (by grind) h l' rfl hb' k1;show Rl _ (sg (g s) :: sg (h s) :: sgs l' s) (sg (g t) :: sg (h t) :: sgs l' t);rw [k3];exact Rl.small g2 m1 (mG _) (mG _) (mG _) k4
  ·refine ⟨g,l,rfl,?_⟩;by_cases hb':Big rg (g s)
   ·obtain ⟨k1,k2,k3⟩:=hg.1 hb';exact ⟨hb',k1,k2,k3⟩
   ·obtain ⟨h,l',rfl,k1,k2,k3,k4⟩:=hg.2 hb';obtain ⟨m1,m2,m3⟩:=hsm s h1 (by grind) h l' rfl hb' k1;refine absurd ?_ h5;rcases m3 with m|m
    ·exact Or.inl (by grind)
    ·exact Or.inr (by grind)
def V(f:Rat→Rat)(l:List (Rat→Rat))(x:Rat):Nat:=vr 0 (sgs (f :: l) x)
theorem gG{x:Int}{a:List Int}(h:x≠0):vr 0 (x :: a)=vr x a:=by simp [vr,h]
theorem qp{a:List Int}:vr 0 (0 :: a)=vr 0 a:=by simp [vr]
def EB(A B:Rat)(f g:Rat→Rat):Prop:=∃ k K,0<k∧0≤K∧∀ s t,A≤s→s≤t→t≤B→Bd (K*(t-s)*(t-s)) (f t-f s-k*g s*(t-s))
def dh(f:Rat→Rat)(s t:Rat):Nat:=if sg (f s)≠0∧sg (f t)≠sg (f s) then 1 else 0
theorem sy{A B:Rat}{f:Rat→Rat}{l:List (Rat→Rat)}(hc:Ch A B f l)(hf:∃ K,0≤K∧Lip A B K f)(hl:∀ g ∈ l,∃ K,0≤K∧Lip A B K g)(hs:∀ g l',l=g :: l'→EB A B f g) :
  ∃ e,0<e∧∀ s t,A≤s→s<t→t≤B→t-s≤e→V f l s=V f l t+dh f s t∧(f s=0→f t≠0):=by
 obtain ⟨b,hb,r0,hr0,hst⟩:=Fu l f hc hf hl;obtain ⟨e1,he1,hcell⟩:=hst r0 hr0 Rat.le_refl;obtain ⟨e2,he2,hsl⟩:∃ e2,0<e2∧∀ g l',l=g :: l'→∀ s t,A≤s→s<t→t≤B→t-s≤e2→(b≤g s→f s<f t)∧(g s≤-b→f t<f s):=by
  cases l with
  | nil=>exact ⟨1,dZ,fun g l' e=>by cases e⟩
  | cons g l =>
   obtain ⟨k,K,hk,hK,h⟩:=hs g l rfl;obtain ⟨e,he,h2⟩:=dt hK (Aw hk hb);refine ⟨e,he,fun g' l' ee s t h3 h4 h5 h6=>?_⟩;cases ee;obtain ⟨m1,m2⟩:=h s t h3 (by grind) h5;have h7:=jc (h2 _ h6) (show 0<t-s by grind);refine ⟨fun h8=>?_,fun h8=>?_⟩
   ·have h9:=il (eL h8 (Rat.le_of_lt hk)) (show 0≤t-s by grind);grind
   ·have h9:=il (eL h8 (Rat.le_of_lt hk)) (show 0≤t-s by grind);grind
 obtain ⟨e,he,hm1,hm2⟩:=dD he1 he2;refine ⟨e,he,fun s t h1 h2 h3 h4=>?_⟩;obtain ⟨c1,c2⟩:=hcell s t h1 (by grind) h3 (by grind);by_cases h5:Big r0 (f s)
 ·obtain ⟨k1,k2,k3⟩:=c1 h5;refine ⟨?_,fun h=>absurd (eV.2 h) k1⟩;unfold V dh;show vr 0 (sg (f s) :: sgs l s)=vr 0 (sg (f t) :: sgs l t)+_;rw [k2,gG k1,gG k1,k3.vr,if_neg (by simp)];rfl
 ·obtain ⟨g,l',rfl,k1,k2,k3,k4⟩:=c2 h5;obtain ⟨s1,s2⟩:=hsl g l' rfl s t h1 h2 h3 (by grind);have e0:V f (g :: l') s=(if sg (f s)≠0∧sg (g s)≠sg (f s) then 1 else 0)+vr (sg (g s)) (sgs l' s):=by
   show vr 0 (sg (f s) :: sg (g s) :: sgs l' s)=_;by_cases h0:sg (f s)=0
   ·rw [h0,qp,gG k2];simp
   ·rw [gG h0];simp [vr,k2,h0]
  have e1:V f (g :: l') t=(if sg (f t)≠0∧sg (g s)≠sg (f t) then 1 else 0)+vr (sg (g s)) (sgs l' s):=by
   show vr 0 (sg (f t) :: sg (g t) :: sgs l' t)=_;rw [k3,k4.vr];by_cases h0:sg (f t)=0
   ·rw [h0,qp,gG k2];simp
   ·rw [gG h0];simp [vr,k2,h0]
  rw [e0,e1];unfold dh;rcases k1 with k|k
  ·have hlt:=s1 k;rw [dI (show 0<g s by grind)];clear hc hf hl hs hst hcell hsl c1 c2 k3 k4 s1 s2 e0 e1;rcases bR (f s) with ⟨a1,a2⟩|⟨a1,a2⟩|⟨a1,a2⟩ <;> rcases bR (f t) with ⟨b1,b2⟩|⟨b1,b2⟩|⟨b1,b2⟩ <;> rw [a2,b2] <;> first|(exfalso;grind)|(refine ⟨by simp <;> omega,?_⟩;grind)
  ·have hlt:=s2 k;rw [cP (show g s<0 by grind)];clear hc hf hl hs hst hcell hsl c1 c2 k3 k4 s1 s2 e0 e1;rcases bR (f s) with ⟨a1,a2⟩|⟨a1,a2⟩|⟨a1,a2⟩ <;> rcases bR (f t) with ⟨b1,b2⟩|⟨b1,b2⟩|⟨b1,b2⟩ <;> rw [a2,b2] <;> first|(exfalso;grind)|(refine ⟨by simp <;> omega,?_⟩;grind)
theorem fN{A B e:Rat}{P:Rat→Rat→Prop}(he:0<e)(h1:∀ s t,A≤s→s<t→t≤B→t-s≤e→P s t)(h2:∀ s t u,A≤s→s<t→t<u→u≤B→P s t→P t u→P s u):∀ s t,A≤s→s<t→t≤B→P s t:=by
  have key:∀ n:Nat,∀ s t,A≤s→s<t→t≤B→t-s≤(n:Rat)*e→P s t:=by
    intro n;induction n with
    | zero => intro s t a b c d; exfalso; have : ((0 : Nat) : Rat) * e = 0 := by rw [show ((0 : Nat) : Rat) = 0 from rfl]; grind
              grind
    | succ n ih =>
      intro s t a b c d;rcases tot (t-s) e with h|h
      · exact h1 s t a b c h
      · by_cases hq:t-s=e
        · exact h1 s t a b c (by grind)
        · have e1:((n+1:Nat):Rat)*e=(n:Rat)*e+e:=by rw [Rat.natCast_add,show ((1:Nat):Rat)=1 from rfl];grind
          exact h2 s (s+e) t a (by grind) (by grind) c (h1 s (s+e) a (by grind) (by grind) (by grind)) (ih (s+e) t (by grind) (by grind) c (by grind))
  intro s t a b c;have hx:0<(t-s) / e:=zy (by grind) he;obtain ⟨n,hn⟩:∃ n:Nat,(t-s) / e≤(n:Rat):=by
    have h3:=Rat.lt_floor_add_one ((t-s) / e);refine ⟨((t-s) / e).floor.toNat+1,?_⟩;have h4:(((t-s) / e).floor+1:Int)≤((((t-s) / e).floor.toNat+1:Nat):Int):=zo;have h5:=Rat.intCast_le_intCast.2 h4;rw [Rat.intCast_natCast] at h5;grind
  refine key n s t a b c ?_;have h8:=il hn (Rat.le_of_lt he);rw [aQ (by grind)] at h8;exact h8
theorem Cj(p:List Rat)(A B:Rat):∃ M,0≤M∧On A B M (evV p):=by
 obtain ⟨R,hR,hb⟩:=fQ (A:=A) (B:=B) (x:=0);induction p with
 | nil=>exact ⟨0,Rat.le_refl,fun x _ _=>⟨by show -0≤(0:Rat);decide,by show (0:Rat)≤0;decide⟩⟩
 | cons c p ih =>
  obtain ⟨M,hM,h⟩:=ih;obtain ⟨N,hN,k⟩:=Bd.ex c;exact ⟨M*R+N,by have:=yA hM hR;grind,fun x h1 h2=>((h x h1 h2).mul (hb x h1 h2)).add k⟩
theorem rL(p:List Rat)(A B:Rat):∃ K,0≤K∧Lip A B K (evV p):=by
 obtain ⟨R,hR,hb⟩:=fQ (A:=A) (B:=B) (x:=0);induction p with
 | nil=>exact ⟨0,Rat.le_refl,fun s t _ h _=>⟨by show -(0*(t-s))≤(0:Rat)-0;grind,by show (0:Rat)-0≤0*(t-s);grind⟩⟩
 | cons c p ih =>
  obtain ⟨K,hK,h⟩:=ih;obtain ⟨M,hM,k⟩:=Cj p A B;refine ⟨K*R+M,by have:=yA hK hR;grind,fun s t h1 h2 h3=>?_⟩;have a:=(h s t h1 h2 h3).mul (hb t (by grind) h3);have b:=(k s h1 (by grind)).mul (Bd.self (show 0≤t-s by grind));have e:evV (c :: p) t-evV (c :: p) s=(evV p t-evV p s)*t+evV p s*(t-s):=by
   show evV p t*t+c-(evV p s*s+c)=_;grind
  rw [e,show (K*R+M)*(t-s)=K*(t-s)*R+M*(t-s) by grind];exact a.add b
def evD:List Rat→Rat→Rat
 | [],_=>0
 | _ :: p,x=>evD p x*x+evV p x
theorem D0(p:List Rat)(A B:Rat):∃ M,0≤M∧On A B M (evD p):=by
 obtain ⟨R,hR,hb⟩:=fQ (A:=A) (B:=B) (x:=0);induction p with
 | nil=>exact ⟨0,Rat.le_refl,fun x _ _=>⟨by show -0≤(0:Rat);decide,by show (0:Rat)≤0;decide⟩⟩
 | cons c p ih =>
  obtain ⟨M,hM,h⟩:=ih;obtain ⟨N,hN,k⟩:=Cj p A B;exact ⟨M*R+N,by have:=yA hM hR;grind,fun x h1 h2=>((h x h1 h2).mul (hb x h1 h2)).add (k x h1 h2)⟩
theorem rK(p:List Rat)(A B:Rat):∃ K,0≤K∧∀ s t,A≤s→s≤t→t≤B→Bd (K*(t-s)*(t-s)) (evV p t-evV p s-evD p s*(t-s)):=by
 obtain ⟨R,hR,hb⟩:=fQ (A:=A) (B:=B) (x:=0);induction p with
 | nil=>exact ⟨0,Rat.le_refl,fun s t _ h _=>⟨by show -(0*(t-s)*(t-s))≤(0:Rat)-0-0*(t-s);grind,by show (0:Rat)-0-0*(t-s)≤0*(t-s)*(t-s);grind⟩⟩
 | cons c p ih =>
  obtain ⟨K,hK,h⟩:=ih;obtain ⟨M,hM,k⟩:=D0 p A B;refine ⟨K*R+M,by have:=yA hK hR;grind,fun s t h1 h2 h3=>?_⟩;have a:=(h s t h1 h2 h3).mul (hb t (by grind) h3);have h0:0≤t-s:=by grind
  have b:=((k s h1 (by grind)).mul (Bd.self h0)).mul (Bd.self h0);have e:evV (c :: p) t-evV (c :: p) s-evD (c :: p) s*(t-s)=(evV p t-evV p s-evD p s*(t-s))*t+evD p s*(t-s)*(t-s):=by
   show evV p t*t+c-(evV p s*s+c)-(evD p s*s+evV p s)*(t-s)=_;grind
  rw [e,show (K*R+M)*(t-s)*(t-s)=K*(t-s)*(t-s)*R+M*(t-s)*(t-s) by grind];exact a.add b
structure Fit (A B:Rat) (f:Rat→Rat) (l:List (Rat→Rat)):Prop where
 ch:Ch A B f l
 lf:∃ K,0≤K∧Lip A B K f
 ll:∀ g ∈ l,∃ K,0≤K∧Lip A B K g
 sl:∀ g l',l=g :: l'→EB A B f g
theorem Fit.cell{A B:Rat}{f:Rat→Rat}{l:List (Rat→Rat)}(h:Fit A B f l):∃ e,0<e∧∀ s t,A≤s→s<t→t≤B→t-s≤e→V f l s=V f l t+dh f s t∧(f s=0→f t≠0):=sy h.ch h.lf h.ll h.sl
theorem Fit.mono{A B:Rat}{f:Rat→Rat}{l:List (Rat→Rat)}(h:Fit A B f l):∀ s t,A≤s→s<t→t≤B→V f l t≤V f l s:=by
 obtain ⟨e,he,hc⟩:=h.cell;refine fN he (fun s t h1 h2 h3 h4=>?_) (fun s t u _ _ _ _ h1 h2=>by omega);have:=(hc s t h1 h2 h3 h4).1;omega
theorem Fit.same{A B:Rat}{f:Rat→Rat}{l:List (Rat→Rat)}(h:Fit A B f l)(hV:V f l A=V f l B):∀ s t,A≤s→s<t→t≤B→(f s≠0→sg (f t)=sg (f s))∧(f s=0→f t≠0):=by
 obtain ⟨e,he,hc⟩:=h.cell;have hm:=h.mono;refine fN he (fun s t h1 h2 h3 h4=>?_) (fun s t u _ _ _ _ h1 h2=>?_)
 ·obtain ⟨k1,k2⟩:=hc s t h1 h2 h3 h4;refine ⟨fun h5=>?_,k2⟩;have m1:V f l s≤V f l A:=by
   rcases (Rat.le_iff_lt_or_eq.1 h1) with h6|h6
   ·exact hm A s Rat.le_refl h6 (by grind)
   ·rw [h6];exact nXe _
  have m2:V f l B≤V f l t:=by
   rcases (Rat.le_iff_lt_or_eq.1 h3) with h6|h6
   ·exact hm t B (by grind) h6 Rat.le_refl
   ·rw [h6];exact nXe _
  have h0:dh f s t=0:=by omega
  unfold dh at h0;apply Classical.byContradiction;intro hn;rw [if_pos ⟨fun h=>h5 (eV.1 h),hn⟩] at h0;omega
 ·refine ⟨fun h5=>?_,fun h5=>?_⟩
  ·have h6:=h1.1 h5;have h7:f t≠0:=fun h8=>h5 (eV.1 (by rw [←h6];exact eV.2 h8))
   rw [h2.1 h7,h6]
  ·have h7:=h1.2 h5;intro h8;have h9:=h2.1 h7;exact h7 (eV.1 (by rw [←h9];exact eV.2 h8))
theorem Fit.calm{A B:Rat}{f:Rat→Rat}{l:List (Rat→Rat)}(h:Fit A B f l){x y:Rat}(hx:A≤x)(hxy:x<y)(hy:y≤B)(hs:∀ s t,x≤s→s<t→t≤y→f s≠0→sg (f t)=sg (f s)):V f l x=V f l y:=by
 obtain ⟨e,he,hc⟩:=h.cell;refine fN (A:=x) (B:=y) (P:=fun s t=>V f l s=V f l t) he (fun s t h1 h2 h3 h4=>?_) (fun s t u _ _ _ _ h1 h2=>h1.trans h2) x y Rat.le_refl hxy Rat.le_refl;rw [(hc s t (by grind) h2 (by grind) h4).1];unfold dh;rw [if_neg (fun h5=>h5.2 (hs s t h1 h2 h3 (fun h=>h5.1 (eV.2 h))))];rfl
open Go.RowKit Go.Front Go.Num Go.Stab Go.Proofs.YtkcpmclnocmalaaGreat
theorem vT{r a b:List Rat}{c:Rat}(h:∀ i,seq r i=c*seq a i+seq b i)(x:Rat):evV r x=c*evV a x+evV b x:=by
 obtain ⟨N,h1,h2,h3⟩:∃ N,r.length≤N∧a.length≤N∧b.length≤N:=⟨r.length+a.length+b.length,zo,zo,zo⟩;rw [oK h1,oK h2,oK h3,←ik,←nU];exact sm_congr (fun i _=>by rw [h];grind)
theorem kv(r:List Rat):seq (0 :: r)=sh (seq r):=by funext n;cases n <;> rfl
theorem Fm(p:List Rat){q r:List Rat}(h:∀ n,seq r n=cv (seq p) (seq q) n)(x:Rat):evV r x=evV p x*evV q x:=by
 induction p generalizing r with
 | nil =>
  have e:evV r x=0*evV [] x:=ji (fun i=>by rw [h i,←iJ];show (0:Rat)=0*_;grind) x;rw [e];show (0:Rat)*_=(0:Rat)*_;grind
 | cons c p ih =>
  have e1:evV (aO p q) x=evV p x*evV q x:=ih (fun n=>by rw [dY,iJ]);have e2:evV r x=c*evV q x+evV (0 :: aO p q) x:=vT (fun i=>by
   rw [h i,←iJ,kv,dY];rfl) x
  rw [e2,iG,e1,iG];grind
theorem ev_mul5(p q:List Rat)(x:Rat):evV (aO p q) x=evV p x*evV q x:=Fm p (fun n=>by rw [dY,iJ]) x
theorem fJ(p q:List Rat)(n:Nat):seq (cY p q) n=seq p n+seq q n:=by
 unfold cY;rw [bA];show ((List.range (max p.length q.length)).map (fun i=>p.getD i 0+q.getD i 0)).getD n 0=p.getD n 0+q.getD n 0;rw [dB];split
 ·rfl
 ·rw [bu (l:=p) zo,bu (l:=q) zo];exact (Rat.add_zero 0).symm
theorem ev_add5(p q:List Rat)(x:Rat):evV (cY p q) x=evV p x+evV q x:=by
 have:=vT (r:=cY p q) (a:=p) (b:=q) (c:=1) (fun i=>by rw [fJ];grind) x;rw [this];grind
theorem ev_map(p:List Rat)(c x:Rat):evV (p.map (·*c)) x=c*evV p x:=ji (fun i=>by rw [bB];grind) x
def Pf(f:Rat→Rat):Prop:=∃ p,f=evV p
theorem Pf.ev(p:List Rat):Pf (evV p):=⟨p,rfl⟩
theorem Pf.const(c:Rat):Pf (fun _=>c):=⟨[c],funext fun x=>by show c=0*x+c;grind⟩
theorem Pf.add{f g:Rat→Rat}(hf:Pf f)(hg:Pf g):Pf (fun x=>f x+g x):=by
 obtain ⟨p,rfl⟩:=hf;obtain ⟨q,rfl⟩:=hg;exact ⟨cY p q,funext fun x=>(ev_add5 p q x).symm⟩
theorem Pf.mul{f g:Rat→Rat}(hf:Pf f)(hg:Pf g):Pf (fun x=>f x*g x):=by
 obtain ⟨p,rfl⟩:=hf;obtain ⟨q,rfl⟩:=hg;exact ⟨aO p q,funext fun x=>(ev_mul5 p q x).symm⟩
theorem Pf.smul{f:Rat→Rat}(c:Rat)(hf:Pf f):Pf (fun x=>c*f x):=(Pf.const c).mul hf
theorem Pf.sub{f g:Rat→Rat}(hf:Pf f)(hg:Pf g):Pf (fun x=>f x-g x):=by
 have h:=hf.add (hg.smul (-1));have e:(fun x=>f x-g x)=(fun x=>f x+-1*g x):=funext fun x=>by grind
 rw [e];exact h
theorem Pf.lip{f:Rat→Rat}(h:Pf f)(A B:Rat):∃ K,0≤K∧Lip A B K f:=by obtain ⟨p,rfl⟩:=h;exact rL p A B
theorem Pf.on{f:Rat→Rat}(h:Pf f)(A B:Rat):∃ K,0≤K∧On A B K f:=by obtain ⟨p,rfl⟩:=h;exact Cj p A B
theorem rB{K v:Rat}(hK:0≤K)(h:∀ d,0<d→d≤1→v≤K*d):v≤0:=by
 apply Classical.byContradiction;intro hn;obtain ⟨e,he,h1⟩:=dt hK (show 0<v by grind);obtain ⟨d,hd,h2,h3⟩:=dD he (show (0:Rat)<1 by decide);have h4:=h1 d h2;have h5:=h d hd h3;grind
theorem pR(p:List Rat)(h:∀ x,evV p x=0):∀ i,seq p i=0:=by
 induction p with
 | nil=>intro i;rfl
 | cons c p ih =>
  have hc:c=0:=by have:=h 0;rw [iG] at this;grind
  have h1:∀ x,x≠0→evV p x=0:=fun x hx=>by
   have h2:=h x;rw [iG,hc] at h2;have h3:evV p x*x=0:=by grind
   rcases nXr.1 h3 with h4|h4
   ·exact h4
   ·exact absurd h4 hx
  have h0:evV p 0=0:=by
   obtain ⟨K,hK,hL⟩:=rL p 0 1;have a1:=rB (v:=evV p 0) hK (fun d hd h2=>by
    have h3:=(hL 0 d Rat.le_refl (by grind) h2).1;rw [h1 d (by grind)] at h3;grind)
   have a2:=rB (v:=-evV p 0) hK (fun d hd h2=>by
    have h3:=(hL 0 d Rat.le_refl (by grind) h2).2;rw [h1 d (by grind)] at h3;grind)
   grind
  have h2:=ih (fun x=>by
   by_cases hx:x=0
   ·rw [hx];exact h0
   ·exact h1 x hx)
  intro i;cases i with
  | zero=>exact hc
  | succ i=>exact h2 i
theorem ev_inj{p q:List Rat}(h:∀ x,evV p x=evV q x):∀ i,seq p i=seq q i:=by
 have h1:=pR (cY p (q.map (·*-1))) (fun x=>by rw [ev_add5,ev_map,h x];grind);intro i;have:=h1 i;rw [fJ,bB] at this;grind
theorem aD{p:List Rat}:tz p=[]↔∀ x,evV p x=0:=by
 constructor
 ·intro h x;rw [←DY,h];rfl
 ·intro h;have:=lZ (a:=p) (b:=[]) (fun i=>by rw [pR p h i];rfl);exact this
theorem Fs{p q:List Rat}(hp:tz p≠[])(hq:tz q≠[]):∃ n,cv (seq p) (seq q) n≠0:=by
 obtain ⟨a,ha⟩:∃ a,(tz p).length=a+1:=⟨(tz p).length-1,by have:=nYh.2 hp;omega⟩;obtain ⟨b,hb⟩:∃ b,(tz q).length=b+1:=⟨(tz q).length-1,by have:=nYh.2 hq;omega⟩;refine ⟨a+b,?_⟩;rw [←bA p,←bA q,oP (by rw [←ha];exact Bd.seq _) (by rw [←hb];exact Bd.seq _)];intro h;have h1:=ci hp;have h2:=ci hq;unfold bL at h1 h2;rw [ha,Nat.add_sub_cancel] at h1;rw [hb,Nat.add_sub_cancel] at h2;rcases nXr.1 h with h3|h3
 ·exact h1 h3
 ·exact h2 h3
theorem Ar{f g:Rat→Rat}(hf:Pf f)(hg:Pf g)(h:∀ x,f x*g x=0)(h0:∃ x,f x≠0):∀ x,g x=0:=by
 obtain ⟨p,rfl⟩:=hf;obtain ⟨q,rfl⟩:=hg;obtain ⟨y,hy⟩:=h0;have hp:tz p≠[]:=fun h=>hy (aD.1 h y)
 by_cases hq:tz q=[]
 ·exact aD.1 hq
 ·exfalso;obtain ⟨n,hn⟩:=Fs hp hq;have h1:=pR (aO p q) (fun x=>by rw [ev_mul5];exact h x) n;rw [dY,iJ] at h1;exact hn h1
theorem eJ{f g h:Rat→Rat}(hf:Pf f)(hg:Pf g)(hh:Pf h)(he:∀ x,f x*g x=f x*h x)(h0:∃ x,f x≠0):∀ x,g x=h x:=fun x=>by
 have:=Ar hf (hg.sub hh) (fun x=>by have:=he x;grind) h0 x;grind
def Dv(a b:Rat→Rat):Prop:=∃ c,Pf c∧∀ x,b x=a x*c x
def Cp(a b:Rat→Rat):Prop:=∃ u v,Pf u∧Pf v∧∀ x,u x*a x+v x*b x=1
theorem Dv.trans{a b c:Rat→Rat}(h:Dv a b)(k:Dv b c):Dv a c:=by
 obtain ⟨u,hu,h1⟩:=h;obtain ⟨v,hv,h2⟩:=k;exact ⟨_,hu.mul hv,fun x=>by rw [h2,h1];grind⟩
theorem Dv.add{a b c:Rat→Rat}(h:Dv a b)(k:Dv a c):Dv a (fun x=>b x+c x):=by
 obtain ⟨u,hu,h1⟩:=h;obtain ⟨v,hv,h2⟩:=k;exact ⟨_,hu.add hv,fun x=>by show b x+c x=_;rw [h2,h1];grind⟩
theorem Dv.sub{a b c:Rat→Rat}(h:Dv a b)(k:Dv a c):Dv a (fun x=>b x-c x):=by
 obtain ⟨u,hu,h1⟩:=h;obtain ⟨v,hv,h2⟩:=k;exact ⟨_,hu.sub hv,fun x=>by show b x-c x=_;rw [h2,h1];grind⟩
theorem Dv.mulr{a b c:Rat→Rat}(h:Dv a b)(k:Pf c):Dv a (fun x=>b x*c x):=by
 obtain ⟨u,hu,h1⟩:=h;exact ⟨_,hu.mul k,fun x=>by show b x*c x=_;rw [h1];grind⟩
theorem Dv.mull{a b c:Rat→Rat}(h:Dv a b)(k:Pf c):Dv a (fun x=>c x*b x):=by
 obtain ⟨u,hu,h1⟩:=h;exact ⟨_,hu.mul k,fun x=>by show c x*b x=_;rw [h1];grind⟩
theorem Cp.dv{a b c:Rat→Rat}(h:Cp a b)(hc:Pf c)(k:Dv a (fun x=>b x*c x)):Dv a c:=by
 obtain ⟨u,v,hu,hv,h1⟩:=h;obtain ⟨d,hd,h2⟩:=k;exact ⟨_,(hu.mul hc).add (hv.mul hd),fun x=>by
  have e1:=h1 x;have e2:b x*c x=a x*d x:=h2 x;have e3:(u x*a x+v x*b x)*c x=c x:=by rw [e1];grind
  have e4:v x*(b x*c x)=v x*(a x*d x):=by rw [e2]
  show c x=a x*((u x*c x)+v x*d x);grind⟩
theorem Cp.dvl{a b c:Rat→Rat}(h:Cp a b)(hc:Pf c)(k:Dv a (fun x=>c x*b x)):Dv a c:=h.dv hc (by
 obtain ⟨d,hd,h2⟩:=k;exact ⟨d,hd,fun x=>by rw [←h2];grind⟩)
def IsD(f g:Rat→Rat):Prop:=∀ A B,∃ K,0≤K∧∀ s t,A≤s→s≤t→t≤B→Bd (K*(t-s)*(t-s)) (f t-f s-g s*(t-s))
theorem IsD.ev(p:List Rat):IsD (evV p) (evD p):=fun A B=>rK p A B
theorem IsD.const(c:Rat):IsD (fun _=>c) (fun _=>0):=fun A B=>⟨0,Rat.le_refl,fun s t _ _ _=>⟨by grind,by grind⟩⟩
theorem IsD.uniq{f g h:Rat→Rat}(a:IsD f g)(b:IsD f h)(x:Rat):g x=h x:=by
 obtain ⟨K,hK,h1⟩:=a x (x+1);obtain ⟨L,hL,h2⟩:=b x (x+1);have key:∀ d,0<d→d≤1→g x-h x≤(K+L)*d∧h x-g x≤(K+L)*d:=fun d hd h3=>by
  obtain ⟨e1,e2⟩:=h1 x (x+d) Rat.le_refl (by grind) (by grind);obtain ⟨e3,e4⟩:=h2 x (x+d) Rat.le_refl (by grind) (by grind);rw [show x+d-x=d by grind] at e1 e2 e3 e4;have cancel:∀ u v:Rat,u*d≤v*d→u≤v:=fun u v h=>by
   apply Classical.byContradiction;intro hn;have:=jc (show v<u by grind) hd;grind
  exact ⟨cancel _ _ (by grind),cancel _ _ (by grind)⟩
 have a1:=rB (v:=g x-h x) (K:=K+L) (by grind) (fun d h1 h2=>(key d h1 h2).1);have a2:=rB (v:=h x-g x) (K:=K+L) (by grind) (fun d h1 h2=>(key d h1 h2).2);grind
theorem IsD.mul{f g f' g':Rat→Rat}(a:IsD f f')(b:IsD g g')(hf:Pf f)(hg:Pf g)(hf':Pf f'):IsD (fun x=>f x*g x) (fun x=>f' x*g x+f x*g' x):=by
 intro A B;obtain ⟨K,hK,h1⟩:=a A B;obtain ⟨L,hL,h2⟩:=b A B;obtain ⟨M,hM,h3⟩:=hf.on A B;obtain ⟨N,hN,h4⟩:=hg.on A B;obtain ⟨P,hP,h5⟩:=hf'.on A B;obtain ⟨Q,hQ,h6⟩:=hg.lip A B;refine ⟨K*N+P*Q+M*L,by have:=yA hK hN;have:=yA hP hQ;have:=yA hM hL;grind,fun s t k1 k2 k3=>?_⟩;have h0:0≤t-s:=by grind
 have b1:=(h1 s t k1 k2 k3).mul (h4 t (by grind) k3);have b2:=((h5 s k1 (by grind)).mul (Bd.self h0)).mul (h6 s t k1 k2 k3);have b3:=(h3 s k1 (by grind)).mul (h2 s t k1 k2 k3);have e:=(b1.add b2).add b3;rw [show (K*N+P*Q+M*L)*(t-s)*(t-s)=K*(t-s)*(t-s)*N+P*(t-s)*(Q*(t-s))+M*(L*(t-s)*(t-s)) by grind,
  show f t*g t-f s*g s-(f' s*g s+f s*g' s)*(t-s)=(f t-f s-f' s*(t-s))*g t+f' s*(t-s)*(g t-g s)+f s*(g t-g s-g' s*(t-s)) by grind]
 exact e
def derL:List Rat→List Rat
 | []=>[]
 | _ :: p=>cY (0 :: derL p) p
theorem cW(p:List Rat)(x:Rat):evV (derL p) x=evD p x:=by
 induction p with
 | nil=>rfl
 | cons c p ih =>
  show evV (cY (0 :: derL p) p) x=evD p x*x+evV p x;rw [ev_add5,iG,ih];grind
theorem gM(p:List Rat)(n:Nat):seq (derL p) n=((n+1:Nat):Rat)*seq p (n+1):=by
 induction p generalizing n with
 | nil=>show (0:Rat)=_*(0:Rat);grind
 | cons c p ih =>
  show seq (cY (0 :: derL p) p) n=((n+1:Nat):Rat)*seq p n;rw [fJ,kv];cases n with
  | zero=>show (0:Rat)+seq p 0=((0+1:Nat):Rat)*seq p 0;rw [show ((0+1:Nat):Rat)=1 from rfl];grind
  | succ n =>
   show seq (derL p) n+seq p (n+1)=_;rw [ih,Rat.natCast_add (n+1) 1,show ((1:Nat):Rat)=1 from rfl];grind
theorem Pf.der(p:List Rat):Pf (evD p):=⟨derL p,funext fun x=>(cW p x).symm⟩
theorem kD{f:Rat→Rat}(h:Pf f):∃ g,Pf g∧IsD f g:=by obtain ⟨p,rfl⟩:=h;exact ⟨_,Pf.der p,IsD.ev p⟩
theorem oL{a p:List Rat}(h:Pr a p):∃ c:Rat,c≠0∧∀ x,evV a x=c*evV p x:=by
 obtain ⟨c,h1,h2⟩:=h;exact ⟨c,h1,fun x=>ji h2 x⟩
theorem jj(p:List Rat){q:List Rat}(h:tz q≠[])(x:Rat):evV p x=evV (bK p q) x*evV q x+evV (bX p q) x:=by
 have h1:=(dz p h).2.2.2;have h2:=vT (r:=p) (a:=aO (bK p q) q) (b:=bX p q) (c:=1) (fun i=>by rw [h1 i,dY,iJ];grind) x;rw [h2,ev_mul5];grind
def IsG(g a b:Rat→Rat):Prop:=Dv g a∧Dv g b∧∃ u v,Pf u∧Pf v∧∀ x,g x=u x*a x+v x*b x
theorem vO:∀ (f:Nat) (p q:List Rat),q.length≤f→tz q=q→IsG (evV (oH f p q)) (evV p) (evV q):=by
 have hbase:∀ p:List Rat,IsG (evV p) (evV p) (evV []):=fun p=>⟨⟨_,Pf.const 1,fun x=>by grind⟩,⟨_,Pf.const 0,fun x=>by show (0:Rat)=_*0;grind⟩,_,_,Pf.const 1,Pf.const 0,fun x=>by show _=1*_+0*(0:Rat);grind⟩
 intro f;induction f with
 | zero =>
  intro p q h ht;obtain rfl:q=[]:=nXj.1 zo;exact hbase p
 | succ f ih =>
  intro p q h ht;by_cases h0:q=[]
  ·subst h0;rw [gY];exact hbase p
  ·have hq:tz q≠[]:=by rw [ht];exact h0
   have h1:=(dz p hq).1;have h2:=fL (bX p q);have h3:=aj (bX p q);rw [ht] at h1;rw [gC h0];obtain ⟨g1,g2,u,v,hu,hv,g3⟩:=ih q (cI (bX p q)) zo (gu _);obtain ⟨c,hc,hm⟩:=oL (gv (bX p q));have hr:∀ x,evV (bX p q) x=c⁻¹*evV (cI (bX p q)) x:=fun x=>by
    have:=nYk c hc;rw [hm x];grind
   refine ⟨?_,g1,_,_,hv.smul c,hu.sub ((hv.smul c).mul (Pf.ev (bK p q))),fun x=>?_⟩
   ·have h4:=(g1.mull (Pf.ev (bK p q))).add (g2.mull (Pf.const c⁻¹));obtain ⟨d,hd,h5⟩:=h4;exact ⟨d,hd,fun x=>by rw [←h5 x,jj p hq x,hr x]⟩
   ·rw [g3 x,hm x,jj p hq x];grind
theorem dE(p q:List Rat):IsG (evV (aV p q)) (evV p) (evV q):=by
 obtain ⟨g1,g2,u,v,hu,hv,g3⟩:=vO (tz q).length (cI p) (cI q) (by rw [fL];exact nXe _) (gu q);obtain ⟨c,hc,h1⟩:=oL (gv p);obtain ⟨d,hd,h2⟩:=oL (gv q);have inv:∀ {c:Rat} {f g:Rat→Rat},c≠0→(∀ x,f x=c*g x)→∀ x,g x=c⁻¹*f x:=fun hc h x=>by
  have:=nYk _ hc;rw [h x];grind
 refine ⟨?_,?_,_,_,hu.smul c,hv.smul d,fun x=>?_⟩
 ·obtain ⟨e,he,h3⟩:=g1.mull (Pf.const c⁻¹);exact ⟨e,he,fun x=>(inv hc h1 x).trans (h3 x)⟩
 ·obtain ⟨e,he,h3⟩:=g2.mull (Pf.const d⁻¹);exact ⟨e,he,fun x=>(inv hd h2 x).trans (h3 x)⟩
 ·show evV (oH (tz q).length (cI p) (cI q)) x=_;rw [g3 x,h1,h2];grind
theorem gD{a b:List Rat}(h:Dv (evV a) (evV b))(hb:tz b≠[]):(tz a).length≤(tz b).length:=by
 obtain ⟨c,⟨p,rfl⟩,h1⟩:=h;have ha:tz a≠[]:=fun h=>hb (aD.2 fun x=>by rw [h1 x,aD.1 h x];grind)
 have hp:tz p≠[]:=fun h=>hb (aD.2 fun x=>by rw [h1 x,aD.1 h x];grind)
 obtain ⟨i,hi⟩:∃ a',(tz a).length=a'+1:=⟨(tz a).length-1,by have:=nYh.2 ha;omega⟩;obtain ⟨j,hj⟩:∃ b',(tz p).length=b'+1:=⟨(tz p).length-1,by have:=nYh.2 hp;omega⟩;have h2:=ev_inj (p:=b) (q:=aO a p) (fun x=>by rw [ev_mul5];exact h1 x) (i+j);rw [dY,iJ,←bA a,←bA p,oP (by rw [←hi];exact Bd.seq _) (by rw [←hj];exact Bd.seq _),←bA b] at h2;have k1:=ci ha;have k2:=ci hp;unfold bL at k1 k2;rw [hi,Nat.add_sub_cancel] at k1;rw [hj,Nat.add_sub_cancel] at k2;rcases Nat.lt_or_ge (i+j) (tz b).length with h3|h3
 ·omega
 ·exfalso;rw [Bd.seq (tz b) _ h3] at h2;rcases nXr.1 h2.symm with h4|h4
  ·exact k1 h4
  ·exact k2 h4
theorem fV{p:List Rat}(h:tz p≠[]):∃ n,(tz p).length=n+1∧seq p n≠0:=by
 obtain ⟨n,hn⟩:∃ n,(tz p).length=n+1:=⟨(tz p).length-1,by have:=nYh.2 h;omega⟩;exact ⟨n,hn,jT hn⟩
theorem Au{n:Nat}:((n+1:Nat):Rat)≠0:=fun h=>by
 have:n+1=0:=by exact_mod_cast h
 omega
theorem fP(p:List Rat)(n:Nat)(h:(tz p).length=n+1):(tz (derL p)).length≤n:=by
 rcases Nat.lt_or_ge n (tz (derL p)).length with h1|h1
 ·exfalso;have h2:tz (derL p)≠[]:=fun h=>by rw [h] at h1;simp at h1
  obtain ⟨k,h3,h4⟩:=fV h2;rw [gM] at h4;apply h4;rw [←bA p,Bd.seq (tz p) (k+1) zo];grind
 ·exact h1
theorem wy{p:List Rat}{n:Nat}(h:(tz p).length=n+2):tz (derL p)≠[]:=fun h0=>by
 have h1:seq (derL p) n=0:=by rw [←bA,h0];rfl
 rw [gM] at h1;have h2:seq p (n+1)≠0:=jT h;rcases nXr.1 h1 with h3|h3
 ·exact Au h3
 ·exact h2 h3
theorem gy{p:List Rat}(h:(tz p).length≤1):∀ x,evV p x=seq p 0:=fun x=>by
 rw [←DY,←bA p]
 match tz p,h with
 | [],_=>rfl
 | [c],_=>show 0*x+c=c;grind
theorem Bb{g p p' r q1:Rat→Rat}(hg:Pf g)(hr:Pf r)(hq:Pf q1)(h:IsG g p p')(h1:∀ x,p x=g x*r x)(h2:∀ x,p' x=g x*q1 x)(h0:∃ x,p x≠0):Cp r q1:=by
 obtain ⟨-,-,u,v,hu,hv,h3⟩:=h;refine ⟨u,v,hu,hv,fun x=>?_⟩;refine eJ (f:=g) (g:=fun x=>u x*r x+v x*q1 x) (h:=fun _=>1) hg ((hu.mul hr).add (hv.mul hq)) (Pf.const 1) (fun x=>?_) ?_ x
 ·have e:=h3 x;rw [h1,h2] at e;grind
 ·obtain ⟨y,hy⟩:=h0;exact ⟨y,fun h=>hy (by rw [h1,h];grind)⟩
theorem qD:∀ (n:Nat) (p:List Rat),(tz p).length≤n→tz p≠[]→∀ g r:Rat→Rat,Pf g→Pf r→IsG g (evV p) (evD p)→(∀ x,evV p x=g x*r x)→∀ r',Pf r'→IsD r r'→Cp r r':=by
 intro n;induction n with
 | zero=>intro p h h0;exact absurd (nXj.1 zo) h0
 | succ n ih =>
  intro p hn h0 g r hg hr hG h1 r' hr' hd;have hp0:∃ x,evV p x≠0:=Classical.byContradiction fun h=>h0 (aD.2 fun x=>Classical.byContradiction fun h2=>h ⟨x,h2⟩)
  obtain ⟨q1,hq1,h2⟩:=hG.2.1;have hcp:=Bb hg hr hq1 hG h1 h2 hp0;obtain ⟨gl,rfl⟩:=id hg;have hg0:tz gl≠[]:=fun h=>by
   obtain ⟨y,hy⟩:=hp0;exact hy (by rw [h1,aD.1 h y];grind)
  have hgx:∃ x,evV gl x≠0:=by
   obtain ⟨y,hy⟩:=hp0;exact ⟨y,fun h=>hy (by rw [h1,h];grind)⟩
  have hslope:∀ x,evD gl x*r x+evV gl x*r' x=evV gl x*q1 x:=fun x=>by
   have e:=(IsD.mul (IsD.ev gl) hd hg hr (Pf.der gl)).uniq (by
    have:=IsD.ev p;rw [show evV p=fun x=>evV gl x*r x from funext h1] at this;exact this) x
   rw [h2 x] at e;exact e
  rcases Nat.lt_or_ge 1 (tz gl).length with hl|hl
  ·-- g is not a constant
   obtain ⟨k,hk,-⟩:=fV hg0;have hpg:=gD hG.1 h0;obtain ⟨m,hm⟩:∃ m,(tz p).length=m+2:=⟨(tz p).length-2,zo⟩;have hpd:=wy hm;have hdl:Dv (evV gl) (evV (derL p)):=by rw [show evV (derL p)=evD p from funext (cW p)];exact hG.2.1
   have hlen:=gD hdl hpd;have hder:=fP p (m+1) hm;have hG2:=dE gl (derL gl);rw [show evV (derL gl)=evD gl from funext (cW gl)] at hG2;obtain ⟨r1,hr1,e1⟩:=hG2.1;obtain ⟨s1,hs1,e2⟩:=hG2.2.1;obtain ⟨r1',hr1',hd1⟩:=kD hr1;have hc1:=ih gl zo hg0 _ r1 (Pf.ev _) hr1 hG2 e1 r1' hr1' hd1;have hc2:=Bb (Pf.ev _) hr1 hs1 hG2 e1 e2 hgx;have hp2x:∃ x,evV (aV gl (derL gl)) x≠0:=by
    obtain ⟨y,hy⟩:=hgx;exact ⟨y,fun h=>hy (by rw [e1,h];grind)⟩
   have e3:∀ x,s1 x*r x=r1 x*(q1 x-r' x):=eJ (f:=evV (aV gl (derL gl))) (g:=fun x=>s1 x*r x) (h:=fun x=>r1 x*(q1 x-r' x)) (Pf.ev _) (hs1.mul hr) (hr1.mul (hq1.sub hr')) (fun x=>by
    have h3:=hslope x;rw [e2 x,e1 x] at h3;grind) hp2x
   obtain ⟨w,hw,e4⟩:=hc2.dv hr ⟨_,hq1.sub hr',e3⟩;have hr1x:∃ x,r1 x≠0:=by
    obtain ⟨y,hy⟩:=hgx;exact ⟨y,fun h=>hy (by rw [e1,h];grind)⟩
   have e5:∀ x,s1 x*w x=q1 x-r' x:=eJ (f:=r1) (g:=fun x=>s1 x*w x) (h:=fun x=>q1 x-r' x) hr1 (hs1.mul hw) (hq1.sub hr') (fun x=>by
    have h3:=e3 x;rw [e4 x] at h3;grind) hr1x
   obtain ⟨rl,hrl⟩:=id hr;have hrd:r'=evD rl:=funext fun x=>hd.uniq (by rw [hrl];exact IsD.ev rl) x
   have hG3:=dE rl (derL rl);rw [show evV (derL rl)=evD rl from funext (cW rl),←hrl,←hrd] at hG3;obtain ⟨h,hh⟩:∃ h,h=evV (aV rl (derL rl)):=⟨_,rfl⟩;rw [←hh] at hG3;have hhp:Pf h:=⟨_,hh⟩;obtain ⟨d1,d2,ua,va,hua,hva,d3⟩:=hG3;obtain ⟨w',hw',hdw⟩:=kD hw;have hcw:Cp h w:=by
    obtain ⟨u,v,hu,hv,b1⟩:=hcp;obtain ⟨x1,hx1,b2⟩:=d1;obtain ⟨x2,hx2,b3⟩:=d2;refine ⟨_,_,(hu.mul hx1).add (hv.mul hx2),hv.mul hs1,fun x=>?_⟩;have b4:=b1 x;have b5:=e5 x;have b6:q1 x=s1 x*w x+r' x:=by grind
    rw [b6,b2 x,b3 x] at b4;grind
   have hr1d:Dv h r1:=hcw.dvl hr1 (by
    obtain ⟨x1,hx1,b2⟩:=d1;exact ⟨x1,hx1,fun x=>by rw [←b2 x,e4 x]⟩)
   have hrs:∀ x,r1' x*w x+r1 x*w' x=r' x:=fun x=>(IsD.mul hd1 hdw hr1 hw hr1').uniq (by
    rw [←show r=fun x=>r1 x*w x from funext e4];exact hd) x
   have hr1d':Dv h r1':=hcw.dvl hr1' (by
    obtain ⟨x1,hx1,b2⟩:=d2.sub (hr1d.mulr hw');exact ⟨x1,hx1,fun x=>by
     have e:=b2 x;have e':=hrs x;rw [←e];show r1' x*w x=r' x-r1 x*w' x;grind⟩)
   obtain ⟨a,b,ha,hb,c1⟩:=hc1;obtain ⟨x1,hx1,c2⟩:=hr1d;obtain ⟨x2,hx2,c3⟩:=hr1d';refine ⟨_,_,((ha.mul hx1).add (hb.mul hx2)).mul hua,((ha.mul hx1).add (hb.mul hx2)).mul hva,fun x=>?_⟩;have c4:=c1 x;rw [c2 x,c3 x,d3 x] at c4;grind
  ·-- g is a constant
   have hcst:=gy hl;obtain ⟨y,hy⟩:=hgx;have hc0:seq gl 0≠0:=by rw [←hcst y];exact hy
   have hz:∀ x,evD gl x=0:=fun x=>(IsD.ev gl).uniq (by rw [show evV gl=fun _=>seq gl 0 from funext hcst];exact IsD.const _) x
   have he:∀ x,r' x=q1 x:=fun x=>by
    have h3:=hslope x;rw [hz x,hcst x] at h3;have h4:=nYk _ hc0;have h5:(seq gl 0)⁻¹*(seq gl 0*r' x)=(seq gl 0)⁻¹*(seq gl 0*q1 x):=by congr 1;grind
    rw [←nYe,←nYe,nYd _ (seq gl 0),h4,Rat.one_mul,Rat.one_mul] at h5;exact h5
   rw [show r'=q1 from funext he];exact hcp
end Go.Proofs.YtkcpmclnocmalaaGreat.Sg
/- Siegel's lemma: whole numbers, not all 0, that solve one equation less than there are unknowns. Plain facts. -/
namespace Go.Proofs.YtkcpmclnocmalaaGreat.Sie
theorem Aq:∀ (L K:Nat) (f:Nat→Nat),L<K→(∀ i,i<K→f i<L)→∃ i j,i<j∧j<K∧f i=f j:=by
 intro L;induction L with
 | zero=>intro K f h hf;exact absurd (hf 0 h) (Nat.not_lt_zero _)
 | succ L ih =>
  intro K f h hf;obtain ⟨K',rfl⟩:∃ K',K=K'+1:=⟨K-1,zo⟩;by_cases h1:∃ i,i<K'∧f i=f K'
  ·obtain ⟨i,hi,he⟩:=h1;exact ⟨i,K',hi,Nat.lt_succ_self _,he⟩
  ·have hn:∀ i,i<K'→f i≠f K':=fun i hi he=>h1 ⟨i,hi,he⟩
   obtain ⟨i,j,h2,h3,h4⟩:=ih K' (fun i=>if f i=L then f K' else f i) zo (fun i hi=>by
    have a1:=hf i zo;have a2:=hf K' zo;have a3:=hn i hi;split <;> omega)
   refine ⟨i,j,h2,zo,?_⟩;have b1:=hn i zo;have b2:=hn j h3;by_cases e1:f i=L
   ·by_cases e2:f j=L
    ·rw [e1,e2]
    ·rw [if_pos e1,if_neg e2] at h4;exact absurd h4.symm b2
   ·by_cases e2:f j=L
    ·rw [if_neg e1,if_pos e2] at h4;exact absurd h4 b1
    ·rw [if_neg e1,if_neg e2] at h4;exact h4
def dgt(b i t:Nat):Nat:=t / b ^ i % b
theorem wv{b i t:Nat}(hb:0<b):dgt b i t<b:=Nat.mod_lt _ hb
theorem Ct{b:Nat}(hb:0<b):∀ (N t u:Nat),t<b ^ N→u<b ^ N→(∀ i,i<N→dgt b i t=dgt b i u)→t=u:=by
 intro N;induction N with
 | zero=>intro t u h1 h2 _;rw [Nat.pow_zero] at h1 h2;omega
 | succ N ih =>
  intro t u h1 h2 h;have e0:=h 0 (Nat.succ_pos _);unfold dgt at e0;rw [Nat.pow_zero,Nat.div_one,Nat.div_one] at e0;have e1:=ih (t / b) (u / b) ((Nat.div_lt_iff_lt_mul hb).2 (by rw [←nXu];exact h1)) ((Nat.div_lt_iff_lt_mul hb).2 (by rw [←nXu];exact h2)) (fun i hi=>by
   have:=h (i+1) zo;unfold dgt at this ⊢;rw [Nat.div_div_eq_div_mul,Nat.div_div_eq_div_mul,nYf b,←nXu];exact this)
  rw [←Nat.div_add_mod t b,←Nat.div_add_mod u b,e0,e1]
def cod(R:Nat):Nat→(Nat→Nat)→Nat
 | 0,_=>0
 | M+1,y=>y 0+R*cod R M (fun j=>y (j+1))
theorem Ek{R:Nat}:∀ (M:Nat) (y:Nat→Nat),(∀ j,j<M→y j<R)→cod R M y<R ^ M:=by
 intro M;induction M with
 | zero=>intro y _;exact Nat.one_pos
 | succ M ih =>
  intro y h;have h1:=ih (fun j=>y (j+1)) (fun j hj=>h (j+1) zo);have h0:=h 0 (Nat.succ_pos _);have h2:R*(cod R M (fun j=>y (j+1))+1)≤R*R ^ M:=nXg _ h1;show y 0+R*cod R M (fun j=>y (j+1))<R ^ (M+1);rw [nXu,nYf (R ^ M)];rw [Nat.mul_succ] at h2;omega
theorem CB{R:Nat}:∀ (M:Nat) (y z:Nat→Nat),(∀ j,j<M→y j<R)→(∀ j,j<M→z j<R)→cod R M y=cod R M z→∀ j,j<M→y j=z j:=by
 intro M;induction M with
 | zero=>intro y z _ _ _ j hj;omega
 | succ M ih =>
  intro y z hy hz h;have y0:=hy 0 (Nat.succ_pos _);have z0:=hz 0 (Nat.succ_pos _);have h':y 0+R*cod R M (fun j=>y (j+1))=z 0+R*cod R M (fun j=>z (j+1)):=h;have e0:y 0=z 0:=by
   have:=congrArg (· % R) h';simp only [Nat.add_mul_mod_self_left] at this
   rwa [Nat.mod_eq_of_lt y0,Nat.mod_eq_of_lt z0] at this
  have e1:cod R M (fun j=>y (j+1))=cod R M (fun j=>z (j+1)):=by
   rw [e0] at h';exact Nat.eq_of_mul_eq_mul_left zo (Nat.add_left_cancel h')
  intro j hj;cases j with
  | zero=>exact e0
  | succ j=>exact ih _ _ (fun k hk=>hy (k+1) zo) (fun k hk=>hz (k+1) zo) e1 j zo
def iO:Nat→(Nat→Int)→Int
 | 0,_=>0
 | n+1,f=>iO n f+f n
theorem vw{n:Nat}{f:Nat→Int}{C:Nat}(h:∀ i,i<n→(f i).natAbs≤C):(iO n f).natAbs≤n*C:=by
 induction n with
 | zero=>simp [iO]
 | succ n ih =>
  have h1:=ih (fun i hi=>h i zo);have h2:=h n (Nat.lt_succ_self n);have h3:=Int.natAbs_add_le (iO n f) (f n);show (iO n f+f n).natAbs≤_;rw [nXz];omega
theorem yL(n:Nat)(f g:Nat→Int):iO n (fun i=>f i-g i)=iO n f-iO n g:=by
 induction n with
 | zero=>rfl
 | succ n ih=>show iO n (fun i=>f i-g i)+(f n-g n)=(iO n f+f n)-(iO n g+g n);rw [ih];omega
theorem s7{n:Nat}{f g:Nat→Int}(h:∀ i,i<n→f i=g i):iO n f=iO n g:=by
 induction n with
 | zero=>rfl
 | succ n ih=>show iO n f+f n=iO n g+g n;rw [ih (fun i hi=>h i zo),h n (Nat.lt_succ_self n)]
theorem oz(n:Nat)(f:Nat→Int):((iO n f:Int):Rat)=Stab.sm n (fun i=>((f i:Int):Rat)):=by
 induction n with
 | zero=>rfl
 | succ n ih=>show ((iO n f+f n:Int):Rat)=Stab.sm n _+_;rw [Rat.intCast_add,ih]
theorem C9(M:Nat)(A:Nat→Nat→Int)(a:Nat)(ha:∀ j i,(A j i).natAbs≤a)(h1:1≤a) :
  ∃ x:Nat→Int,(∃ i,i<M+1∧x i≠0)∧(∀ i,(x i).natAbs≤(2*(M+1)*a) ^ M)∧∀ j,j<M→iO (M+1) (fun i=>A j i*x i)=0:=by
 obtain ⟨G,hG⟩:∃ G,G=2*(M+1)*a:=⟨_,rfl⟩;have hG1:1≤G:=by rw [hG];exact Nat.mul_pos zo h1
 obtain ⟨B,hB⟩:∃ B,B=G ^ M:=⟨_,rfl⟩;obtain ⟨C,hC⟩:∃ C,C=(M+1)*(a*B):=⟨_,rfl⟩;have hb:0<B+1:=Nat.succ_pos _;have hsum:∀ j t,(iO (M+1) (fun i=>A j i*(dgt (B+1) i t:Nat))).natAbs≤C:=fun j t=>by
  rw [hC];refine vw fun i _=>?_
  rw [Int.natAbs_mul,nYi];exact nXy (ha j i) (Nat.le_of_lt_succ (wv hb))
 have hR:(2*C+1)≤G*(B+1):=by
  have e:2*C=G*B:=by
   rw [hC,hG,Nat.mul_assoc 2,Nat.mul_assoc 2,Nat.mul_assoc]
  rw [e,Nat.mul_succ];omega
 have hlt:(2*C+1) ^ M<(B+1) ^ (M+1):=by
  refine nYl (Nat.pow_le_pow_left hR M) ?_;rw [Nat.mul_pow,←hB,nXu,nYf];exact Nat.mul_lt_mul_of_pos_left (Nat.lt_succ_self B) (nYn hb)
 have hy:∀ t j,j<M→(iO (M+1) (fun i=>A j i*(dgt (B+1) i t:Nat))+C).toNat<2*C+1:=fun t j _=>by
  have:=hsum j t;omega
 obtain ⟨t,u,h2,h3,h4⟩:=Aq _ _ (fun t=>cod (2*C+1) M (fun j=>(iO (M+1) (fun i=>A j i*(dgt (B+1) i t:Nat))+C).toNat)) hlt (fun t _=>Ek M _ (hy t));have h5:=CB M _ _ (hy t) (hy u) h4;refine ⟨fun i=>(dgt (B+1) i t:Nat)-((dgt (B+1) i u:Nat):Int),?_,fun i=>?_,fun j hj=>?_⟩
 ·apply Classical.byContradiction;intro hn;have:=Ct hb (M+1) t u zo h3 (fun i hi=>by
   have h6:¬ (((dgt (B+1) i t:Nat):Int)-((dgt (B+1) i u:Nat):Int)≠0):=fun h6=>hn ⟨i,hi,h6⟩
   omega)
  omega
 ·have a1:=wv (i:=i) (t:=t) hb;have a2:=wv (i:=i) (t:=u) hb;rw [←hG,←hB];show (((dgt (B+1) i t:Nat):Int)-((dgt (B+1) i u:Nat):Int)).natAbs≤B;omega
 ·have h6:=h5 j hj;have b1:=hsum j t;have b2:=hsum j u;have e:=yL (M+1) (fun i=>A j i*(dgt (B+1) i t:Nat)) (fun i=>A j i*(dgt (B+1) i u:Nat));rw [s7 (g:=fun i=>A j i*(dgt (B+1) i t:Nat)-A j i*(dgt (B+1) i u:Nat)) (fun i _=>Int.mul_sub _ _ _),e];omega
end Go.Proofs.YtkcpmclnocmalaaGreat.Sie
