/- Sturm's theorem over the rationals: on a fine enough grid the changes of sign in a chain fall by one where the first member changes its sign. Plain facts. -/
import Derived.Test.YtpieblkklbilgaaGreatQKM28
set_option linter.unusedVariables false
namespace Go.Proofs.YtpieblkklbilgaaGreat.Sg
def sg (q:Rat):Int:=if q < 0 then -1 else if q=0 then 0 else 1
theorem sg_neg {q:Rat} (h:q < 0):sg q=-1:=if_pos h
theorem sg_zero:sg 0=0:=by decide
theorem sg_pos {q:Rat} (h:0 < q):sg q=1:=by unfold sg;rw [if_neg (by grind),if_neg (by grind)]
theorem tri (a b:Rat):a < b ∨ a=b ∨ b < a:=by grind
theorem tot (a b:Rat):a≤b ∨ b≤a:=by grind
theorem sg_cases (q:Rat):(q < 0∧sg q=-1) ∨ (q=0∧sg q=0) ∨ (0 < q∧sg q=1):=by
 rcases tri q 0 with h | h | h
 ·exact Or.inl ⟨h,sg_neg h⟩
 ·subst h;exact Or.inr (Or.inl ⟨rfl,sg_zero⟩)
 ·exact Or.inr (Or.inr ⟨h,sg_pos h⟩)
theorem sg_eq0 {q:Rat}:sg q=0↔q=0:=by rcases sg_cases q with ⟨h,e⟩ | ⟨h,e⟩ | ⟨h,e⟩ <;> rw [e] <;> constructor <;> intro k <;> first | omega | grind
def vr:Int→List Int→Nat
 | _,[]=>0
 | last,s :: l=>if s=0 then vr last l else (if last ≠ 0∧s ≠ last then 1 else 0)+vr s l
def IsS (x:Int):Prop:=x=-1 ∨ x=0 ∨ x=1
theorem sg_is (q:Rat):IsS (sg q):=by rcases sg_cases q with ⟨h,e⟩ | ⟨h,e⟩ | ⟨h,e⟩ <;> rw [e] <;> unfold IsS <;> omega
inductive Rl:Int→List Int→List Int→Prop
 | nil (p:Int):Rl p [] []
 | big {p x:Int} {a b:List Int} (hx:x ≠ 0) (h:Rl x a b):Rl p (x :: a) (x :: b)
 | small {p x y z:Int} {a b:List Int} (hp:p ≠ 0) (hz:z=-p) (ip:IsS p) (ix:IsS x) (iy:IsS y) (h:Rl z a b):Rl p (x :: z :: a) (y :: z :: b)
theorem vr_small {p x z:Int} {a:List Int} (hp:p ≠ 0) (hz:z=-p) (ip:IsS p) (ix:IsS x):vr p (x :: z :: a)=1+vr z a:=by
 have hz0:z ≠ 0:=by omega
 have hzp:z ≠ p:=by omega
 by_cases h0:x=0
 ·subst h0
  simp [vr,hz0,hp,hzp]
 ·by_cases h1:x=p
  ·subst h1
   simp [vr,h0,hz0,hzp]
  ·have h2:x=z:=by unfold IsS at ip ix;omega
   subst h2
   simp [vr,h0,hp,h1]
theorem Rl.vr {p:Int} {a b:List Int} (h:Rl p a b):vr p a=vr p b:=by
 induction h with
 | nil p=>rfl
 | big hx h ih=>simp [Sg.vr,hx,ih]
 | small hp hz ip ix iy h ih=>rw [vr_small hp hz ip ix,vr_small hp hz ip iy,ih]
def Bd (M x:Rat):Prop:=-M≤x∧x≤M
theorem Bd.mono {M N x:Rat} (h:Bd M x) (k:M≤N):Bd N x:=by have h1:=h.1;have h2:=h.2;exact ⟨by grind,by grind⟩
theorem Bd.add {M N x y:Rat} (h:Bd M x) (k:Bd N y):Bd (M+N) (x+y):=by have h1:=h.1;have h2:=h.2;have h3:=k.1;have h4:=k.2;exact ⟨by grind,by grind⟩
theorem Bd.neg {M x:Rat} (h:Bd M x):Bd M (-x):=by have h1:=h.1;have h2:=h.2;exact ⟨by grind,by grind⟩
theorem Bd.mul {M N x y:Rat} (h:Bd M x) (k:Bd N y):Bd (M * N) (x * y):=by
 have h1:=h.1;have h2:=h.2;have h3:=k.1;have h4:=k.2
 have e1:=Rat.mul_nonneg (a:=M - x) (b:=N+y) (by grind) (by grind)
 have e2:=Rat.mul_nonneg (a:=M+x) (b:=N - y) (by grind) (by grind)
 have e3:=Rat.mul_nonneg (a:=M - x) (b:=N - y) (by grind) (by grind)
 have e4:=Rat.mul_nonneg (a:=M+x) (b:=N+y) (by grind) (by grind)
 exact ⟨by grind,by grind⟩
theorem Bd.self {x:Rat} (h:0≤x):Bd x x:=⟨by grind,by grind⟩
theorem Bd.ex (x:Rat):∃ M,0≤M∧Bd M x:=by
 rcases tot 0 x with h | h
 ·exact ⟨x,h,by grind,by grind⟩
 ·exact ⟨-x,by grind,by grind,by grind⟩
theorem bd_interval {A B x:Rat}:∃ R,0≤R∧∀ x,A≤x→x≤B→Bd R x:=by
 obtain ⟨M,h1,h2⟩:=Bd.ex A
 obtain ⟨N,h3,h4⟩:=Bd.ex B
 refine ⟨M+N,by grind,fun x hA hB=>?_⟩
 have h5:=h2.1;have h6:=h2.2;have h7:=h4.1;have h8:=h4.2
 exact ⟨by grind,by grind⟩
theorem mulN {a b:Rat} (h:0≤a) (k:0≤b):0≤a * b:=Rat.mul_nonneg h k
theorem mulP {a b:Rat} (h:0 < a) (k:0 < b):0 < a * b:=Rat.mul_pos h k
theorem divP {a b:Rat} (h:0 < a) (k:0 < b):0 < a / b:=by rw [Rat.div_def];exact Rat.mul_pos h (Rat.inv_pos.2 k)
theorem div_cancel {a b:Rat} (k:b ≠ 0):a / b * b=a:=by rw [Rat.div_def,Rat.mul_assoc,Rat.inv_mul_cancel _ k,Rat.mul_one]
theorem mul_le {a b c:Rat} (h:a≤b) (k:0≤c):a * c≤b * c:=Rat.mul_le_mul_of_nonneg_right h k
theorem mul_le' {a b c:Rat} (h:a≤b) (k:0≤c):c * a≤c * b:=Rat.mul_le_mul_of_nonneg_left h k
theorem mul_lt {a b c:Rat} (h:a < b) (k:0 < c):a * c < b * c:=by
 have:=Rat.mul_pos (show 0 < b - a by grind) k
 grind
theorem thr {c m x:Rat} (hc:0 < c) (hm:0 < m) (h:m * 3≤c * x * 4):m / (2 * c)≤x:=by
 apply Classical.byContradiction
 intro hn
 have h1:=mul_lt (show x < m / (2 * c) by grind) hc
 have h2:m / (2 * c) * (2 * c)=m:=div_cancel (by grind)
 grind
def Lip (A B K:Rat) (f:Rat→Rat):Prop:=∀ s t,A≤s→s≤t→t≤B→Bd (K * (t - s)) (f t - f s)
theorem Lip.mono {A B K L:Rat} {f:Rat→Rat} (h:Lip A B K f) (k:K≤L):Lip A B L f:=fun s t h1 h2 h3=>(h s t h1 h2 h3).mono (mul_le k (by grind))
def On (A B M:Rat) (f:Rat→Rat):Prop:=∀ x,A≤x→x≤B→Bd M (f x)
def Big (r x:Rat):Prop:=r≤x ∨ x≤-r
theorem not_big {r x:Rat} (h:¬ Big r x):-r < x∧x < r:=by
 unfold Big at h
 exact ⟨by grind,by grind⟩
theorem Big.sign {A B K r s t:Rat} {f:Rat→Rat} (hf:Lip A B K f) (hb:Big r (f s)) (h1:A≤s) (h2:s≤t) (h3:t≤B) (h4:K * (t - s) < r):sg (f t)=sg (f s)∧sg (f s) ≠ 0:=by
 obtain ⟨e1,e2⟩:=hf s t h1 h2 h3
 have hr:0 < r:=by grind
 rcases hb with h | h
 ·rw [sg_pos (show 0 < f s by grind),sg_pos (show 0 < f t by grind)];exact ⟨rfl,by decide⟩
 ·rw [sg_neg (show f s < 0 by grind),sg_neg (show f t < 0 by grind)];exact ⟨rfl,by decide⟩
def Row (A B:Rat) (f g h:Rat→Rat):Prop:=∃ c d Q:Rat,0 < c∧0 < d∧0≤Q∧∃ q:Rat→Rat,On A B Q q∧∀ x,c * f x+d * h x=q x * g x
def Ch (A B:Rat):(Rat→Rat)→List (Rat→Rat)→Prop
 | f,[]=>∃ r,0 < r∧∀ x,A≤x→x≤B→Big r (f x)
 | f,[g]=>Ch A B g []
 | f,g :: h :: l=>Row A B f g h∧Ch A B g (h :: l)
def sgs (l:List (Rat→Rat)) (x:Rat):List Int:=l.map (fun f=>sg (f x))
def Cell (f:Rat→Rat) (l:List (Rat→Rat)) (b r s t:Rat):Prop :=
 (Big r (f s)→sg (f s) ≠ 0∧sg (f t)=sg (f s)∧Rl (sg (f s)) (sgs l s) (sgs l t)) ∧
 (¬ Big r (f s)→∃ g l',l=g :: l'∧Big b (g s)∧sg (g s) ≠ 0∧sg (g t)=sg (g s)∧Rl (sg (g s)) (sgs l' s) (sgs l' t))
def St (A B:Rat) (f:Rat→Rat) (l:List (Rat→Rat)):Prop :=
 ∃ b,0 < b∧∃ r0,0 < r0∧∀ r,0 < r→r≤r0→∃ e,0 < e∧∀ s t,A≤s→s≤t→t≤B→t - s≤e→Cell f l b r s t
theorem step_ex {K r:Rat} (hK:0≤K) (hr:0 < r):∃ e,0 < e∧∀ d,d≤e→K * d < r:=by
 refine ⟨r / (K+1),divP hr (by grind),fun d hd=>?_⟩
 have h1:=mul_le' hd hK
 have h2:r / (K+1) * (K+1)=r:=div_cancel (by grind)
 have h3:=divP hr (show 0 < K+1 by grind)
 grind
theorem min_ex {a b:Rat} (ha:0 < a) (hb:0 < b):∃ c,0 < c∧c≤a∧c≤b:=by
 rcases tot a b with h | h
 ·exact ⟨a,ha,Rat.le_refl,h⟩
 ·exact ⟨b,hb,h,Rat.le_refl⟩
theorem row_small {A B b r s c d Q:Rat} {f g h q:Rat→Rat} (hc:0 < c) (hd:0 < d) (hQ:0≤Q) (hq:On A B Q q) (he:∀ x,c * f x+d * h x=q x * g x) (h1:A≤s) (h2:s≤B) (hg:¬ Big r (g s)) (hr:Q * r * 4≤d * b) (hb0:0 < b) (hb:Big b (h s)) :
  (f s < 0∧0 < h s∧d * b * 3≤-(c * f s) * 4) ∨ (0 < f s∧h s < 0∧d * b * 3≤c * f s * 4):=by
 obtain ⟨g1,g2⟩:=not_big hg
 obtain ⟨k1,k2⟩:=(hq s h1 h2).mul (show Bd r (g s) from ⟨by grind,by grind⟩)
 have e:=he s
 have hdb:=mulP hd hb0
 rcases hb with h3 | h3
 ·left
  have h4:=mul_le' h3 (Rat.le_of_lt hd)
  have h5:c * f s < 0:=by grind
  refine ⟨?_,by grind,by grind⟩
  rcases tri (f s) 0 with h6 | h6 | h6
  ·exact h6
  ·rw [h6] at h5;grind
  ·have:=mulP hc h6;grind
 ·right
  have h4:=mul_le' (show b≤-h s by grind) (Rat.le_of_lt hd)
  have h5:0 < c * f s:=by grind
  refine ⟨?_,by grind,by grind⟩
  rcases tri (f s) 0 with h6 | h6 | h6
  ·have:=mulP hc (show 0 < -f s by grind);grind
  ·rw [h6] at h5;grind
  ·exact h6
theorem ch_st {A B:Rat}:∀ (l:List (Rat→Rat)) (f:Rat→Rat),Ch A B f l→(∃ K,0≤K∧Lip A B K f)→(∀ g ∈ l,∃ K,0≤K∧Lip A B K g)→St A B f l:=by
 intro l
 induction l with
 | nil =>
  intro f ⟨d,hd,hb⟩ ⟨K,hK,hL⟩ _
  refine ⟨1,by decide,d,hd,fun r hr hrd=>?_⟩
  obtain ⟨e,he,h⟩:=step_ex hK hr
  refine ⟨e,he,fun s t h1 h2 h3 h4=>⟨fun h5=>?_,fun h5=>?_⟩⟩
  ·obtain ⟨g1,g2⟩:=h5.sign hL h1 h2 h3 (h _ h4)
   exact ⟨g2,g1,Rl.nil _⟩
  ·refine absurd ?_ h5
   rcases hb s h1 (by grind) with h6 | h6
   ·exact Or.inl (by grind)
   ·exact Or.inr (by grind)
 | cons g l ih =>
  intro f hc ⟨K,hK,hL⟩ hl
  have hg:Ch A B g l:=by
   cases l with
   | nil=>exact hc
   | cons h l=>exact hc.2
  obtain ⟨b,hb,r0,hr0,hst⟩:=ih g hg (hl g List.mem_cons_self) (fun x hx=>hl x (List.mem_cons_of_mem _ hx))
  -- the threshold of g and that of f
  obtain ⟨rg,hrg,hrg0,rf,hrf,hsm⟩:∃ rg,0 < rg∧rg≤r0∧∃ rf,0 < rf∧∀ s,A≤s→s≤B→∀ h l',l=h :: l'→¬ Big rg (g s)→Big b (h s)→sg (h s)=-sg (f s)∧sg (f s) ≠ 0∧Big rf (f s):=by
   cases l with
   | nil=>exact ⟨r0,hr0,Rat.le_refl,1,by decide,fun s _ _ h l' e=>by cases e⟩
   | cons h l =>
    obtain ⟨⟨c,d,Q,hc,hd,hQ,q,hq,he⟩,-⟩:=hc
    obtain ⟨e,he0,hee⟩:=step_ex (K:=Q * 4) (r:=d * b) (by grind) (mulP hd hb)
    obtain ⟨rg,h1,h2,h3⟩:=min_ex hr0 he0
    have hp:=divP (mulP hd hb) (show 0 < 2 * c by grind)
    refine ⟨rg,h1,h2,d * b / (2 * c),hp,fun s k1 k2 h' l' e k3 k4=>?_⟩
    cases e
    have hr4:=hee rg h3
    rcases row_small hc hd hQ hq he k1 k2 k3 (by grind) hb k4 with ⟨m1,m2,m3⟩ | ⟨m1,m2,m3⟩
    ·rw [sg_pos m2,sg_neg m1]
     refine ⟨rfl,by decide,Or.inr ?_⟩
     have:=thr (x:=-f s) hc (mulP hd hb) (by grind)
     grind
    ·rw [sg_neg m2,sg_pos m1]
     exact ⟨rfl,by decide,Or.inl (thr hc (mulP hd hb) m3)⟩
  obtain ⟨eg,heg,hcell⟩:=hst rg hrg hrg0
  refine ⟨rg,hrg,rf,hrf,fun r hr hrf'=>?_⟩
  obtain ⟨ef,hef,hstep⟩:=step_ex hK hr
  obtain ⟨e,he,he1,he2⟩:=min_ex heg hef
  refine ⟨e,he,fun s t h1 h2 h3 h4=>?_⟩
  have hg:=hcell s t h1 h2 h3 (by grind)
  refine ⟨fun h5=>?_,fun h5=>?_⟩
  ·obtain ⟨g1,g2⟩:=h5.sign hL h1 h2 h3 (hstep _ (by grind))
   refine ⟨g2,g1,?_⟩
   by_cases hb':Big rg (g s)
   ·obtain ⟨k1,k2,k3⟩:=hg.1 hb'
    show Rl _ (sg (g s) :: sgs l s) (sg (g t) :: sgs l t)
    rw [k2]
    exact Rl.big k1 k3
   ·obtain ⟨h,l',rfl,k1,k2,k3,k4⟩:=hg.2 hb'
    obtain ⟨m1,m2,m3⟩:=hsm s h1 (by grind) h l' rfl hb' k1
    show Rl _ (sg (g s) :: sg (h s) :: sgs l' s) (sg (g t) :: sg (h t) :: sgs l' t)
    rw [k3]
    exact Rl.small g2 m1 (sg_is _) (sg_is _) (sg_is _) k4
  ·refine ⟨g,l,rfl,?_⟩
   by_cases hb':Big rg (g s)
   ·obtain ⟨k1,k2,k3⟩:=hg.1 hb'
    exact ⟨hb',k1,k2,k3⟩
   ·obtain ⟨h,l',rfl,k1,k2,k3,k4⟩:=hg.2 hb'
    obtain ⟨m1,m2,m3⟩:=hsm s h1 (by grind) h l' rfl hb' k1
    refine absurd ?_ h5
    rcases m3 with m | m
    ·exact Or.inl (by grind)
    ·exact Or.inr (by grind)
def V (f:Rat→Rat) (l:List (Rat→Rat)) (x:Rat):Nat:=vr 0 (sgs (f :: l) x)
theorem vr0_cons {x:Int} {a:List Int} (h:x ≠ 0):vr 0 (x :: a)=vr x a:=by simp [vr,h]
theorem vr0_zero {a:List Int}:vr 0 (0 :: a)=vr 0 a:=by simp [vr]
def Slope (A B:Rat) (f g:Rat→Rat):Prop:=∃ k K,0 < k∧0≤K∧∀ s t,A≤s→s≤t→t≤B→Bd (K * (t - s) * (t - s)) (f t - f s - k * g s * (t - s))
def cross (f:Rat→Rat) (s t:Rat):Nat:=if sg (f s) ≠ 0∧sg (f t) ≠ sg (f s) then 1 else 0
theorem sturm_cell {A B:Rat} {f:Rat→Rat} {l:List (Rat→Rat)} (hc:Ch A B f l) (hf:∃ K,0≤K∧Lip A B K f) (hl:∀ g ∈ l,∃ K,0≤K∧Lip A B K g) (hs:∀ g l',l=g :: l'→Slope A B f g) :
  ∃ e,0 < e∧∀ s t,A≤s→s < t→t≤B→t - s≤e→V f l s=V f l t+cross f s t∧(f s=0→f t ≠ 0):=by
 obtain ⟨b,hb,r0,hr0,hst⟩:=ch_st l f hc hf hl
 obtain ⟨e1,he1,hcell⟩:=hst r0 hr0 Rat.le_refl
 obtain ⟨e2,he2,hsl⟩:∃ e2,0 < e2∧∀ g l',l=g :: l'→∀ s t,A≤s→s < t→t≤B→t - s≤e2→(b≤g s→f s < f t)∧(g s≤-b→f t < f s):=by
  cases l with
  | nil=>exact ⟨1,by decide,fun g l' e=>by cases e⟩
  | cons g l =>
   obtain ⟨k,K,hk,hK,h⟩:=hs g l rfl
   obtain ⟨e,he,h2⟩:=step_ex hK (mulP hk hb)
   refine ⟨e,he,fun g' l' ee s t h3 h4 h5 h6=>?_⟩
   cases ee
   obtain ⟨m1,m2⟩:=h s t h3 (by grind) h5
   have h7:=mul_lt (h2 _ h6) (show 0 < t - s by grind)
   refine ⟨fun h8=>?_,fun h8=>?_⟩
   ·have h9:=mul_le (mul_le' h8 (Rat.le_of_lt hk)) (show 0≤t - s by grind)
    grind
   ·have h9:=mul_le (mul_le' h8 (Rat.le_of_lt hk)) (show 0≤t - s by grind)
    grind
 obtain ⟨e,he,hm1,hm2⟩:=min_ex he1 he2
 refine ⟨e,he,fun s t h1 h2 h3 h4=>?_⟩
 obtain ⟨c1,c2⟩:=hcell s t h1 (by grind) h3 (by grind)
 by_cases h5:Big r0 (f s)
 ·obtain ⟨k1,k2,k3⟩:=c1 h5
  refine ⟨?_,fun h=>absurd (sg_eq0.2 h) k1⟩
  unfold V cross
  show vr 0 (sg (f s) :: sgs l s)=vr 0 (sg (f t) :: sgs l t)+_
  rw [k2,vr0_cons k1,vr0_cons k1,k3.vr,if_neg (by simp)]
  rfl
 ·obtain ⟨g,l',rfl,k1,k2,k3,k4⟩:=c2 h5
  obtain ⟨s1,s2⟩:=hsl g l' rfl s t h1 h2 h3 (by grind)
  have e0:V f (g :: l') s=(if sg (f s) ≠ 0∧sg (g s) ≠ sg (f s) then 1 else 0)+vr (sg (g s)) (sgs l' s):=by
   show vr 0 (sg (f s) :: sg (g s) :: sgs l' s)=_
   by_cases h0:sg (f s)=0
   ·rw [h0,vr0_zero,vr0_cons k2];simp
   ·rw [vr0_cons h0];simp [vr,k2,h0]
  have e1:V f (g :: l') t=(if sg (f t) ≠ 0∧sg (g s) ≠ sg (f t) then 1 else 0)+vr (sg (g s)) (sgs l' s):=by
   show vr 0 (sg (f t) :: sg (g t) :: sgs l' t)=_
   rw [k3,k4.vr]
   by_cases h0:sg (f t)=0
   ·rw [h0,vr0_zero,vr0_cons k2];simp
   ·rw [vr0_cons h0];simp [vr,k2,h0]
  rw [e0,e1]
  unfold cross
  rcases k1 with k | k
  ·have hlt:=s1 k
   rw [sg_pos (show 0 < g s by grind)]
   clear hc hf hl hs hst hcell hsl c1 c2 k3 k4 s1 s2 e0 e1
   rcases sg_cases (f s) with ⟨a1,a2⟩ | ⟨a1,a2⟩ | ⟨a1,a2⟩ <;> rcases sg_cases (f t) with ⟨b1,b2⟩ | ⟨b1,b2⟩ | ⟨b1,b2⟩ <;> rw [a2,b2] <;> first | (exfalso;grind) | (refine ⟨by simp <;> omega,?_⟩;grind)
  ·have hlt:=s2 k
   rw [sg_neg (show g s < 0 by grind)]
   clear hc hf hl hs hst hcell hsl c1 c2 k3 k4 s1 s2 e0 e1
   rcases sg_cases (f s) with ⟨a1,a2⟩ | ⟨a1,a2⟩ | ⟨a1,a2⟩ <;> rcases sg_cases (f t) with ⟨b1,b2⟩ | ⟨b1,b2⟩ | ⟨b1,b2⟩ <;> rw [a2,b2] <;> first | (exfalso;grind) | (refine ⟨by simp <;> omega,?_⟩;grind)
theorem grid_ind {A B e:Rat} {P:Rat→Rat→Prop} (he:0 < e) (h1:∀ s t,A≤s→s < t→t≤B→t - s≤e→P s t) (h2:∀ s t u,A≤s→s < t→t < u→u≤B→P s t→P t u→P s u):∀ s t,A≤s→s < t→t≤B→P s t:=by
  have key:∀ n:Nat,∀ s t,A≤s→s < t→t≤B→t - s≤(n:Rat) * e→P s t:=by
    intro n
    induction n with
    | zero => intro s t a b c d; exfalso; have : ((0 : Nat) : Rat) * e = 0 := by rw [show ((0 : Nat) : Rat) = 0 from rfl]; grind
              grind
    | succ n ih =>
      intro s t a b c d
      rcases tot (t - s) e with h | h
      · exact h1 s t a b c h
      · by_cases hq:t - s=e
        · exact h1 s t a b c (by grind)
        · have e1:((n+1:Nat):Rat) * e=(n:Rat) * e+e:=by rw [Rat.natCast_add,show ((1:Nat):Rat)=1 from rfl];grind
          exact h2 s (s+e) t a (by grind) (by grind) c (h1 s (s+e) a (by grind) (by grind) (by grind)) (ih (s+e) t (by grind) (by grind) c (by grind))
  intro s t a b c
  have hx:0 < (t - s) / e:=divP (by grind) he
  obtain ⟨n,hn⟩:∃ n:Nat,(t - s) / e≤(n:Rat):=by
    have h3:=Rat.lt_floor_add_one ((t - s) / e)
    refine ⟨((t - s) / e).floor.toNat+1,?_⟩
    have h4:(((t - s) / e).floor+1:Int)≤((((t - s) / e).floor.toNat+1:Nat):Int):=by omega
    have h5:=Rat.intCast_le_intCast.2 h4
    rw [Rat.intCast_natCast] at h5
    grind
  refine key n s t a b c ?_
  have h8:=mul_le hn (Rat.le_of_lt he)
  rw [div_cancel (by grind)] at h8
  exact h8
theorem ev_on (p:List Rat) (A B:Rat):∃ M,0≤M∧On A B M (evV p):=by
 obtain ⟨R,hR,hb⟩:=bd_interval (A:=A) (B:=B) (x:=0)
 induction p with
 | nil=>exact ⟨0,Rat.le_refl,fun x _ _=>⟨by show -0≤(0:Rat);decide,by show (0:Rat)≤0;decide⟩⟩
 | cons c p ih =>
  obtain ⟨M,hM,h⟩:=ih
  obtain ⟨N,hN,k⟩:=Bd.ex c
  exact ⟨M * R+N,by have:=mulN hM hR;grind,fun x h1 h2=>((h x h1 h2).mul (hb x h1 h2)).add k⟩
theorem ev_lip (p:List Rat) (A B:Rat):∃ K,0≤K∧Lip A B K (evV p):=by
 obtain ⟨R,hR,hb⟩:=bd_interval (A:=A) (B:=B) (x:=0)
 induction p with
 | nil=>exact ⟨0,Rat.le_refl,fun s t _ h _=>⟨by show -(0 * (t - s))≤(0:Rat) - 0;grind,by show (0:Rat) - 0≤0 * (t - s);grind⟩⟩
 | cons c p ih =>
  obtain ⟨K,hK,h⟩:=ih
  obtain ⟨M,hM,k⟩:=ev_on p A B
  refine ⟨K * R+M,by have:=mulN hK hR;grind,fun s t h1 h2 h3=>?_⟩
  have a:=(h s t h1 h2 h3).mul (hb t (by grind) h3)
  have b:=(k s h1 (by grind)).mul (Bd.self (show 0≤t - s by grind))
  have e:evV (c :: p) t - evV (c :: p) s=(evV p t - evV p s) * t+evV p s * (t - s):=by
   show evV p t * t+c - (evV p s * s+c)=_
   grind
  rw [e,show (K * R+M) * (t - s)=K * (t - s) * R+M * (t - s) by grind]
  exact a.add b
structure Fit (A B:Rat) (f:Rat→Rat) (l:List (Rat→Rat)):Prop where
 ch:Ch A B f l
 lf:∃ K,0≤K∧Lip A B K f
 ll:∀ g ∈ l,∃ K,0≤K∧Lip A B K g
 sl:∀ g l',l=g :: l'→Slope A B f g
theorem Fit.cell {A B:Rat} {f:Rat→Rat} {l:List (Rat→Rat)} (h:Fit A B f l):∃ e,0 < e∧∀ s t,A≤s→s < t→t≤B→t - s≤e→V f l s=V f l t+cross f s t∧(f s=0→f t ≠ 0):=sturm_cell h.ch h.lf h.ll h.sl
theorem Fit.mono {A B:Rat} {f:Rat→Rat} {l:List (Rat→Rat)} (h:Fit A B f l):∀ s t,A≤s→s < t→t≤B→V f l t≤V f l s:=by
 obtain ⟨e,he,hc⟩:=h.cell
 refine grid_ind he (fun s t h1 h2 h3 h4=>?_) (fun s t u _ _ _ _ h1 h2=>by omega)
 have:=(hc s t h1 h2 h3 h4).1
 omega
end Go.Proofs.YtpieblkklbilgaaGreat.Sg
/- Polynomial functions over the rationals: divisors, coprime ones, the greatest common divisor, the polynomial with the same roots, each once. Plain facts. -/
set_option linter.unusedVariables false
namespace Go.Proofs.YtpieblkklbilgaaGreat.Sg
open Go.RowKit Go.Front Go.Num Go.Stab Go.Proofs.YtpieblkklbilgaaGreat
theorem ev_lin {r a b:List Rat} {c:Rat} (h:∀ i,seq r i=c * seq a i+seq b i) (x:Rat):evV r x=c * evV a x+evV b x:=by
 obtain ⟨N,h1,h2,h3⟩:∃ N,r.length≤N∧a.length≤N∧b.length≤N:=⟨r.length+a.length+b.length,by omega,by omega,by omega⟩
 rw [ev_smN h1,ev_smN h2,ev_smN h3,← sm_mul,← sm_add]
 exact sm_congr (fun i _=>by rw [h];grind)
theorem seq_cons0 (r:List Rat):seq (0 :: r)=sh (seq r):=by funext n;cases n <;> rfl
theorem ev_cv (p:List Rat) {q r:List Rat} (h:∀ n,seq r n=cv (seq p) (seq q) n) (x:Rat):evV r x=evV p x * evV q x:=by
 induction p generalizing r with
 | nil =>
  have e:evV r x=0 * evV [] x:=ev_seq (fun i=>by rw [h i,← ap_cv];show (0:Rat)=0 * _;grind) x
  rw [e]
  show (0:Rat) * _=(0:Rat) * _
  grind
 | cons c p ih =>
  have e1:evV (mul5V p q) x=evV p x * evV q x:=ih (fun n=>by rw [seq_mul,ap_cv])
  have e2:evV r x=c * evV q x+evV (0 :: mul5V p q) x:=ev_lin (fun i=>by
   rw [h i,← ap_cv,seq_cons0,seq_mul]
   rfl) x
  rw [e2,ev_cons,e1,ev_cons]
  grind
theorem ev_mul5 (p q:List Rat) (x:Rat):evV (mul5V p q) x=evV p x * evV q x:=ev_cv p (fun n=>by rw [seq_mul,ap_cv]) x
theorem seq_add5 (p q:List Rat) (n:Nat):seq (add5V p q) n=seq p n+seq q n:=by
 unfold add5V
 rw [seq_tz]
 show ((List.range (max p.length q.length)).map (fun i=>p.getD i 0+q.getD i 0)).getD n 0=p.getD n 0+q.getD n 0
 rw [pd_range]
 split
 ·rfl
 ·rw [pd_over (l:=p) (by omega),pd_over (l:=q) (by omega)];exact (Rat.add_zero 0).symm
theorem ev_add5 (p q:List Rat) (x:Rat):evV (add5V p q) x=evV p x+evV q x:=by
 have:=ev_lin (r:=add5V p q) (a:=p) (b:=q) (c:=1) (fun i=>by rw [seq_add5];grind) x
 rw [this];grind
theorem ev_map (p:List Rat) (c x:Rat):evV (p.map (· * c)) x=c * evV p x:=ev_seq (fun i=>by rw [seq_map];grind) x
def Pf (f:Rat→Rat):Prop:=∃ p,f=evV p
theorem Pf.const (c:Rat):Pf (fun _=>c):=⟨[c],funext fun x=>by show c=0 * x+c;grind⟩
theorem Pf.add {f g:Rat→Rat} (hf:Pf f) (hg:Pf g):Pf (fun x=>f x+g x):=by
 obtain ⟨p,rfl⟩:=hf
 obtain ⟨q,rfl⟩:=hg
 exact ⟨add5V p q,funext fun x=>(ev_add5 p q x).symm⟩
theorem Pf.mul {f g:Rat→Rat} (hf:Pf f) (hg:Pf g):Pf (fun x=>f x * g x):=by
 obtain ⟨p,rfl⟩:=hf
 obtain ⟨q,rfl⟩:=hg
 exact ⟨mul5V p q,funext fun x=>(ev_mul5 p q x).symm⟩
theorem Pf.lip {f:Rat→Rat} (h:Pf f) (A B:Rat):∃ K,0≤K∧Lip A B K f:=by obtain ⟨p,rfl⟩:=h;exact ev_lip p A B
theorem Pf.on {f:Rat→Rat} (h:Pf f) (A B:Rat):∃ K,0≤K∧On A B K f:=by obtain ⟨p,rfl⟩:=h;exact ev_on p A B
theorem lt_all {K v:Rat} (hK:0≤K) (h:∀ d,0 < d→d≤1→v≤K * d):v≤0:=by
 apply Classical.byContradiction
 intro hn
 obtain ⟨e,he,h1⟩:=step_ex hK (show 0 < v by grind)
 obtain ⟨d,hd,h2,h3⟩:=min_ex he (show (0:Rat) < 1 by decide)
 have h4:=h1 d h2
 have h5:=h d hd h3
 grind
theorem ev_zero (p:List Rat) (h:∀ x,evV p x=0):∀ i,seq p i=0:=by
 induction p with
 | nil=>intro i;rfl
 | cons c p ih =>
  have hc:c=0:=by have:=h 0;rw [ev_cons] at this;grind
  have h1:∀ x,x ≠ 0→evV p x=0:=fun x hx=>by
   have h2:=h x
   rw [ev_cons,hc] at h2
   have h3:evV p x * x=0:=by grind
   rcases Rat.mul_eq_zero.1 h3 with h4 | h4
   ·exact h4
   ·exact absurd h4 hx
  have h0:evV p 0=0:=by
   obtain ⟨K,hK,hL⟩:=ev_lip p 0 1
   have a1:=lt_all (v:=evV p 0) hK (fun d hd h2=>by
    have h3:=(hL 0 d Rat.le_refl (by grind) h2).1
    rw [h1 d (by grind)] at h3
    grind)
   have a2:=lt_all (v:=-evV p 0) hK (fun d hd h2=>by
    have h3:=(hL 0 d Rat.le_refl (by grind) h2).2
    rw [h1 d (by grind)] at h3
    grind)
   grind
  have h2:=ih (fun x=>by
   by_cases hx:x=0
   ·rw [hx];exact h0
   ·exact h1 x hx)
  intro i
  cases i with
  | zero=>exact hc
  | succ i=>exact h2 i
theorem ev_inj {p q:List Rat} (h:∀ x,evV p x=evV q x):∀ i,seq p i=seq q i:=by
 have h1:=ev_zero (add5V p (q.map (· * -1))) (fun x=>by rw [ev_add5,ev_map,h x];grind)
 intro i
 have:=h1 i
 rw [seq_add5,seq_map] at this
 grind
def Dv (a b:Rat→Rat):Prop:=∃ c,Pf c∧∀ x,b x=a x * c x
def Cp (a b:Rat→Rat):Prop:=∃ u v,Pf u∧Pf v∧∀ x,u x * a x+v x * b x=1
theorem Dv.trans {a b c:Rat→Rat} (h:Dv a b) (k:Dv b c):Dv a c:=by
 obtain ⟨u,hu,h1⟩:=h
 obtain ⟨v,hv,h2⟩:=k
 exact ⟨_,hu.mul hv,fun x=>by rw [h2,h1];grind⟩
theorem Dv.add {a b c:Rat→Rat} (h:Dv a b) (k:Dv a c):Dv a (fun x=>b x+c x):=by
 obtain ⟨u,hu,h1⟩:=h
 obtain ⟨v,hv,h2⟩:=k
 exact ⟨_,hu.add hv,fun x=>by show b x+c x=_;rw [h2,h1];grind⟩
theorem Cp.dv {a b c:Rat→Rat} (h:Cp a b) (hc:Pf c) (k:Dv a (fun x=>b x * c x)):Dv a c:=by
 obtain ⟨u,v,hu,hv,h1⟩:=h
 obtain ⟨d,hd,h2⟩:=k
 exact ⟨_,(hu.mul hc).add (hv.mul hd),fun x=>by
  have e1:=h1 x
  have e2:b x * c x=a x * d x:=h2 x
  have e3:(u x * a x+v x * b x) * c x=c x:=by rw [e1];grind
  have e4:v x * (b x * c x)=v x * (a x * d x):=by rw [e2]
  show c x=a x * ((u x * c x)+v x * d x)
  grind⟩
theorem Cp.symm {a b:Rat→Rat} (h:Cp a b):Cp b a:=by
 obtain ⟨u,v,hu,hv,h1⟩:=h
 exact ⟨v,u,hv,hu,fun x=>by have:=h1 x;grind⟩
def IsD (f g:Rat→Rat):Prop:=∀ A B,∃ K,0≤K∧∀ s t,A≤s→s≤t→t≤B→Bd (K * (t - s) * (t - s)) (f t - f s - g s * (t - s))
theorem IsD.const (c:Rat):IsD (fun _=>c) (fun _=>0):=fun A B=>⟨0,Rat.le_refl,fun s t _ _ _=>⟨by grind,by grind⟩⟩
theorem IsD.mul {f g f' g':Rat→Rat} (a:IsD f f') (b:IsD g g') (hf:Pf f) (hg:Pf g) (hf':Pf f'):IsD (fun x=>f x * g x) (fun x=>f' x * g x+f x * g' x):=by
 intro A B
 obtain ⟨K,hK,h1⟩:=a A B
 obtain ⟨L,hL,h2⟩:=b A B
 obtain ⟨M,hM,h3⟩:=hf.on A B
 obtain ⟨N,hN,h4⟩:=hg.on A B
 obtain ⟨P,hP,h5⟩:=hf'.on A B
 obtain ⟨Q,hQ,h6⟩:=hg.lip A B
 refine ⟨K * N+P * Q+M * L,by have:=mulN hK hN;have:=mulN hP hQ;have:=mulN hM hL;grind,fun s t k1 k2 k3=>?_⟩
 have h0:0≤t - s:=by grind
 have b1:=(h1 s t k1 k2 k3).mul (h4 t (by grind) k3)
 have b2:=((h5 s k1 (by grind)).mul (Bd.self h0)).mul (h6 s t k1 k2 k3)
 have b3:=(h3 s k1 (by grind)).mul (h2 s t k1 k2 k3)
 have e:=(b1.add b2).add b3
 rw [show (K * N+P * Q+M * L) * (t - s) * (t - s)=K * (t - s) * (t - s) * N+P * (t - s) * (Q * (t - s))+M * (L * (t - s) * (t - s)) by grind,
  show f t * g t - f s * g s - (f' s * g s+f s * g' s) * (t - s)=(f t - f s - f' s * (t - s)) * g t+f' s * (t - s) * (g t - g s)+f s * (g t - g s - g' s * (t - s)) by grind]
 exact e
end Go.Proofs.YtpieblkklbilgaaGreat.Sg
