/- Sturm's theorem over the rationals: on a fine enough grid the changes of sign in a chain fall by one where the first member changes its sign. Plain facts. -/
import Derived.Test.YtcbgamclcgcodaaGreatQYM28
set_option linter.unusedVariables false
namespace Go.Proofs.YtcbgamclcgcodaaGreat.Sg
def sg (q:Rat):Int:=if q < 0 then -1 else if q = 0 then 0 else 1
theorem sg_neg {q:Rat} (h:q < 0):sg q = -1:=if_pos h
theorem sg_zero:sg 0 = 0:=by decide
theorem sg_pos {q:Rat} (h:0 < q):sg q = 1:=by unfold sg; rw [if_neg (by grind),if_neg (by grind)]
theorem tri (a b:Rat):a < b ∨ a = b ∨ b < a:=by grind
theorem tot (a b:Rat):a≤b ∨ b≤a:=by grind
theorem sg_cases (q:Rat):(q < 0∧sg q = -1) ∨ (q = 0∧sg q = 0) ∨ (0 < q∧sg q = 1):=by
 rcases tri q 0 with h | h | h
 ·exact Or.inl ⟨h,sg_neg h⟩
 ·subst h; exact Or.inr (Or.inl ⟨rfl,sg_zero⟩)
 ·exact Or.inr (Or.inr ⟨h,sg_pos h⟩)
theorem sg_eq0 {q:Rat}:sg q = 0↔q = 0:=by rcases sg_cases q with ⟨h,e⟩ | ⟨h,e⟩ | ⟨h,e⟩ <;> rw [e] <;> constructor <;> intro k <;> first | omega | grind
def vr:Int→List Int→Nat
 | _,[]=>0
 | last,s :: l=>if s = 0 then vr last l else (if last ≠ 0∧s ≠ last then 1 else 0) + vr s l
def IsS (x:Int):Prop:=x = -1 ∨ x = 0 ∨ x = 1
theorem sg_is (q:Rat):IsS (sg q):=by rcases sg_cases q with ⟨h,e⟩ | ⟨h,e⟩ | ⟨h,e⟩ <;> rw [e] <;> unfold IsS <;> omega
inductive Rl:Int→List Int→List Int→Prop
 | nil (p:Int):Rl p [] []
 | big {p x:Int} {a b:List Int} (hx:x ≠ 0) (h:Rl x a b):Rl p (x :: a) (x :: b)
 | small {p x y z:Int} {a b:List Int} (hp:p ≠ 0) (hz:z = -p) (ip:IsS p) (ix:IsS x) (iy:IsS y) (h:Rl z a b):Rl p (x :: z :: a) (y :: z :: b)
theorem vr_small {p x z:Int} {a:List Int} (hp:p ≠ 0) (hz:z = -p) (ip:IsS p) (ix:IsS x):vr p (x :: z :: a) = 1 + vr z a:=by
 have hz0:z ≠ 0:=by omega
 have hzp:z ≠ p:=by omega
 by_cases h0:x = 0
 ·subst h0
  simp [vr,hz0,hp,hzp]
 ·by_cases h1:x = p
  ·subst h1
   simp [vr,h0,hz0,hzp]
  ·have h2:x = z:=by unfold IsS at ip ix; omega
   subst h2
   simp [vr,h0,hp,h1]
theorem Rl.vr {p:Int} {a b:List Int} (h:Rl p a b):vr p a = vr p b:=by
 induction h with
 | nil p=>rfl
 | big hx h ih=>simp [Sg.vr,hx,ih]
 | small hp hz ip ix iy h ih=>rw [vr_small hp hz ip ix,vr_small hp hz ip iy,ih]
def Bd (M x:Rat):Prop:=-M≤x∧x≤M
theorem Bd.mono {M N x:Rat} (h:Bd M x) (k:M≤N):Bd N x:=by have h1:=h.1; have h2:=h.2; exact ⟨by grind,by grind⟩
theorem Bd.add {M N x y:Rat} (h:Bd M x) (k:Bd N y):Bd (M + N) (x + y):=by have h1:=h.1; have h2:=h.2; have h3:=k.1; have h4:=k.2; exact ⟨by grind,by grind⟩
theorem Bd.sub {M N x y:Rat} (h:Bd M x) (k:Bd N y):Bd (M + N) (x - y):=by have h1:=h.1; have h2:=h.2; have h3:=k.1; have h4:=k.2; exact ⟨by grind,by grind⟩
theorem Bd.neg {M x:Rat} (h:Bd M x):Bd M (-x):=by have h1:=h.1; have h2:=h.2; exact ⟨by grind,by grind⟩
theorem Bd.mul {M N x y:Rat} (h:Bd M x) (k:Bd N y):Bd (M * N) (x * y):=by
 have h1:=h.1; have h2:=h.2; have h3:=k.1; have h4:=k.2
 have e1:=Rat.mul_nonneg (a:=M - x) (b:=N + y) (by grind) (by grind)
 have e2:=Rat.mul_nonneg (a:=M + x) (b:=N - y) (by grind) (by grind)
 have e3:=Rat.mul_nonneg (a:=M - x) (b:=N - y) (by grind) (by grind)
 have e4:=Rat.mul_nonneg (a:=M + x) (b:=N + y) (by grind) (by grind)
 exact ⟨by grind,by grind⟩
theorem Bd.self {x:Rat} (h:0≤x):Bd x x:=⟨by grind,by grind⟩
theorem Bd.ex (x:Rat):∃ M,0≤M∧Bd M x:=by
 rcases tot 0 x with h | h
 ·exact ⟨x,h,by grind,by grind⟩
 ·exact ⟨-x,by grind,by grind,by grind⟩
theorem bd_interval {A B x:Rat}:∃ R,0≤R∧∀ x,A≤x→x≤B→Bd R x:=by
 obtain ⟨M,h1,h2⟩:=Bd.ex A
 obtain ⟨N,h3,h4⟩:=Bd.ex B
 refine ⟨M + N,by grind,fun x hA hB=>?_⟩
 have h5:=h2.1; have h6:=h2.2; have h7:=h4.1; have h8:=h4.2
 exact ⟨by grind,by grind⟩
theorem mulN {a b:Rat} (h:0≤a) (k:0≤b):0≤a * b:=Rat.mul_nonneg h k
theorem mulP {a b:Rat} (h:0 < a) (k:0 < b):0 < a * b:=Rat.mul_pos h k
theorem divP {a b:Rat} (h:0 < a) (k:0 < b):0 < a / b:=by rw [Rat.div_def]; exact Rat.mul_pos h (Rat.inv_pos.2 k)
theorem div_cancel {a b:Rat} (k:b ≠ 0):a / b * b = a:=by rw [Rat.div_def,Rat.mul_assoc,Rat.inv_mul_cancel _ k,Rat.mul_one]
theorem mul_le {a b c:Rat} (h:a≤b) (k:0≤c):a * c≤b * c:=Rat.mul_le_mul_of_nonneg_right h k
theorem mul_le' {a b c:Rat} (h:a≤b) (k:0≤c):c * a≤c * b:=Rat.mul_le_mul_of_nonneg_left h k
theorem mul_lt {a b c:Rat} (h:a < b) (k:0 < c):a * c < b * c:=by
 have:=Rat.mul_pos (show 0 < b - a by grind) k
 grind
theorem thr {c m x:Rat} (hc:0 < c) (hm:0 < m) (h:m * 3≤c * x * 4):m / (2 * c)≤x:=by
 apply Classical.byContradiction
 intro hn
 have h1:=mul_lt (show x < m / (2 * c) by grind) hc
 have h2:m / (2 * c) * (2 * c) = m:=div_cancel (by grind)
 grind
def Lip (A B K:Rat) (f:Rat→Rat):Prop:=∀ s t,A≤s→s≤t→t≤B→Bd (K * (t - s)) (f t - f s)
theorem Lip.mono {A B K L:Rat} {f:Rat→Rat} (h:Lip A B K f) (k:K≤L):Lip A B L f:=fun s t h1 h2 h3=>(h s t h1 h2 h3).mono (mul_le k (by grind))
def On (A B M:Rat) (f:Rat→Rat):Prop:=∀ x,A≤x→x≤B→Bd M (f x)
def Big (r x:Rat):Prop:=r≤x ∨ x≤-r
theorem not_big {r x:Rat} (h:¬ Big r x):-r < x∧x < r:=by
 unfold Big at h
 exact ⟨by grind,by grind⟩
theorem Big.sign {A B K r s t:Rat} {f:Rat→Rat} (hf:Lip A B K f) (hb:Big r (f s)) (h1:A≤s) (h2:s≤t) (h3:t≤B) (h4:K * (t - s) < r):sg (f t) = sg (f s)∧sg (f s) ≠ 0:=by
 obtain ⟨e1,e2⟩:=hf s t h1 h2 h3
 have hr:0 < r:=by grind
 rcases hb with h | h
 ·rw [sg_pos (show 0 < f s by grind),sg_pos (show 0 < f t by grind)]; exact ⟨rfl,by decide⟩
 ·rw [sg_neg (show f s < 0 by grind),sg_neg (show f t < 0 by grind)]; exact ⟨rfl,by decide⟩
def Row (A B:Rat) (f g h:Rat→Rat):Prop:=∃ c d Q:Rat,0 < c∧0 < d∧0≤Q∧∃ q:Rat→Rat,On A B Q q∧∀ x,c * f x + d * h x = q x * g x
def Ch (A B:Rat):(Rat→Rat)→List (Rat→Rat)→Prop
 | f,[]=>∃ r,0 < r∧∀ x,A≤x→x≤B→Big r (f x)
 | f,[g]=>Ch A B g []
 | f,g :: h :: l=>Row A B f g h∧Ch A B g (h :: l)
def sgs (l:List (Rat→Rat)) (x:Rat):List Int:=l.map (fun f=>sg (f x))
def Cell (f:Rat→Rat) (l:List (Rat→Rat)) (b r s t:Rat):Prop :=
 (Big r (f s)→sg (f s) ≠ 0∧sg (f t) = sg (f s)∧Rl (sg (f s)) (sgs l s) (sgs l t)) ∧
 (¬ Big r (f s)→∃ g l',l = g :: l'∧Big b (g s)∧sg (g s) ≠ 0∧sg (g t) = sg (g s)∧Rl (sg (g s)) (sgs l' s) (sgs l' t))
def St (A B:Rat) (f:Rat→Rat) (l:List (Rat→Rat)):Prop :=
 ∃ b,0 < b∧∃ r0,0 < r0∧∀ r,0 < r→r≤r0→∃ e,0 < e∧∀ s t,A≤s→s≤t→t≤B→t - s≤e→Cell f l b r s t
theorem step_ex {K r:Rat} (hK:0≤K) (hr:0 < r):∃ e,0 < e∧∀ d,d≤e→K * d < r:=by
 refine ⟨r / (K + 1),divP hr (by grind),fun d hd=>?_⟩
 have h1:=mul_le' hd hK
 have h2:r / (K + 1) * (K + 1) = r:=div_cancel (by grind)
 have h3:=divP hr (show 0 < K + 1 by grind)
 grind
theorem min_ex {a b:Rat} (ha:0 < a) (hb:0 < b):∃ c,0 < c∧c≤a∧c≤b:=by
 rcases tot a b with h | h
 ·exact ⟨a,ha,Rat.le_refl,h⟩
 ·exact ⟨b,hb,h,Rat.le_refl⟩
theorem row_small {A B b r s c d Q:Rat} {f g h q:Rat→Rat} (hc:0 < c) (hd:0 < d) (hQ:0≤Q) (hq:On A B Q q) (he:∀ x,c * f x + d * h x = q x * g x) (h1:A≤s) (h2:s≤B) (hg:¬ Big r (g s)) (hr:Q * r * 4≤d * b) (hb0:0 < b) (hb:Big b (h s)) :
  (f s < 0∧0 < h s∧d * b * 3≤-(c * f s) * 4) ∨ (0 < f s∧h s < 0∧d * b * 3≤c * f s * 4):=by
 obtain ⟨g1,g2⟩:=not_big hg
 obtain ⟨k1,k2⟩:=(hq s h1 h2).mul (show Bd r (g s) from ⟨by grind,by grind⟩)
 have e:=he s
 have hdb:=mulP hd hb0
 rcases hb with h3 | h3
 ·left
  have h4:=mul_le' h3 (Rat.le_of_lt hd)
  have h5:c * f s < 0:=by grind
  refine ⟨?_,by grind,by grind⟩
  rcases tri (f s) 0 with h6 | h6 | h6
  ·exact h6
  ·rw [h6] at h5; grind
  ·have:=mulP hc h6; grind
 ·right
  have h4:=mul_le' (show b≤-h s by grind) (Rat.le_of_lt hd)
  have h5:0 < c * f s:=by grind
  refine ⟨?_,by grind,by grind⟩
  rcases tri (f s) 0 with h6 | h6 | h6
  ·have:=mulP hc (show 0 < -f s by grind); grind
  ·rw [h6] at h5; grind
  ·exact h6
theorem ch_st {A B:Rat}:∀ (l:List (Rat→Rat)) (f:Rat→Rat),Ch A B f l→(∃ K,0≤K∧Lip A B K f)→(∀ g ∈ l,∃ K,0≤K∧Lip A B K g)→St A B f l:=by
 intro l
 induction l with
 | nil =>
  intro f ⟨d,hd,hb⟩ ⟨K,hK,hL⟩ _
  refine ⟨1,by decide,d,hd,fun r hr hrd=>?_⟩
  obtain ⟨e,he,h⟩:=step_ex hK hr
  refine ⟨e,he,fun s t h1 h2 h3 h4=>⟨fun h5=>?_,fun h5=>?_⟩⟩
  ·obtain ⟨g1,g2⟩:=h5.sign hL h1 h2 h3 (h _ h4)
   exact ⟨g2,g1,Rl.nil _⟩
  ·refine absurd ?_ h5
   rcases hb s h1 (by grind) with h6 | h6
   ·exact Or.inl (by grind)
   ·exact Or.inr (by grind)
 | cons g l ih =>
  intro f hc ⟨K,hK,hL⟩ hl
  have hg:Ch A B g l:=by
   cases l with
   | nil=>exact hc
   | cons h l=>exact hc.2
  obtain ⟨b,hb,r0,hr0,hst⟩:=ih g hg (hl g List.mem_cons_self) (fun x hx=>hl x (List.mem_cons_of_mem _ hx))
  -- the threshold of g and that of f
  obtain ⟨rg,hrg,hrg0,rf,hrf,hsm⟩:∃ rg,0 < rg∧rg≤r0∧∃ rf,0 < rf∧∀ s,A≤s→s≤B→∀ h l',l = h :: l'→¬ Big rg (g s)→Big b (h s)→sg (h s) = -sg (f s)∧sg (f s) ≠ 0∧Big rf (f s):=by
   cases l with
   | nil=>exact ⟨r0,hr0,Rat.le_refl,1,by decide,fun s _ _ h l' e=>by cases e⟩
   | cons h l =>
    obtain ⟨⟨c,d,Q,hc,hd,hQ,q,hq,he⟩,-⟩:=hc
    obtain ⟨e,he0,hee⟩:=step_ex (K:=Q * 4) (r:=d * b) (by grind) (mulP hd hb)
    obtain ⟨rg,h1,h2,h3⟩:=min_ex hr0 he0
    have hp:=divP (mulP hd hb) (show 0 < 2 * c by grind)
    refine ⟨rg,h1,h2,d * b / (2 * c),hp,fun s k1 k2 h' l' e k3 k4=>?_⟩
    cases e
    have hr4:=hee rg h3
    rcases row_small hc hd hQ hq he k1 k2 k3 (by grind) hb k4 with ⟨m1,m2,m3⟩ | ⟨m1,m2,m3⟩
    ·rw [sg_pos m2,sg_neg m1]
     refine ⟨rfl,by decide,Or.inr ?_⟩
     have:=thr (x:=-f s) hc (mulP hd hb) (by grind)
     grind
    ·rw [sg_neg m2,sg_pos m1]
     exact ⟨rfl,by decide,Or.inl (thr hc (mulP hd hb) m3)⟩
  obtain ⟨eg,heg,hcell⟩:=hst rg hrg hrg0
  refine ⟨rg,hrg,rf,hrf,fun r hr hrf'=>?_⟩
  obtain ⟨ef,hef,hstep⟩:=step_ex hK hr
  obtain ⟨e,he,he1,he2⟩:=min_ex heg hef
  refine ⟨e,he,fun s t h1 h2 h3 h4=>?_⟩
  have hg:=hcell s t h1 h2 h3 (by grind)
  refine ⟨fun h5=>?_,fun h5=>?_⟩
  ·obtain ⟨g1,g2⟩:=h5.sign hL h1 h2 h3 (hstep _ (by grind))
   refine ⟨g2,g1,?_⟩
   by_cases hb':Big rg (g s)
   ·obtain ⟨k1,k2,k3⟩:=hg.1 hb'
    show Rl _ (sg (g s) :: sgs l s) (sg (g t) :: sgs l t)
    rw [k2]
    exact Rl.big k1 k3
   ·obtain ⟨h,l',rfl,k1,k2,k3,k4⟩:=hg.2 hb'
    obtain ⟨m1,m2,m3⟩:=hsm s h1 (by grind) h l' rfl hb' k1
    show Rl _ (sg (g s) :: sg (h s) :: sgs l' s) (sg (g t) :: sg (h t) :: sgs l' t)
    rw [k3]
    exact Rl.small g2 m1 (sg_is _) (sg_is _) (sg_is _) k4
  ·refine ⟨g,l,rfl,?_⟩
   by_cases hb':Big rg (g s)
   ·obtain ⟨k1,k2,k3⟩:=hg.1 hb'
    exact ⟨hb',k1,k2,k3⟩
   ·obtain ⟨h,l',rfl,k1,k2,k3,k4⟩:=hg.2 hb'
    obtain ⟨m1,m2,m3⟩:=hsm s h1 (by grind) h l' rfl hb' k1
    refine absurd ?_ h5
    rcases m3 with m | m
    ·exact Or.inl (by grind)
    ·exact Or.inr (by grind)
def V (f:Rat→Rat) (l:List (Rat→Rat)) (x:Rat):Nat:=vr 0 (sgs (f :: l) x)
theorem vr0_cons {x:Int} {a:List Int} (h:x ≠ 0):vr 0 (x :: a) = vr x a:=by simp [vr,h]
theorem vr0_zero {a:List Int}:vr 0 (0 :: a) = vr 0 a:=by simp [vr]
def Slope (A B:Rat) (f g:Rat→Rat):Prop:=∃ k K,0 < k∧0≤K∧∀ s t,A≤s→s≤t→t≤B→Bd (K * (t - s) * (t - s)) (f t - f s - k * g s * (t - s))
def cross (f:Rat→Rat) (s t:Rat):Nat:=if sg (f s) ≠ 0∧sg (f t) ≠ sg (f s) then 1 else 0
theorem sturm_cell {A B:Rat} {f:Rat→Rat} {l:List (Rat→Rat)} (hc:Ch A B f l) (hf:∃ K,0≤K∧Lip A B K f) (hl:∀ g ∈ l,∃ K,0≤K∧Lip A B K g) (hs:∀ g l',l = g :: l'→Slope A B f g) :
  ∃ e,0 < e∧∀ s t,A≤s→s < t→t≤B→t - s≤e→V f l s = V f l t + cross f s t∧(f s = 0→f t ≠ 0):=by
 obtain ⟨b,hb,r0,hr0,hst⟩:=ch_st l f hc hf hl
 obtain ⟨e1,he1,hcell⟩:=hst r0 hr0 Rat.le_refl
 obtain ⟨e2,he2,hsl⟩:∃ e2,0 < e2∧∀ g l',l = g :: l'→∀ s t,A≤s→s < t→t≤B→t - s≤e2→(b≤g s→f s < f t)∧(g s≤-b→f t < f s):=by
  cases l with
  | nil=>exact ⟨1,by decide,fun g l' e=>by cases e⟩
  | cons g l =>
   obtain ⟨k,K,hk,hK,h⟩:=hs g l rfl
   obtain ⟨e,he,h2⟩:=step_ex hK (mulP hk hb)
   refine ⟨e,he,fun g' l' ee s t h3 h4 h5 h6=>?_⟩
   cases ee
   obtain ⟨m1,m2⟩:=h s t h3 (by grind) h5
   have h7:=mul_lt (h2 _ h6) (show 0 < t - s by grind)
   refine ⟨fun h8=>?_,fun h8=>?_⟩
   ·have h9:=mul_le (mul_le' h8 (Rat.le_of_lt hk)) (show 0≤t - s by grind)
    grind
   ·have h9:=mul_le (mul_le' h8 (Rat.le_of_lt hk)) (show 0≤t - s by grind)
    grind
 obtain ⟨e,he,hm1,hm2⟩:=min_ex he1 he2
 refine ⟨e,he,fun s t h1 h2 h3 h4=>?_⟩
 obtain ⟨c1,c2⟩:=hcell s t h1 (by grind) h3 (by grind)
 by_cases h5:Big r0 (f s)
 ·obtain ⟨k1,k2,k3⟩:=c1 h5
  refine ⟨?_,fun h=>absurd (sg_eq0.2 h) k1⟩
  unfold V cross
  show vr 0 (sg (f s) :: sgs l s) = vr 0 (sg (f t) :: sgs l t) + _
  rw [k2,vr0_cons k1,vr0_cons k1,k3.vr,if_neg (by simp)]
  rfl
 ·obtain ⟨g,l',rfl,k1,k2,k3,k4⟩:=c2 h5
  obtain ⟨s1,s2⟩:=hsl g l' rfl s t h1 h2 h3 (by grind)
  have e0:V f (g :: l') s = (if sg (f s) ≠ 0∧sg (g s) ≠ sg (f s) then 1 else 0) + vr (sg (g s)) (sgs l' s):=by
   show vr 0 (sg (f s) :: sg (g s) :: sgs l' s) = _
   by_cases h0:sg (f s) = 0
   ·rw [h0,vr0_zero,vr0_cons k2]; simp
   ·rw [vr0_cons h0]; simp [vr,k2,h0]
  have e1:V f (g :: l') t = (if sg (f t) ≠ 0∧sg (g s) ≠ sg (f t) then 1 else 0) + vr (sg (g s)) (sgs l' s):=by
   show vr 0 (sg (f t) :: sg (g t) :: sgs l' t) = _
   rw [k3,k4.vr]
   by_cases h0:sg (f t) = 0
   ·rw [h0,vr0_zero,vr0_cons k2]; simp
   ·rw [vr0_cons h0]; simp [vr,k2,h0]
  rw [e0,e1]
  unfold cross
  rcases k1 with k | k
  ·have hlt:=s1 k
   rw [sg_pos (show 0 < g s by grind)]
   clear hc hf hl hs hst hcell hsl c1 c2 k3 k4 s1 s2 e0 e1
   rcases sg_cases (f s) with ⟨a1,a2⟩ | ⟨a1,a2⟩ | ⟨a1,a2⟩ <;> rcases sg_cases (f t) with ⟨b1,b2⟩ | ⟨b1,b2⟩ | ⟨b1,b2⟩ <;> rw [a2,b2] <;> first | (exfalso; grind) | (refine ⟨by simp <;> omega,?_⟩; grind)
  ·have hlt:=s2 k
   rw [sg_neg (show g s < 0 by grind)]
   clear hc hf hl hs hst hcell hsl c1 c2 k3 k4 s1 s2 e0 e1
   rcases sg_cases (f s) with ⟨a1,a2⟩ | ⟨a1,a2⟩ | ⟨a1,a2⟩ <;> rcases sg_cases (f t) with ⟨b1,b2⟩ | ⟨b1,b2⟩ | ⟨b1,b2⟩ <;> rw [a2,b2] <;> first | (exfalso; grind) | (refine ⟨by simp <;> omega,?_⟩; grind)
theorem grid_ind {A B e:Rat} {P:Rat→Rat→Prop} (he:0 < e) (h1:∀ s t,A≤s→s < t→t≤B→t - s≤e→P s t) (h2:∀ s t u,A≤s→s < t→t < u→u≤B→P s t→P t u→P s u):∀ s t,A≤s→s < t→t≤B→P s t:=by
  have key:∀ n:Nat,∀ s t,A≤s→s < t→t≤B→t - s≤(n:Rat) * e→P s t:=by
    intro n
    induction n with
    | zero => intro s t a b c d; exfalso; have : ((0 : Nat) : Rat) * e = 0 := by rw [show ((0 : Nat) : Rat) = 0 from rfl]; grind
              grind
    | succ n ih =>
      intro s t a b c d
      rcases tot (t - s) e with h | h
      · exact h1 s t a b c h
      · by_cases hq:t - s = e
        · exact h1 s t a b c (by grind)
        · have e1:((n + 1:Nat):Rat) * e = (n:Rat) * e + e:=by rw [Rat.natCast_add,show ((1:Nat):Rat) = 1 from rfl]; grind
          exact h2 s (s + e) t a (by grind) (by grind) c (h1 s (s + e) a (by grind) (by grind) (by grind)) (ih (s + e) t (by grind) (by grind) c (by grind))
  intro s t a b c
  have hx:0 < (t - s) / e:=divP (by grind) he
  obtain ⟨n,hn⟩:∃ n:Nat,(t - s) / e≤(n:Rat):=by
    have h3:=Rat.lt_floor_add_one ((t - s) / e)
    refine ⟨((t - s) / e).floor.toNat + 1,?_⟩
    have h4:(((t - s) / e).floor + 1:Int)≤((((t - s) / e).floor.toNat + 1:Nat):Int):=by omega
    have h5:=Rat.intCast_le_intCast.2 h4
    rw [Rat.intCast_natCast] at h5
    grind
  refine key n s t a b c ?_
  have h8:=mul_le hn (Rat.le_of_lt he)
  rw [div_cancel (by grind)] at h8
  exact h8
theorem ev_on (p:List Rat) (A B:Rat):∃ M,0≤M∧On A B M (evV p):=by
 obtain ⟨R,hR,hb⟩:=bd_interval (A:=A) (B:=B) (x:=0)
 induction p with
 | nil=>exact ⟨0,Rat.le_refl,fun x _ _=>⟨by show -0≤(0:Rat); decide,by show (0:Rat)≤0; decide⟩⟩
 | cons c p ih =>
  obtain ⟨M,hM,h⟩:=ih
  obtain ⟨N,hN,k⟩:=Bd.ex c
  exact ⟨M * R + N,by have:=mulN hM hR; grind,fun x h1 h2=>((h x h1 h2).mul (hb x h1 h2)).add k⟩
theorem ev_lip (p:List Rat) (A B:Rat):∃ K,0≤K∧Lip A B K (evV p):=by
 obtain ⟨R,hR,hb⟩:=bd_interval (A:=A) (B:=B) (x:=0)
 induction p with
 | nil=>exact ⟨0,Rat.le_refl,fun s t _ h _=>⟨by show -(0 * (t - s))≤(0:Rat) - 0; grind,by show (0:Rat) - 0≤0 * (t - s); grind⟩⟩
 | cons c p ih =>
  obtain ⟨K,hK,h⟩:=ih
  obtain ⟨M,hM,k⟩:=ev_on p A B
  refine ⟨K * R + M,by have:=mulN hK hR; grind,fun s t h1 h2 h3=>?_⟩
  have a:=(h s t h1 h2 h3).mul (hb t (by grind) h3)
  have b:=(k s h1 (by grind)).mul (Bd.self (show 0≤t - s by grind))
  have e:evV (c :: p) t - evV (c :: p) s = (evV p t - evV p s) * t + evV p s * (t - s):=by
   show evV p t * t + c - (evV p s * s + c) = _
   grind
  rw [e,show (K * R + M) * (t - s) = K * (t - s) * R + M * (t - s) by grind]
  exact a.add b
def evD:List Rat→Rat→Rat
 | [],_=>0
 | _ :: p,x=>evD p x * x + evV p x
theorem evD_on (p:List Rat) (A B:Rat):∃ M,0≤M∧On A B M (evD p):=by
 obtain ⟨R,hR,hb⟩:=bd_interval (A:=A) (B:=B) (x:=0)
 induction p with
 | nil=>exact ⟨0,Rat.le_refl,fun x _ _=>⟨by show -0≤(0:Rat); decide,by show (0:Rat)≤0; decide⟩⟩
 | cons c p ih =>
  obtain ⟨M,hM,h⟩:=ih
  obtain ⟨N,hN,k⟩:=ev_on p A B
  exact ⟨M * R + N,by have:=mulN hM hR; grind,fun x h1 h2=>((h x h1 h2).mul (hb x h1 h2)).add (k x h1 h2)⟩
theorem ev_slope (p:List Rat) (A B:Rat):∃ K,0≤K∧∀ s t,A≤s→s≤t→t≤B→Bd (K * (t - s) * (t - s)) (evV p t - evV p s - evD p s * (t - s)):=by
 obtain ⟨R,hR,hb⟩:=bd_interval (A:=A) (B:=B) (x:=0)
 induction p with
 | nil=>exact ⟨0,Rat.le_refl,fun s t _ h _=>⟨by show -(0 * (t - s) * (t - s))≤(0:Rat) - 0 - 0 * (t - s); grind,by show (0:Rat) - 0 - 0 * (t - s)≤0 * (t - s) * (t - s); grind⟩⟩
 | cons c p ih =>
  obtain ⟨K,hK,h⟩:=ih
  obtain ⟨M,hM,k⟩:=evD_on p A B
  refine ⟨K * R + M,by have:=mulN hK hR; grind,fun s t h1 h2 h3=>?_⟩
  have a:=(h s t h1 h2 h3).mul (hb t (by grind) h3)
  have h0:0≤t - s:=by grind
  have b:=((k s h1 (by grind)).mul (Bd.self h0)).mul (Bd.self h0)
  have e:evV (c :: p) t - evV (c :: p) s - evD (c :: p) s * (t - s) = (evV p t - evV p s - evD p s * (t - s)) * t + evD p s * (t - s) * (t - s):=by
   show evV p t * t + c - (evV p s * s + c) - (evD p s * s + evV p s) * (t - s) = _
   grind
  rw [e,show (K * R + M) * (t - s) * (t - s) = K * (t - s) * (t - s) * R + M * (t - s) * (t - s) by grind]
  exact a.add b
structure Fit (A B:Rat) (f:Rat→Rat) (l:List (Rat→Rat)):Prop where
 ch:Ch A B f l
 lf:∃ K,0≤K∧Lip A B K f
 ll:∀ g ∈ l,∃ K,0≤K∧Lip A B K g
 sl:∀ g l',l = g :: l'→Slope A B f g
theorem Fit.cell {A B:Rat} {f:Rat→Rat} {l:List (Rat→Rat)} (h:Fit A B f l):∃ e,0 < e∧∀ s t,A≤s→s < t→t≤B→t - s≤e→V f l s = V f l t + cross f s t∧(f s = 0→f t ≠ 0):=sturm_cell h.ch h.lf h.ll h.sl
theorem Fit.mono {A B:Rat} {f:Rat→Rat} {l:List (Rat→Rat)} (h:Fit A B f l):∀ s t,A≤s→s < t→t≤B→V f l t≤V f l s:=by
 obtain ⟨e,he,hc⟩:=h.cell
 refine grid_ind he (fun s t h1 h2 h3 h4=>?_) (fun s t u _ _ _ _ h1 h2=>by omega)
 have:=(hc s t h1 h2 h3 h4).1
 omega
theorem Fit.same {A B:Rat} {f:Rat→Rat} {l:List (Rat→Rat)} (h:Fit A B f l) (hV:V f l A = V f l B):∀ s t,A≤s→s < t→t≤B→(f s ≠ 0→sg (f t) = sg (f s))∧(f s = 0→f t ≠ 0):=by
 obtain ⟨e,he,hc⟩:=h.cell
 have hm:=h.mono
 refine grid_ind he (fun s t h1 h2 h3 h4=>?_) (fun s t u _ _ _ _ h1 h2=>?_)
 ·obtain ⟨k1,k2⟩:=hc s t h1 h2 h3 h4
  refine ⟨fun h5=>?_,k2⟩
  have m1:V f l s≤V f l A:=by
   rcases (Rat.le_iff_lt_or_eq.1 h1) with h6 | h6
   ·exact hm A s Rat.le_refl h6 (by grind)
   ·rw [h6]; exact Nat.le_refl _
  have m2:V f l B≤V f l t:=by
   rcases (Rat.le_iff_lt_or_eq.1 h3) with h6 | h6
   ·exact hm t B (by grind) h6 Rat.le_refl
   ·rw [h6]; exact Nat.le_refl _
  have h0:cross f s t = 0:=by omega
  unfold cross at h0
  apply Classical.byContradiction
  intro hn
  rw [if_pos ⟨fun h=>h5 (sg_eq0.1 h),hn⟩] at h0
  omega
 ·refine ⟨fun h5=>?_,fun h5=>?_⟩
  ·have h6:=h1.1 h5
   have h7:f t ≠ 0:=fun h8=>h5 (sg_eq0.1 (by rw [← h6]; exact sg_eq0.2 h8))
   rw [h2.1 h7,h6]
  ·have h7:=h1.2 h5
   intro h8
   have h9:=h2.1 h7
   exact h7 (sg_eq0.1 (by rw [← h9]; exact sg_eq0.2 h8))
theorem Fit.calm {A B:Rat} {f:Rat→Rat} {l:List (Rat→Rat)} (h:Fit A B f l) {x y:Rat} (hx:A≤x) (hxy:x < y) (hy:y≤B) (hs:∀ s t,x≤s→s < t→t≤y→f s ≠ 0→sg (f t) = sg (f s)):V f l x = V f l y:=by
 obtain ⟨e,he,hc⟩:=h.cell
 refine grid_ind (A:=x) (B:=y) (P:=fun s t=>V f l s = V f l t) he (fun s t h1 h2 h3 h4=>?_) (fun s t u _ _ _ _ h1 h2=>h1.trans h2) x y Rat.le_refl hxy Rat.le_refl
 rw [(hc s t (by grind) h2 (by grind) h4).1]
 unfold cross
 rw [if_neg (fun h5=>h5.2 (hs s t h1 h2 h3 (fun h=>h5.1 (sg_eq0.2 h))))]
 rfl
end Go.Proofs.YtcbgamclcgcodaaGreat.Sg
/- Polynomial functions over the rationals: divisors, coprime ones, the greatest common divisor, the polynomial with the same roots, each once. Plain facts. -/
set_option linter.unusedVariables false
namespace Go.Proofs.YtcbgamclcgcodaaGreat.Sg
open Go.RowKit Go.Front Go.Num Go.Stab Go.Proofs.YtcbgamclcgcodaaGreat
theorem ev_lin {r a b:List Rat} {c:Rat} (h:∀ i,seq r i = c * seq a i + seq b i) (x:Rat):evV r x = c * evV a x + evV b x:=by
 obtain ⟨N,h1,h2,h3⟩:∃ N,r.length≤N∧a.length≤N∧b.length≤N:=⟨r.length + a.length + b.length,by omega,by omega,by omega⟩
 rw [ev_smN h1,ev_smN h2,ev_smN h3,← sm_mul,← sm_add]
 exact sm_congr (fun i _=>by rw [h]; grind)
theorem seq_cons0 (r:List Rat):seq (0 :: r) = sh (seq r):=by funext n; cases n <;> rfl
theorem ev_cv (p:List Rat) {q r:List Rat} (h:∀ n,seq r n = cv (seq p) (seq q) n) (x:Rat):evV r x = evV p x * evV q x:=by
 induction p generalizing r with
 | nil =>
  have e:evV r x = 0 * evV [] x:=ev_seq (fun i=>by rw [h i,← ap_cv]; show (0:Rat) = 0 * _; grind) x
  rw [e]
  show (0:Rat) * _ = (0:Rat) * _
  grind
 | cons c p ih =>
  have e1:evV (mul5V p q) x = evV p x * evV q x:=ih (fun n=>by rw [seq_mul,ap_cv])
  have e2:evV r x = c * evV q x + evV (0 :: mul5V p q) x:=ev_lin (fun i=>by
   rw [h i,← ap_cv,seq_cons0,seq_mul]
   rfl) x
  rw [e2,ev_cons,e1,ev_cons]
  grind
theorem ev_mul5 (p q:List Rat) (x:Rat):evV (mul5V p q) x = evV p x * evV q x:=ev_cv p (fun n=>by rw [seq_mul,ap_cv]) x
theorem seq_add5 (p q:List Rat) (n:Nat):seq (add5V p q) n = seq p n + seq q n:=by
 unfold add5V
 rw [seq_tz]
 show ((List.range (max p.length q.length)).map (fun i=>p.getD i 0 + q.getD i 0)).getD n 0 = p.getD n 0 + q.getD n 0
 rw [pd_range]
 split
 ·rfl
 ·rw [pd_over (l:=p) (by omega),pd_over (l:=q) (by omega)]; exact (Rat.add_zero 0).symm
theorem ev_add5 (p q:List Rat) (x:Rat):evV (add5V p q) x = evV p x + evV q x:=by
 have:=ev_lin (r:=add5V p q) (a:=p) (b:=q) (c:=1) (fun i=>by rw [seq_add5]; grind) x
 rw [this]; grind
theorem ev_map (p:List Rat) (c x:Rat):evV (p.map (· * c)) x = c * evV p x:=ev_seq (fun i=>by rw [seq_map]; grind) x
def Pf (f:Rat→Rat):Prop:=∃ p,f = evV p
theorem Pf.ev (p:List Rat):Pf (evV p):=⟨p,rfl⟩
theorem Pf.const (c:Rat):Pf (fun _=>c):=⟨[c],funext fun x=>by show c = 0 * x + c; grind⟩
theorem Pf.add {f g:Rat→Rat} (hf:Pf f) (hg:Pf g):Pf (fun x=>f x + g x):=by
 obtain ⟨p,rfl⟩:=hf
 obtain ⟨q,rfl⟩:=hg
 exact ⟨add5V p q,funext fun x=>(ev_add5 p q x).symm⟩
theorem Pf.mul {f g:Rat→Rat} (hf:Pf f) (hg:Pf g):Pf (fun x=>f x * g x):=by
 obtain ⟨p,rfl⟩:=hf
 obtain ⟨q,rfl⟩:=hg
 exact ⟨mul5V p q,funext fun x=>(ev_mul5 p q x).symm⟩
theorem Pf.smul {f:Rat→Rat} (c:Rat) (hf:Pf f):Pf (fun x=>c * f x):=(Pf.const c).mul hf
theorem Pf.sub {f g:Rat→Rat} (hf:Pf f) (hg:Pf g):Pf (fun x=>f x - g x):=by
 have h:=hf.add (hg.smul (-1))
 have e:(fun x=>f x - g x) = (fun x=>f x + -1 * g x):=funext fun x=>by grind
 rw [e]; exact h
theorem Pf.lip {f:Rat→Rat} (h:Pf f) (A B:Rat):∃ K,0≤K∧Lip A B K f:=by obtain ⟨p,rfl⟩:=h; exact ev_lip p A B
theorem Pf.on {f:Rat→Rat} (h:Pf f) (A B:Rat):∃ K,0≤K∧On A B K f:=by obtain ⟨p,rfl⟩:=h; exact ev_on p A B
theorem lt_all {K v:Rat} (hK:0≤K) (h:∀ d,0 < d→d≤1→v≤K * d):v≤0:=by
 apply Classical.byContradiction
 intro hn
 obtain ⟨e,he,h1⟩:=step_ex hK (show 0 < v by grind)
 obtain ⟨d,hd,h2,h3⟩:=min_ex he (show (0:Rat) < 1 by decide)
 have h4:=h1 d h2
 have h5:=h d hd h3
 grind
theorem ev_zero (p:List Rat) (h:∀ x,evV p x = 0):∀ i,seq p i = 0:=by
 induction p with
 | nil=>intro i; rfl
 | cons c p ih =>
  have hc:c = 0:=by have:=h 0; rw [ev_cons] at this; grind
  have h1:∀ x,x ≠ 0→evV p x = 0:=fun x hx=>by
   have h2:=h x
   rw [ev_cons,hc] at h2
   have h3:evV p x * x = 0:=by grind
   rcases Rat.mul_eq_zero.1 h3 with h4 | h4
   ·exact h4
   ·exact absurd h4 hx
  have h0:evV p 0 = 0:=by
   obtain ⟨K,hK,hL⟩:=ev_lip p 0 1
   have a1:=lt_all (v:=evV p 0) hK (fun d hd h2=>by
    have h3:=(hL 0 d Rat.le_refl (by grind) h2).1
    rw [h1 d (by grind)] at h3
    grind)
   have a2:=lt_all (v:=-evV p 0) hK (fun d hd h2=>by
    have h3:=(hL 0 d Rat.le_refl (by grind) h2).2
    rw [h1 d (by grind)] at h3
    grind)
   grind
  have h2:=ih (fun x=>by
   by_cases hx:x = 0
   ·rw [hx]; exact h0
   ·exact h1 x hx)
  intro i
  cases i with
  | zero=>exact hc
  | succ i=>exact h2 i
theorem ev_inj {p q:List Rat} (h:∀ x,evV p x = evV q x):∀ i,seq p i = seq q i:=by
 have h1:=ev_zero (add5V p (q.map (· * -1))) (fun x=>by rw [ev_add5,ev_map,h x]; grind)
 intro i
 have:=h1 i
 rw [seq_add5,seq_map] at this
 grind
theorem ev_tznil {p:List Rat}:tz p = []↔∀ x,evV p x = 0:=by
 constructor
 ·intro h x; rw [← ev_tz,h]; rfl
 ·intro h
  have:=pd_ext (a:=p) (b:=[]) (fun i=>by rw [ev_zero p h i]; rfl)
  exact this
theorem cv_ne {p q:List Rat} (hp:tz p ≠ []) (hq:tz q ≠ []):∃ n,cv (seq p) (seq q) n ≠ 0:=by
 obtain ⟨a,ha⟩:∃ a,(tz p).length = a + 1:=⟨(tz p).length - 1,by have:=List.length_pos_iff.2 hp; omega⟩
 obtain ⟨b,hb⟩:∃ b,(tz q).length = b + 1:=⟨(tz q).length - 1,by have:=List.length_pos_iff.2 hq; omega⟩
 refine ⟨a + b,?_⟩
 rw [← seq_tz p,← seq_tz q,cv_top (by rw [← ha]; exact Bd.seq _) (by rw [← hb]; exact Bd.seq _)]
 intro h
 have h1:=lead_tz hp
 have h2:=lead_tz hq
 unfold lead at h1 h2
 rw [ha,Nat.add_sub_cancel] at h1
 rw [hb,Nat.add_sub_cancel] at h2
 rcases Rat.mul_eq_zero.1 h with h3 | h3
 ·exact h1 h3
 ·exact h2 h3
theorem pf_dom {f g:Rat→Rat} (hf:Pf f) (hg:Pf g) (h:∀ x,f x * g x = 0) (h0:∃ x,f x ≠ 0):∀ x,g x = 0:=by
 obtain ⟨p,rfl⟩:=hf
 obtain ⟨q,rfl⟩:=hg
 obtain ⟨y,hy⟩:=h0
 have hp:tz p ≠ []:=fun h=>hy (ev_tznil.1 h y)
 by_cases hq:tz q = []
 ·exact ev_tznil.1 hq
 ·exfalso
  obtain ⟨n,hn⟩:=cv_ne hp hq
  have h1:=ev_zero (mul5V p q) (fun x=>by rw [ev_mul5]; exact h x) n
  rw [seq_mul,ap_cv] at h1
  exact hn h1
theorem pf_cancel {f g h:Rat→Rat} (hf:Pf f) (hg:Pf g) (hh:Pf h) (he:∀ x,f x * g x = f x * h x) (h0:∃ x,f x ≠ 0):∀ x,g x = h x:=fun x=>by
 have:=pf_dom hf (hg.sub hh) (fun x=>by have:=he x; grind) h0 x
 grind
def Dv (a b:Rat→Rat):Prop:=∃ c,Pf c∧∀ x,b x = a x * c x
def Cp (a b:Rat→Rat):Prop:=∃ u v,Pf u∧Pf v∧∀ x,u x * a x + v x * b x = 1
theorem Dv.trans {a b c:Rat→Rat} (h:Dv a b) (k:Dv b c):Dv a c:=by
 obtain ⟨u,hu,h1⟩:=h
 obtain ⟨v,hv,h2⟩:=k
 exact ⟨_,hu.mul hv,fun x=>by rw [h2,h1]; grind⟩
theorem Dv.add {a b c:Rat→Rat} (h:Dv a b) (k:Dv a c):Dv a (fun x=>b x + c x):=by
 obtain ⟨u,hu,h1⟩:=h
 obtain ⟨v,hv,h2⟩:=k
 exact ⟨_,hu.add hv,fun x=>by show b x + c x = _; rw [h2,h1]; grind⟩
theorem Dv.sub {a b c:Rat→Rat} (h:Dv a b) (k:Dv a c):Dv a (fun x=>b x - c x):=by
 obtain ⟨u,hu,h1⟩:=h
 obtain ⟨v,hv,h2⟩:=k
 exact ⟨_,hu.sub hv,fun x=>by show b x - c x = _; rw [h2,h1]; grind⟩
theorem Dv.mulr {a b c:Rat→Rat} (h:Dv a b) (k:Pf c):Dv a (fun x=>b x * c x):=by
 obtain ⟨u,hu,h1⟩:=h
 exact ⟨_,hu.mul k,fun x=>by show b x * c x = _; rw [h1]; grind⟩
theorem Dv.mull {a b c:Rat→Rat} (h:Dv a b) (k:Pf c):Dv a (fun x=>c x * b x):=by
 obtain ⟨u,hu,h1⟩:=h
 exact ⟨_,hu.mul k,fun x=>by show c x * b x = _; rw [h1]; grind⟩
theorem Cp.dv {a b c:Rat→Rat} (h:Cp a b) (hc:Pf c) (k:Dv a (fun x=>b x * c x)):Dv a c:=by
 obtain ⟨u,v,hu,hv,h1⟩:=h
 obtain ⟨d,hd,h2⟩:=k
 exact ⟨_,(hu.mul hc).add (hv.mul hd),fun x=>by
  have e1:=h1 x
  have e2:b x * c x = a x * d x:=h2 x
  have e3:(u x * a x + v x * b x) * c x = c x:=by rw [e1]; grind
  have e4:v x * (b x * c x) = v x * (a x * d x):=by rw [e2]
  show c x = a x * ((u x * c x) + v x * d x)
  grind⟩
theorem Cp.dvl {a b c:Rat→Rat} (h:Cp a b) (hc:Pf c) (k:Dv a (fun x=>c x * b x)):Dv a c:=h.dv hc (by
 obtain ⟨d,hd,h2⟩:=k
 exact ⟨d,hd,fun x=>by rw [← h2]; grind⟩)
theorem Cp.symm {a b:Rat→Rat} (h:Cp a b):Cp b a:=by
 obtain ⟨u,v,hu,hv,h1⟩:=h
 exact ⟨v,u,hv,hu,fun x=>by have:=h1 x; grind⟩
def IsD (f g:Rat→Rat):Prop:=∀ A B,∃ K,0≤K∧∀ s t,A≤s→s≤t→t≤B→Bd (K * (t - s) * (t - s)) (f t - f s - g s * (t - s))
theorem IsD.ev (p:List Rat):IsD (evV p) (evD p):=fun A B=>ev_slope p A B
theorem IsD.const (c:Rat):IsD (fun _=>c) (fun _=>0):=fun A B=>⟨0,Rat.le_refl,fun s t _ _ _=>⟨by grind,by grind⟩⟩
theorem IsD.uniq {f g h:Rat→Rat} (a:IsD f g) (b:IsD f h) (x:Rat):g x = h x:=by
 obtain ⟨K,hK,h1⟩:=a x (x + 1)
 obtain ⟨L,hL,h2⟩:=b x (x + 1)
 have key:∀ d,0 < d→d≤1→g x - h x≤(K + L) * d∧h x - g x≤(K + L) * d:=fun d hd h3=>by
  obtain ⟨e1,e2⟩:=h1 x (x + d) Rat.le_refl (by grind) (by grind)
  obtain ⟨e3,e4⟩:=h2 x (x + d) Rat.le_refl (by grind) (by grind)
  rw [show x + d - x = d by grind] at e1 e2 e3 e4
  have cancel:∀ u v:Rat,u * d≤v * d→u≤v:=fun u v h=>by
   apply Classical.byContradiction
   intro hn
   have:=mul_lt (show v < u by grind) hd
   grind
  exact ⟨cancel _ _ (by grind),cancel _ _ (by grind)⟩
 have a1:=lt_all (v:=g x - h x) (K:=K + L) (by grind) (fun d h1 h2=>(key d h1 h2).1)
 have a2:=lt_all (v:=h x - g x) (K:=K + L) (by grind) (fun d h1 h2=>(key d h1 h2).2)
 grind
theorem IsD.mul {f g f' g':Rat→Rat} (a:IsD f f') (b:IsD g g') (hf:Pf f) (hg:Pf g) (hf':Pf f'):IsD (fun x=>f x * g x) (fun x=>f' x * g x + f x * g' x):=by
 intro A B
 obtain ⟨K,hK,h1⟩:=a A B
 obtain ⟨L,hL,h2⟩:=b A B
 obtain ⟨M,hM,h3⟩:=hf.on A B
 obtain ⟨N,hN,h4⟩:=hg.on A B
 obtain ⟨P,hP,h5⟩:=hf'.on A B
 obtain ⟨Q,hQ,h6⟩:=hg.lip A B
 refine ⟨K * N + P * Q + M * L,by have:=mulN hK hN; have:=mulN hP hQ; have:=mulN hM hL; grind,fun s t k1 k2 k3=>?_⟩
 have h0:0≤t - s:=by grind
 have b1:=(h1 s t k1 k2 k3).mul (h4 t (by grind) k3)
 have b2:=((h5 s k1 (by grind)).mul (Bd.self h0)).mul (h6 s t k1 k2 k3)
 have b3:=(h3 s k1 (by grind)).mul (h2 s t k1 k2 k3)
 have e:=(b1.add b2).add b3
 rw [show (K * N + P * Q + M * L) * (t - s) * (t - s) = K * (t - s) * (t - s) * N + P * (t - s) * (Q * (t - s)) + M * (L * (t - s) * (t - s)) by grind,
  show f t * g t - f s * g s - (f' s * g s + f s * g' s) * (t - s) = (f t - f s - f' s * (t - s)) * g t + f' s * (t - s) * (g t - g s) + f s * (g t - g s - g' s * (t - s)) by grind]
 exact e
def derL:List Rat→List Rat
 | []=>[]
 | _ :: p=>add5V (0 :: derL p) p
theorem ev_derL (p:List Rat) (x:Rat):evV (derL p) x = evD p x:=by
 induction p with
 | nil=>rfl
 | cons c p ih =>
  show evV (add5V (0 :: derL p) p) x = evD p x * x + evV p x
  rw [ev_add5,ev_cons,ih]
  grind
theorem seq_derL (p:List Rat) (n:Nat):seq (derL p) n = ((n + 1:Nat):Rat) * seq p (n + 1):=by
 induction p generalizing n with
 | nil=>show (0:Rat) = _ * (0:Rat); grind
 | cons c p ih =>
  show seq (add5V (0 :: derL p) p) n = ((n + 1:Nat):Rat) * seq p n
  rw [seq_add5,seq_cons0]
  cases n with
  | zero=>show (0:Rat) + seq p 0 = ((0 + 1:Nat):Rat) * seq p 0; rw [show ((0 + 1:Nat):Rat) = 1 from rfl]; grind
  | succ n =>
   show seq (derL p) n + seq p (n + 1) = _
   rw [ih,Rat.natCast_add (n + 1) 1,show ((1:Nat):Rat) = 1 from rfl]
   grind
theorem Pf.der (p:List Rat):Pf (evD p):=⟨derL p,funext fun x=>(ev_derL p x).symm⟩
theorem pf_isd {f:Rat→Rat} (h:Pf f):∃ g,Pf g∧IsD f g:=by obtain ⟨p,rfl⟩:=h; exact ⟨_,Pf.der p,IsD.ev p⟩
theorem ev_pr {a p:List Rat} (h:Pr a p):∃ c:Rat,c ≠ 0∧∀ x,evV a x = c * evV p x:=by
 obtain ⟨c,h1,h2⟩:=h
 exact ⟨c,h1,fun x=>ev_seq h2 x⟩
theorem ev_rem (p:List Rat) {q:List Rat} (h:tz q ≠ []) (x:Rat):evV p x = evV (quoV p q) x * evV q x + evV (remV p q) x:=by
 have h1:=(quo_rem p h).2.2.2
 have h2:=ev_lin (r:=p) (a:=mul5V (quoV p q) q) (b:=remV p q) (c:=1) (fun i=>by rw [h1 i,seq_mul,ap_cv]; grind) x
 rw [h2,ev_mul5]; grind
def IsG (g a b:Rat→Rat):Prop:=Dv g a∧Dv g b∧∃ u v,Pf u∧Pf v∧∀ x,g x = u x * a x + v x * b x
theorem gcdI_spec:∀ (f:Nat) (p q:List Rat),q.length≤f→tz q = q→IsG (evV (gcdI f p q)) (evV p) (evV q):=by
 have hbase:∀ p:List Rat,IsG (evV p) (evV p) (evV []):=fun p=>⟨⟨_,Pf.const 1,fun x=>by grind⟩,⟨_,Pf.const 0,fun x=>by show (0:Rat) = _ * 0; grind⟩,_,_,Pf.const 1,Pf.const 0,fun x=>by show _ = 1 * _ + 0 * (0:Rat); grind⟩
 intro f
 induction f with
 | zero =>
  intro p q h ht
  obtain rfl:q = []:=List.length_eq_zero_iff.1 (by omega)
  exact hbase p
 | succ f ih =>
  intro p q h ht
  by_cases h0:q = []
  ·subst h0; rw [gcdI_nil]; exact hbase p
  ·have hq:tz q ≠ []:=by rw [ht]; exact h0
   have h1:=(quo_rem p hq).1
   have h2:=monV_len (remV p q)
   have h3:=tz_len_le (remV p q)
   rw [ht] at h1
   rw [gcdI_step h0]
   obtain ⟨g1,g2,u,v,hu,hv,g3⟩:=ih q (monV (remV p q)) (by omega) (monV_tz _)
   obtain ⟨c,hc,hm⟩:=ev_pr (monV_pr (remV p q))
   have hr:∀ x,evV (remV p q) x = c⁻¹ * evV (monV (remV p q)) x:=fun x=>by
    have:=Rat.mul_inv_cancel c hc
    rw [hm x]; grind
   refine ⟨?_,g1,_,_,hv.smul c,hu.sub ((hv.smul c).mul (Pf.ev (quoV p q))),fun x=>?_⟩
   ·have h4:=(g1.mull (Pf.ev (quoV p q))).add (g2.mull (Pf.const c⁻¹))
    obtain ⟨d,hd,h5⟩:=h4
    exact ⟨d,hd,fun x=>by rw [← h5 x,ev_rem p hq x,hr x]⟩
   ·rw [g3 x,hm x,ev_rem p hq x]; grind
theorem gcd_spec (p q:List Rat):IsG (evV (gcdV p q)) (evV p) (evV q):=by
 obtain ⟨g1,g2,u,v,hu,hv,g3⟩:=gcdI_spec (tz q).length (monV p) (monV q) (by rw [monV_len]; exact Nat.le_refl _) (monV_tz q)
 obtain ⟨c,hc,h1⟩:=ev_pr (monV_pr p)
 obtain ⟨d,hd,h2⟩:=ev_pr (monV_pr q)
 have inv:∀ {c:Rat} {f g:Rat→Rat},c ≠ 0→(∀ x,f x = c * g x)→∀ x,g x = c⁻¹ * f x:=fun hc h x=>by
  have:=Rat.mul_inv_cancel _ hc
  rw [h x]; grind
 refine ⟨?_,?_,_,_,hu.smul c,hv.smul d,fun x=>?_⟩
 ·obtain ⟨e,he,h3⟩:=g1.mull (Pf.const c⁻¹)
  exact ⟨e,he,fun x=>(inv hc h1 x).trans (h3 x)⟩
 ·obtain ⟨e,he,h3⟩:=g2.mull (Pf.const d⁻¹)
  exact ⟨e,he,fun x=>(inv hd h2 x).trans (h3 x)⟩
 ·show evV (gcdI (tz q).length (monV p) (monV q)) x = _
  rw [g3 x,h1,h2]; grind
theorem dv_len {a b:List Rat} (h:Dv (evV a) (evV b)) (hb:tz b ≠ []):(tz a).length≤(tz b).length:=by
 obtain ⟨c,⟨p,rfl⟩,h1⟩:=h
 have ha:tz a ≠ []:=fun h=>hb (ev_tznil.2 fun x=>by rw [h1 x,ev_tznil.1 h x]; grind)
 have hp:tz p ≠ []:=fun h=>hb (ev_tznil.2 fun x=>by rw [h1 x,ev_tznil.1 h x]; grind)
 obtain ⟨i,hi⟩:∃ a',(tz a).length = a' + 1:=⟨(tz a).length - 1,by have:=List.length_pos_iff.2 ha; omega⟩
 obtain ⟨j,hj⟩:∃ b',(tz p).length = b' + 1:=⟨(tz p).length - 1,by have:=List.length_pos_iff.2 hp; omega⟩
 have h2:=ev_inj (p:=b) (q:=mul5V a p) (fun x=>by rw [ev_mul5]; exact h1 x) (i + j)
 rw [seq_mul,ap_cv,← seq_tz a,← seq_tz p,cv_top (by rw [← hi]; exact Bd.seq _) (by rw [← hj]; exact Bd.seq _),← seq_tz b] at h2
 have k1:=lead_tz ha
 have k2:=lead_tz hp
 unfold lead at k1 k2
 rw [hi,Nat.add_sub_cancel] at k1
 rw [hj,Nat.add_sub_cancel] at k2
 rcases Nat.lt_or_ge (i + j) (tz b).length with h3 | h3
 ·omega
 ·exfalso
  rw [Bd.seq (tz b) _ h3] at h2
  rcases Rat.mul_eq_zero.1 h2.symm with h4 | h4
  ·exact k1 h4
  ·exact k2 h4
theorem len_ne {p:List Rat} (h:tz p ≠ []):∃ n,(tz p).length = n + 1∧seq p n ≠ 0:=by
 obtain ⟨n,hn⟩:∃ n,(tz p).length = n + 1:=⟨(tz p).length - 1,by have:=List.length_pos_iff.2 h; omega⟩
 exact ⟨n,hn,tz_last2 hn⟩
theorem nat_ne {n:Nat}:((n + 1:Nat):Rat) ≠ 0:=fun h=>by
 have:n + 1 = 0:=by exact_mod_cast h
 omega
theorem der_len (p:List Rat) (n:Nat) (h:(tz p).length = n + 1):(tz (derL p)).length≤n:=by
 rcases Nat.lt_or_ge n (tz (derL p)).length with h1 | h1
 ·exfalso
  have h2:tz (derL p) ≠ []:=fun h=>by rw [h] at h1; simp at h1
  obtain ⟨k,h3,h4⟩:=len_ne h2
  rw [seq_derL] at h4
  apply h4
  rw [← seq_tz p,Bd.seq (tz p) (k + 1) (by omega)]
  grind
 ·exact h1
theorem der_ne {p:List Rat} {n:Nat} (h:(tz p).length = n + 2):tz (derL p) ≠ []:=fun h0=>by
 have h1:seq (derL p) n = 0:=by rw [← seq_tz,h0]; rfl
 rw [seq_derL] at h1
 have h2:seq p (n + 1) ≠ 0:=tz_last2 h
 rcases Rat.mul_eq_zero.1 h1 with h3 | h3
 ·exact nat_ne h3
 ·exact h2 h3
theorem len_one {p:List Rat} (h:(tz p).length≤1):∀ x,evV p x = seq p 0:=fun x=>by
 rw [← ev_tz,← seq_tz p]
 match tz p,h with
 | [],_=>rfl
 | [c],_=>show 0 * x + c = c; grind
theorem sq_cp {g p p' r q1:Rat→Rat} (hg:Pf g) (hr:Pf r) (hq:Pf q1) (h:IsG g p p') (h1:∀ x,p x = g x * r x) (h2:∀ x,p' x = g x * q1 x) (h0:∃ x,p x ≠ 0):Cp r q1:=by
 obtain ⟨-,-,u,v,hu,hv,h3⟩:=h
 refine ⟨u,v,hu,hv,fun x=>?_⟩
 refine pf_cancel (f:=g) (g:=fun x=>u x * r x + v x * q1 x) (h:=fun _=>1) hg ((hu.mul hr).add (hv.mul hq)) (Pf.const 1) (fun x=>?_) ?_ x
 ·have e:=h3 x
  rw [h1,h2] at e
  grind
 ·obtain ⟨y,hy⟩:=h0
  exact ⟨y,fun h=>hy (by rw [h1,h]; grind)⟩
theorem sqf_main:∀ (n:Nat) (p:List Rat),(tz p).length≤n→tz p ≠ []→∀ g r:Rat→Rat,Pf g→Pf r→IsG g (evV p) (evD p)→(∀ x,evV p x = g x * r x)→∀ r',Pf r'→IsD r r'→Cp r r':=by
 intro n
 induction n with
 | zero=>intro p h h0; exact absurd (List.length_eq_zero_iff.1 (by omega)) h0
 | succ n ih =>
  intro p hn h0 g r hg hr hG h1 r' hr' hd
  have hp0:∃ x,evV p x ≠ 0:=Classical.byContradiction fun h=>h0 (ev_tznil.2 fun x=>Classical.byContradiction fun h2=>h ⟨x,h2⟩)
  obtain ⟨q1,hq1,h2⟩:=hG.2.1
  have hcp:=sq_cp hg hr hq1 hG h1 h2 hp0
  obtain ⟨gl,rfl⟩:=id hg
  have hg0:tz gl ≠ []:=fun h=>by
   obtain ⟨y,hy⟩:=hp0
   exact hy (by rw [h1,ev_tznil.1 h y]; grind)
  have hgx:∃ x,evV gl x ≠ 0:=by
   obtain ⟨y,hy⟩:=hp0
   exact ⟨y,fun h=>hy (by rw [h1,h]; grind)⟩
  have hslope:∀ x,evD gl x * r x + evV gl x * r' x = evV gl x * q1 x:=fun x=>by
   have e:=(IsD.mul (IsD.ev gl) hd hg hr (Pf.der gl)).uniq (by
    have:=IsD.ev p
    rw [show evV p = fun x=>evV gl x * r x from funext h1] at this
    exact this) x
   rw [h2 x] at e
   exact e
  rcases Nat.lt_or_ge 1 (tz gl).length with hl | hl
  ·-- g is not a constant
   obtain ⟨k,hk,-⟩:=len_ne hg0
   have hpg:=dv_len hG.1 h0
   obtain ⟨m,hm⟩:∃ m,(tz p).length = m + 2:=⟨(tz p).length - 2,by omega⟩
   have hpd:=der_ne hm
   have hdl:Dv (evV gl) (evV (derL p)):=by rw [show evV (derL p) = evD p from funext (ev_derL p)]; exact hG.2.1
   have hlen:=dv_len hdl hpd
   have hder:=der_len p (m + 1) hm
   have hG2:=gcd_spec gl (derL gl)
   rw [show evV (derL gl) = evD gl from funext (ev_derL gl)] at hG2
   obtain ⟨r1,hr1,e1⟩:=hG2.1
   obtain ⟨s1,hs1,e2⟩:=hG2.2.1
   obtain ⟨r1',hr1',hd1⟩:=pf_isd hr1
   have hc1:=ih gl (by omega) hg0 _ r1 (Pf.ev _) hr1 hG2 e1 r1' hr1' hd1
   have hc2:=sq_cp (Pf.ev _) hr1 hs1 hG2 e1 e2 hgx
   have hp2x:∃ x,evV (gcdV gl (derL gl)) x ≠ 0:=by
    obtain ⟨y,hy⟩:=hgx
    exact ⟨y,fun h=>hy (by rw [e1,h]; grind)⟩
   have e3:∀ x,s1 x * r x = r1 x * (q1 x - r' x):=pf_cancel (f:=evV (gcdV gl (derL gl))) (g:=fun x=>s1 x * r x) (h:=fun x=>r1 x * (q1 x - r' x)) (Pf.ev _) (hs1.mul hr) (hr1.mul (hq1.sub hr')) (fun x=>by
    have h3:=hslope x
    rw [e2 x,e1 x] at h3
    grind) hp2x
   obtain ⟨w,hw,e4⟩:=hc2.dv hr ⟨_,hq1.sub hr',e3⟩
   have hr1x:∃ x,r1 x ≠ 0:=by
    obtain ⟨y,hy⟩:=hgx
    exact ⟨y,fun h=>hy (by rw [e1,h]; grind)⟩
   have e5:∀ x,s1 x * w x = q1 x - r' x:=pf_cancel (f:=r1) (g:=fun x=>s1 x * w x) (h:=fun x=>q1 x - r' x) hr1 (hs1.mul hw) (hq1.sub hr') (fun x=>by
    have h3:=e3 x
    rw [e4 x] at h3
    grind) hr1x
   obtain ⟨rl,hrl⟩:=id hr
   have hrd:r' = evD rl:=funext fun x=>hd.uniq (by rw [hrl]; exact IsD.ev rl) x
   have hG3:=gcd_spec rl (derL rl)
   rw [show evV (derL rl) = evD rl from funext (ev_derL rl),← hrl,← hrd] at hG3
   obtain ⟨h,hh⟩:∃ h,h = evV (gcdV rl (derL rl)):=⟨_,rfl⟩
   rw [← hh] at hG3
   have hhp:Pf h:=⟨_,hh⟩
   obtain ⟨d1,d2,ua,va,hua,hva,d3⟩:=hG3
   obtain ⟨w',hw',hdw⟩:=pf_isd hw
   have hcw:Cp h w:=by
    obtain ⟨u,v,hu,hv,b1⟩:=hcp
    obtain ⟨x1,hx1,b2⟩:=d1
    obtain ⟨x2,hx2,b3⟩:=d2
    refine ⟨_,_,(hu.mul hx1).add (hv.mul hx2),hv.mul hs1,fun x=>?_⟩
    have b4:=b1 x
    have b5:=e5 x
    have b6:q1 x = s1 x * w x + r' x:=by grind
    rw [b6,b2 x,b3 x] at b4
    grind
   have hr1d:Dv h r1:=hcw.dvl hr1 (by
    obtain ⟨x1,hx1,b2⟩:=d1
    exact ⟨x1,hx1,fun x=>by rw [← b2 x,e4 x]⟩)
   have hrs:∀ x,r1' x * w x + r1 x * w' x = r' x:=fun x=>(IsD.mul hd1 hdw hr1 hw hr1').uniq (by
    rw [← show r = fun x=>r1 x * w x from funext e4]; exact hd) x
   have hr1d':Dv h r1':=hcw.dvl hr1' (by
    obtain ⟨x1,hx1,b2⟩:=d2.sub (hr1d.mulr hw')
    exact ⟨x1,hx1,fun x=>by
     have e:=b2 x
     have e':=hrs x
     rw [← e]
     show r1' x * w x = r' x - r1 x * w' x
     grind⟩)
   obtain ⟨a,b,ha,hb,c1⟩:=hc1
   obtain ⟨x1,hx1,c2⟩:=hr1d
   obtain ⟨x2,hx2,c3⟩:=hr1d'
   refine ⟨_,_,((ha.mul hx1).add (hb.mul hx2)).mul hua,((ha.mul hx1).add (hb.mul hx2)).mul hva,fun x=>?_⟩
   have c4:=c1 x
   rw [c2 x,c3 x,d3 x] at c4
   grind
  ·-- g is a constant
   have hcst:=len_one hl
   obtain ⟨y,hy⟩:=hgx
   have hc0:seq gl 0 ≠ 0:=by rw [← hcst y]; exact hy
   have hz:∀ x,evD gl x = 0:=fun x=>(IsD.ev gl).uniq (by rw [show evV gl = fun _=>seq gl 0 from funext hcst]; exact IsD.const _) x
   have he:∀ x,r' x = q1 x:=fun x=>by
    have h3:=hslope x
    rw [hz x,hcst x] at h3
    have h4:=Rat.mul_inv_cancel _ hc0
    have h5:(seq gl 0)⁻¹ * (seq gl 0 * r' x) = (seq gl 0)⁻¹ * (seq gl 0 * q1 x):=by congr 1; grind
    rw [← Rat.mul_assoc,← Rat.mul_assoc,Rat.mul_comm _ (seq gl 0),h4,Rat.one_mul,Rat.one_mul] at h5
    exact h5
   rw [show r' = q1 from funext he]
   exact hcp
end Go.Proofs.YtcbgamclcgcodaaGreat.Sg
/- The chains of the program fit Sturm's theorem. Plain facts. -/
set_option linter.unusedVariables false
namespace Go.Proofs.YtcbgamclcgcodaaGreat.Sg
open Go.RowKit Go.Front Go.Num Go.Stab Go.Proofs.YtcbgamclcgcodaaGreat
def chn:Nat→List Rat→List Rat→List (List Rat)
 | 0,_,_=>[]
 | n + 1,a,b=>if a = [] then [] else if b = [] then [a] else a :: chn n b (splL ((remV a b).map (· * -1)))
theorem chn_nil {n:Nat} {a:List Rat} (h:a ≠ []):chn (n + 1) a [] = [a]:=by simp [chn,h]
theorem chn_cons {n:Nat} {a b:List Rat} (h:a ≠ []) (k:b ≠ []):chn (n + 1) a b = a :: chn n b (splL ((remV a b).map (· * -1))):=by simp [chn,h,k]
theorem ev_spl1 (p:List Rat) (x:Rat):evV p x = splM p * evV (splL p) x:=ev_seq (spl_seq p) x
theorem spl_ne {p:List Rat}:splL p = []↔tz p = []:=by rw [← List.length_eq_zero_iff,← List.length_eq_zero_iff,spl_len]
theorem neg_rem (a b:List Rat) (hb:tz b ≠ []):∃ d:Rat,0 < d∧∀ x,evV a x + d * evV (splL ((remV a b).map (· * -1))) x = evV (quoV a b) x * evV b x:=by
 have h1:=ev_rem a hb
 by_cases h0:tz ((remV a b).map (· * -1)) = []
 ·refine ⟨1,by decide,fun x=>?_⟩
  have h2:=ev_tznil.1 h0 x
  rw [ev_map] at h2
  rw [spl_ne.2 h0,h1 x]
  show _ + 1 * (0:Rat) = _
  grind
 ·refine ⟨splM ((remV a b).map (· * -1)),spl_pos h0,fun x=>?_⟩
  have h2:=ev_spl1 ((remV a b).map (· * -1)) x
  rw [← h2,ev_map,h1 x]
  grind
theorem rem_len (a b:List Rat) (hb:tz b ≠ []):(splL ((remV a b).map (· * -1))).length < (tz b).length:=by
 have h1:=(quo_rem a hb).1
 have h2:=tz_len_le ((remV a b).map (· * -1))
 rw [List.length_map] at h2
 rw [spl_len]
 omega
theorem row_of {A B d:Rat} {f g h q:Rat→Rat} (hd:0 < d) (hq:Pf q) (he:∀ x,f x + d * h x = q x * g x):Row A B f g h:=by
 obtain ⟨Q,hQ,h1⟩:=hq.on A B
 exact ⟨1,d,Q,by decide,hd,hQ,q,h1,fun x=>by have:=he x; grind⟩
theorem big_of {A B:Rat} {f u:Rat→Rat} (hu:Pf u) (h:∀ x,u x * f x = 1):∃ r,0 < r∧∀ x,A≤x→x≤B→Big r (f x):=by
 obtain ⟨M,hM,h1⟩:=hu.on A B
 refine ⟨1 / (M + 1),divP (by decide) (by grind),fun x ha hb=>?_⟩
 have h2:=h x
 apply Classical.byContradiction
 intro hn
 obtain ⟨n1,n2⟩:=not_big hn
 have h3:=(h1 x ha hb).mul (show Bd (1 / (M + 1)) (f x) from ⟨by grind,by grind⟩)
 rw [h2] at h3
 have h4:=h3.2
 have h5:=div_cancel (a:=1) (b:=M + 1) (by grind)
 have h6:=divP (show (0:Rat) < 1 by decide) (show 0 < M + 1 by grind)
 grind
theorem chn_ch {A B:Rat}:∀ (n:Nat) (a b:List Rat),b.length≤n→tz b = b→a ≠ []→Cp (evV a) (evV b)→∃ l,chn (n + 1) a b = a :: l∧Ch A B (evV a) (l.map evV)∧(b ≠ []→∃ l',l = b :: l'):=by
 intro n
 induction n with
 | zero =>
  intro a b h ht ha hc
  obtain rfl:b = []:=List.length_eq_zero_iff.1 (by omega)
  refine ⟨[],chn_nil ha,?_,fun h=>absurd rfl h⟩
  obtain ⟨u,v,hu,hv,h1⟩:=hc
  exact big_of hu (fun x=>by have:=h1 x; have e:evV [] x = 0:=rfl; rw [e] at this; grind)
 | succ n ih =>
  intro a b h ht ha hc
  by_cases hb:b = []
  ·subst hb
   refine ⟨[],chn_nil ha,?_,fun h=>absurd rfl h⟩
   obtain ⟨u,v,hu,hv,h1⟩:=hc
   exact big_of hu (fun x=>by have:=h1 x; have e:evV [] x = 0:=rfl; rw [e] at this; grind)
  ·have hbt:tz b ≠ []:=by rw [ht]; exact hb
   obtain ⟨d,hd,he⟩:=neg_rem a b hbt
   have hl:=rem_len a b hbt
   rw [ht] at hl
   obtain ⟨c,hcc⟩:∃ c,c = splL ((remV a b).map (· * -1)):=⟨_,rfl⟩
   have hct:tz c = c:=by rw [hcc,spl_tz]
   rw [← hcc] at he hl
   have hcp:Cp (evV b) (evV c):=by
    obtain ⟨u,v,hu,hv,h1⟩:=hc
    refine ⟨_,_,(hu.mul (Pf.ev (quoV a b))).add hv,hu.smul (-d),fun x=>?_⟩
    have e1:=h1 x
    have e2:=he x
    have e3:evV a x = evV (quoV a b) x * evV b x - d * evV c x:=by grind
    rw [e3] at e1
    grind
   obtain ⟨l,h1,h2,h3⟩:=ih b c (by omega) hct hb hcp
   refine ⟨b :: l,by rw [chn_cons ha hb,← hcc,h1],?_,fun _=>⟨l,rfl⟩⟩
   cases l with
   | nil=>exact h2
   | cons e l =>
    have hce:e = c:=by
     by_cases h0:c = []
     ·subst h0
      rw [chn_nil hb] at h1
      cases h1
     ·obtain ⟨l',h4⟩:=h3 h0
      cases h4; rfl
    subst hce
    exact ⟨row_of hd (Pf.ev (quoV a b)) he,h2⟩
theorem chn_last:∀ (n:Nat) (a b:List Rat),b.length≤n→tz b = b→tz a = a→a ≠ []→∃ e,(chn (n + 1) a b).getLast? = some e∧e ≠ []∧tz e = e∧IsG (evV e) (evV a) (evV b):=by
 have hbase:∀ p:List Rat,IsG (evV p) (evV p) (evV []):=fun p=>⟨⟨_,Pf.const 1,fun x=>by grind⟩,⟨_,Pf.const 0,fun x=>by show (0:Rat) = _ * 0; grind⟩,_,_,Pf.const 1,Pf.const 0,fun x=>by show _ = 1 * _ + 0 * (0:Rat); grind⟩
 intro n
 induction n with
 | zero =>
  intro a b h ht hta ha
  obtain rfl:b = []:=List.length_eq_zero_iff.1 (by omega)
  exact ⟨a,by rw [chn_nil ha]; rfl,ha,hta,hbase a⟩
 | succ n ih =>
  intro a b h ht hta ha
  by_cases hb:b = []
  ·subst hb
   exact ⟨a,by rw [chn_nil ha]; rfl,ha,hta,hbase a⟩
  ·have hbt:tz b ≠ []:=by rw [ht]; exact hb
   obtain ⟨d,hd,he⟩:=neg_rem a b hbt
   have hl:=rem_len a b hbt
   rw [ht] at hl
   obtain ⟨c,hcc⟩:∃ c,c = splL ((remV a b).map (· * -1)):=⟨_,rfl⟩
   have hct:tz c = c:=by rw [hcc,spl_tz]
   rw [← hcc] at he hl
   obtain ⟨e,h1,h2,h3,h4,h5,u,v,hu,hv,h6⟩:=ih b c (by omega) hct ht hb
   have hne:chn (n + 1) b c ≠ []:=fun h=>by rw [h] at h1; cases h1
   refine ⟨e,?_,h2,h3,?_,h4,?_⟩
   ·rw [chn_cons ha hb,← hcc]
    obtain ⟨x,y,hxy⟩:=List.exists_cons_of_ne_nil hne
    rw [hxy] at h1 ⊢
    rw [List.getLast?_cons_cons]
    exact h1
   ·obtain ⟨w,hw,k⟩:=(h4.mull (Pf.ev (quoV a b))).sub (h5.mull (Pf.const d))
    exact ⟨w,hw,fun x=>by rw [← k x]; have:=he x; grind⟩
   ·have hdi:=Rat.mul_inv_cancel d (by grind)
    have hce:∀ x,evV c x = d⁻¹ * (evV (quoV a b) x * evV b x - evV a x):=fun x=>by
     have:=he x
     have e1:d * evV c x = evV (quoV a b) x * evV b x - evV a x:=by grind
     rw [← e1,← Rat.mul_assoc,Rat.mul_comm d⁻¹,hdi,Rat.one_mul]
    refine ⟨_,_,hv.smul (-d⁻¹),hu.add ((hv.smul d⁻¹).mul (Pf.ev (quoV a b))),fun x=>?_⟩
    rw [h6 x,hce x]
    grind
def remsV (p:List Rat):List (List Rat):=chn (p.length + 1) (splL p) (splL (derL p))
theorem derL_spl {p:List Rat} (h:tz p ≠ []) (x:Rat):evD (splL p) x = splM (derL p) / splM p * evV (splL (derL p)) x:=by
 have hm:=spl_pos h
 have h1:evD p x = splM p * evD (splL p) x:=by
  rw [← ev_derL,← ev_derL]
  refine ev_seq (fun i=>?_) x
  rw [seq_derL,seq_derL,spl_seq p]
  grind
 have h2:=ev_spl1 (derL p) x
 rw [ev_derL,h1] at h2
 have h3:=div_cancel (a:=splM (derL p)) (b:=splM p) (by grind)
 have h4:=Rat.mul_inv_cancel (splM p) (by grind)
 have h5:(splM p)⁻¹ * (splM p * evD (splL p) x) = (splM p)⁻¹ * (splM (derL p) * evV (splL (derL p)) x):=by rw [h2]
 rw [← Rat.mul_assoc,Rat.mul_comm _ (splM p),h4,Rat.one_mul] at h5
 rw [h5,Rat.div_def]
 grind
theorem spl_cp {p:List Rat} (h:tz p ≠ []) (hc:Cp (evV p) (evD p)):Cp (evV (splL p)) (evV (splL (derL p))):=by
 obtain ⟨u,v,hu,hv,h1⟩:=hc
 refine ⟨_,_,hu.smul (splM p),hv.smul (splM (derL p)),fun x=>?_⟩
 have e1:=h1 x
 rw [ev_spl1 p x,← ev_derL,ev_spl1 (derL p) x] at e1
 grind
theorem rems_fit {p:List Rat} (h:tz p ≠ []) (hc:Cp (evV p) (evD p)) (A B:Rat):∃ l,remsV p = splL p :: l∧Fit A B (evV (splL p)) (l.map evV):=by
 have hlen:(splL (derL p)).length≤p.length:=by
  rw [spl_len]
  obtain ⟨n,hn,-⟩:=len_ne h
  have:=der_len p n hn
  have:=tz_len_le p
  omega
 obtain ⟨l,h1,h2,h3⟩:=chn_ch (A:=A) (B:=B) p.length (splL p) (splL (derL p)) hlen (spl_tz _) (fun h0=>h (spl_ne.1 h0)) (spl_cp h hc)
 refine ⟨l,h1,h2,ev_lip _ A B,?_,?_⟩
 ·intro g hg
  obtain ⟨q,-,rfl⟩:=List.mem_map.1 hg
  exact ev_lip q A B
 ·intro g l' hl
  by_cases hb:splL (derL p) = []
  ·exfalso
   have h4:remsV p = [splL p]:=by unfold remsV; rw [hb,chn_nil (fun h0=>h (spl_ne.1 h0))]
   have h5:remsV p = splL p :: l:=h1
   rw [h4] at h5
   cases h5
   cases hl
  ·obtain ⟨l2,hl2⟩:=h3 hb
   subst hl2
   rw [List.map_cons] at hl
   cases hl
   obtain ⟨K,hK,h6⟩:=ev_slope (splL p) A B
   have hp1:=spl_pos h
   have hp2:=spl_pos (p:=derL p) (fun h0=>hb (spl_ne.2 h0))
   refine ⟨splM (derL p) / splM p,K,divP hp2 hp1,hK,fun s t k1 k2 k3=>?_⟩
   have h7:=h6 s t k1 k2 k3
   rw [derL_spl h] at h7
   exact h7
def sqfV (p:List Rat):List Rat:=monV (quoV p (gcdV p (derL p)))
def rootV (p:List Rat):List Rat:=if 2≤((remsV p).getLast?.getD []).length then sqfV p else p
structure Rt (p r:List Rat):Prop where
 ne:tz r ≠ []
 cp:Cp (evV r) (evD r)
 dv:∃ g q1:Rat→Rat,Pf g∧Pf q1∧IsG g (evV p) (evD p)∧(∀ x,evV p x = g x * evV r x)∧(∀ x,evD p x = g x * q1 x)
theorem quo_exact {p q:List Rat} (hq:tz q ≠ []) (h:Dv (evV q) (evV p)):∀ x,evV p x = evV q x * evV (quoV p q) x:=by
 obtain ⟨c,⟨s,rfl⟩,h1⟩:=h
 have h2:=ev_inj (p:=p) (q:=mul5V s q) (fun x=>by rw [ev_mul5,h1 x]; grind)
 have h3:=div_same (p:=p) hq (s:=seq s) (r:=fun _=>0) (F:=1) (N:=s.length) (Bd.seq s) (fun i _=>rfl) (fun n=>by
  rw [Rat.one_mul,h2 n,seq_mul,ap_cv]; grind)
 intro x
 rw [h1 x]
 congr 1
 exact (ev_seq (c:=1) (fun i=>h3.1 i) x).trans (Rat.one_mul _)
theorem isg_ne {p g:List Rat} (h:tz p ≠ []) (hG:IsG (evV g) (evV p) (evD p)):tz g ≠ []:=fun h0=>h (ev_tznil.2 fun x=>by
 obtain ⟨c,-,h1⟩:=hG.1
 rw [h1 x,ev_tznil.1 h0 x]; grind)
theorem dv_der {p g:List Rat} (hG:IsG (evV g) (evV p) (evV (derL p))):IsG (evV g) (evV p) (evD p):=by
 rw [show evD p = evV (derL p) from funext fun x=>(ev_derL p x).symm]; exact hG
theorem isd_smul {f g:Rat→Rat} (c:Rat) (h:IsD f g) (hf:Pf f) (hg:Pf g):IsD (fun x=>c * f x) (fun x=>c * g x):=by
 have h1:=IsD.mul (IsD.const c) h (Pf.const c) hf (Pf.const 0)
 have e:(fun x=>0 * f x + c * g x) = fun x=>c * g x:=funext fun x=>by grind
 rw [e] at h1
 exact h1
theorem sqf_rt {p:List Rat} (h:tz p ≠ []):Rt p (sqfV p):=by
 have hG:=dv_der (gcd_spec p (derL p))
 have hg:=isg_ne h hG
 have h1:=quo_exact hg hG.1
 obtain ⟨q1,hq1,h2⟩:=hG.2.1
 obtain ⟨c,hc,h3⟩:=ev_pr (monV_pr (quoV p (gcdV p (derL p))))
 have h3':∀ x,evV (sqfV p) x = c * evV (quoV p (gcdV p (derL p))) x:=h3
 have hci:=Rat.mul_inv_cancel c hc
 have hmain:=sqf_main (tz p).length p (Nat.le_refl _) h _ _ (Pf.ev (gcdV p (derL p))) (Pf.ev (quoV p (gcdV p (derL p)))) hG h1 _ (Pf.der _) (IsD.ev _)
 have hd:∀ x,evD (sqfV p) x = c * evD (quoV p (gcdV p (derL p))) x:=fun x=>by
  have e:=isd_smul c (IsD.ev (quoV p (gcdV p (derL p)))) (Pf.ev _) (Pf.der _)
  rw [← show evV (sqfV p) = fun x=>c * evV (quoV p (gcdV p (derL p))) x from funext h3'] at e
  exact (IsD.ev (sqfV p)).uniq e x
 refine ⟨fun h0=>h (ev_tznil.2 fun x=>?_),?_,?_⟩
 ·have h4:=ev_tznil.1 h0 x
  rw [h3' x] at h4
  rcases Rat.mul_eq_zero.1 h4 with h5 | h5
  ·exact absurd h5 hc
  ·rw [h1 x,h5]; grind
 ·obtain ⟨u,v,hu,hv,h4⟩:=hmain
  refine ⟨_,_,hu.smul c⁻¹,hv.smul c⁻¹,fun x=>?_⟩
  have h5:=h4 x
  rw [h3' x,hd x]
  grind
 ·refine ⟨fun x=>c⁻¹ * evV (gcdV p (derL p)) x,fun x=>c * q1 x,(Pf.ev _).smul _,hq1.smul _,?_,fun x=>?_,fun x=>?_⟩
  ·obtain ⟨⟨a,ha,h4⟩,⟨b,hb,h5⟩,u,v,hu,hv,h6⟩:=hG
   refine ⟨⟨_,ha.smul c,fun x=>by rw [h4 x]; grind⟩,⟨_,hb.smul c,fun x=>by rw [h5 x]; grind⟩,_,_,hu.smul c⁻¹,hv.smul c⁻¹,fun x=>by show c⁻¹ * evV (gcdV p (derL p)) x = _; rw [h6 x]; grind⟩
  ·rw [h3' x,h1 x]; grind
  ·rw [h2 x]; grind
theorem root_rt {p:List Rat} (h:tz p ≠ []):Rt p (rootV p):=by
 unfold rootV
 split
 ·exact sqf_rt h
 ·rename_i hl
  have hlen:(splL (derL p)).length≤p.length:=by
   rw [spl_len]
   obtain ⟨n,hn,-⟩:=len_ne h
   have:=der_len p n hn
   have:=tz_len_le p
   omega
  obtain ⟨e,h1,h2,h3,h4,h5,u,v,hu,hv,h6⟩:=chn_last p.length (splL p) (splL (derL p)) hlen (spl_tz _) (spl_tz _) (fun h0=>h (spl_ne.1 h0))
  have h7:(remsV p).getLast? = some e:=h1
  rw [h7,Option.getD_some] at hl
  have h8:=len_one (p:=e) (by rw [h3]; omega)
  have h9:seq e 0 ≠ 0:=fun h0=>h2 (by rw [← h3]; exact ev_tznil.2 fun x=>by rw [h8 x,h0])
  have h10:=Rat.mul_inv_cancel _ h9
  have hm1:=spl_pos h
  have hcp:Cp (evV p) (evD p):=by
   by_cases h0:tz (derL p) = []
   ·refine ⟨_,_,(hu.smul (splM p)⁻¹).smul (seq e 0)⁻¹,Pf.const 0,fun x=>?_⟩
    have k:=h6 x
    rw [h8 x,(ev_tznil (p:=splL (derL p))).1 (by rw [spl_tz]; exact spl_ne.2 h0) x] at k
    have k2:=ev_spl1 p x
    have k3:=Rat.mul_inv_cancel (splM p) (by grind)
    have k4:(splM p)⁻¹ * evV p x = evV (splL p) x:=by rw [k2,← Rat.mul_assoc,Rat.mul_comm _ (splM p),k3,Rat.one_mul]
    have k5:(seq e 0)⁻¹ * (u x * evV (splL p) x) = 1:=by
     rw [show u x * evV (splL p) x = seq e 0 by grind,Rat.mul_comm]; exact h10
    rw [← k4] at k5
    grind
   ·have hm2:=spl_pos h0
    refine ⟨_,_,(hu.smul (splM p)⁻¹).smul (seq e 0)⁻¹,(hv.smul (splM (derL p))⁻¹).smul (seq e 0)⁻¹,fun x=>?_⟩
    have k:=h6 x
    rw [h8 x] at k
    have k2:=ev_spl1 p x
    have k3:=Rat.mul_inv_cancel (splM p) (by grind)
    have k4:(splM p)⁻¹ * evV p x = evV (splL p) x:=by rw [k2,← Rat.mul_assoc,Rat.mul_comm _ (splM p),k3,Rat.one_mul]
    have j2:=ev_spl1 (derL p) x
    rw [ev_derL] at j2
    have j3:=Rat.mul_inv_cancel (splM (derL p)) (by grind)
    have j4:(splM (derL p))⁻¹ * evD p x = evV (splL (derL p)) x:=by rw [j2,← Rat.mul_assoc,Rat.mul_comm _ (splM (derL p)),j3,Rat.one_mul]
    have k5:(seq e 0)⁻¹ * (u x * evV (splL p) x + v x * evV (splL (derL p)) x) = 1:=by
     rw [← k,Rat.mul_comm]; exact h10
    rw [← k4,← j4] at k5
    grind
  refine ⟨h,hcp,fun _=>1,evD p,Pf.const 1,Pf.der p,?_,fun x=>by grind,fun x=>by grind⟩
  obtain ⟨a,b,ha,hb,h11⟩:=hcp
  exact ⟨⟨_,Pf.ev p,fun x=>by grind⟩,⟨_,Pf.der p,fun x=>by grind⟩,a,b,ha,hb,fun x=>(h11 x).symm⟩
end Go.Proofs.YtcbgamclcgcodaaGreat.Sg
/- Roots of a polynomial and of that with each root once; what a count says of two halves. Plain facts. -/
set_option linter.unusedVariables false
namespace Go.Proofs.YtcbgamclcgcodaaGreat.Sg
open Go.RowKit Go.Front Go.Num Go.Stab Go.Proofs.YtcbgamclcgcodaaGreat
theorem lin_ev (a x:Rat):evV [-a,1] x = x - a:=by
 show (0 * x + 1) * x + -a = x - a
 grind
theorem Pf.lin (a:Rat):Pf (fun x=>x - a):=⟨[-a,1],funext fun x=>(lin_ev a x).symm⟩
theorem lin_tz (a:Rat):tz [-a,1] ≠ []:=fun h=>by
 have h1:=ev_tznil.1 h (a + 1)
 rw [lin_ev] at h1
 grind
theorem IsD.lin (a:Rat):IsD (fun x=>x - a) (fun _=>1):=fun A B=>⟨0,Rat.le_refl,fun s t _ _ _=>⟨by grind,by grind⟩⟩
theorem factor {f:Rat→Rat} (hf:Pf f) {a:Rat} (h0:f a = 0):∃ g,Pf g∧∀ x,f x = (x - a) * g x:=by
 obtain ⟨p,rfl⟩:=hf
 have h1:=ev_rem p (lin_tz a)
 have h2:=(quo_rem p (lin_tz a)).1
 have h3:(tz (remV p [-a,1])).length≤1:=by
  have k1:=tz_len_le (remV p [-a,1])
  have k2:=tz_len_le [-a,1]
  simp only [List.length_cons,List.length_nil] at k2
  omega
 have h4:=len_one h3
 have h5:seq (remV p [-a,1]) 0 = 0:=by
  have k:=h1 a
  rw [h0,h4 a,lin_ev] at k
  grind
 exact ⟨_,Pf.ev (quoV p [-a,1]),fun x=>by rw [h1 x,h4 x,h5,lin_ev]; grind⟩
theorem lin_seq {p q:List Rat} {a:Rat} (h:∀ x,evV p x = (x - a) * evV q x) (i:Nat):seq p i = sh (seq q) i - a * seq q i:=by
 have h1:=ev_inj (p:=p) (q:=add5V (0 :: q) (q.map (· * (-a)))) (fun x=>by
  rw [ev_add5,ev_map,h x]
  show _ = (evV q x * x + 0) + _
  grind) i
 rw [h1,seq_add5,seq_cons0,seq_map]
 grind
theorem len_of {p:List Rat} {i:Nat} (h:seq p i ≠ 0):i < (tz p).length:=by
 apply Classical.byContradiction
 intro hn
 apply h
 rw [← seq_tz]
 exact pd_over (by omega)
theorem lin_len {p q:List Rat} {a:Rat} (h:∀ x,evV p x = (x - a) * evV q x) (hq:tz q ≠ []):(tz q).length < (tz p).length:=by
 obtain ⟨m,hm,h0⟩:=len_ne hq
 have h1:=lin_seq h (m + 1)
 have h2:seq q (m + 1) = 0:=by rw [← seq_tz]; exact pd_over (by omega)
 have h3:sh (seq q) (m + 1) = seq q m:=rfl
 rw [h2,h3] at h1
 have:=len_of (p:=p) (i:=m + 1) (by rw [h1]; grind)
 omega
theorem ne_ex {p:List Rat} (h:tz p ≠ []):∃ x,evV p x ≠ 0:=Classical.byContradiction fun hn=>h (ev_tznil.2 fun x=>Classical.byContradiction fun h2=>hn ⟨x,h2⟩)
theorem mult (a:Rat):∀ (n:Nat) (p:List Rat),(tz p).length≤n→tz p ≠ []→∃ (k:Nat) (g:Rat→Rat),Pf g∧g a ≠ 0∧∀ x,evV p x = (x - a) ^ k * g x:=by
 intro n
 induction n with
 | zero=>intro p h h0; exact absurd (List.length_eq_zero_iff.1 (by omega)) h0
 | succ n ih =>
  intro p hn h0
  by_cases h1:evV p a = 0
  ·obtain ⟨g,⟨q,rfl⟩,h2⟩:=factor (Pf.ev p) h1
   have hq:tz q ≠ []:=fun h=>by
    obtain ⟨y,hy⟩:=ne_ex h0
    exact hy (by rw [h2,ev_tznil.1 h y]; grind)
   have hl:=lin_len h2 hq
   obtain ⟨k,g,hg,hga,h3⟩:=ih q (by omega) hq
   exact ⟨k + 1,g,hg,hga,fun x=>by rw [h2,h3,Rat.pow_succ]; grind⟩
  ·exact ⟨0,evV p,Pf.ev p,h1,fun x=>by rw [Rat.pow_zero]; grind⟩
theorem Pf.pow {f:Rat→Rat} (h:Pf f) (k:Nat):Pf (fun x=>f x ^ k):=by
 induction k with
 | zero =>
  have e:(fun x=>f x ^ 0) = fun _=>(1:Rat):=funext fun x=>Rat.pow_zero _
  rw [e]; exact Pf.const 1
 | succ k ih =>
  have e:(fun x=>f x ^ (k + 1)) = fun x=>f x ^ k * f x:=funext fun x=>Rat.pow_succ _ _
  rw [e]; exact ih.mul h
theorem IsD.pow (a:Rat) (k:Nat):IsD (fun x=>(x - a) ^ (k + 1)) (fun x=>((k + 1:Nat):Rat) * (x - a) ^ k):=by
 induction k with
 | zero =>
  have e:(fun x=>(x - a) ^ (0 + 1)) = fun x:Rat=>x - a:=funext fun x=>by rw [Rat.pow_succ,Rat.pow_zero]; grind
  have e2:(fun x=>((0 + 1:Nat):Rat) * (x - a) ^ 0) = fun _=>(1:Rat):=funext fun x=>by rw [Rat.pow_zero,Rat.mul_one]; rfl
  rw [e,e2]; exact IsD.lin a
 | succ k ih =>
  have h1:=IsD.mul (IsD.lin a) ih (Pf.lin a) ((Pf.lin a).pow (k + 1)) (Pf.const 1)
  have e:(fun x=>(x - a) ^ (k + 1 + 1)) = fun x:Rat=>(x - a) * (x - a) ^ (k + 1):=funext fun x=>by rw [Rat.pow_succ]; grind
  have e2:(fun x=>((k + 1 + 1:Nat):Rat) * (x - a) ^ (k + 1)) = fun x:Rat=>1 * (x - a) ^ (k + 1) + (x - a) * (((k + 1:Nat):Rat) * (x - a) ^ k):=funext fun x=>by
   rw [Rat.pow_succ,show ((k + 1 + 1:Nat):Rat) = ((k + 1:Nat):Rat) + 1 by rw [Rat.natCast_add]; rfl]
   grind
  rw [e,e2]; exact h1
theorem Rt.root {p r:List Rat} (h:Rt p r) (hp:tz p ≠ []) (a:Rat):evV r a = 0↔evV p a = 0:=by
 obtain ⟨hne,hcp,g,q1,hg,hq1,hG,h1,h2⟩:=h
 refine ⟨fun h0=>by rw [h1,h0]; grind,fun h0=>Classical.byContradiction fun hr=>?_⟩
 obtain ⟨gl,rfl⟩:=hg
 have hgl:tz gl ≠ []:=fun hh=>by
  obtain ⟨y,hy⟩:=ne_ex hp
  exact hy (by rw [h1,ev_tznil.1 hh y]; grind)
 obtain ⟨k,g1,hg1,hga,h3⟩:=mult a _ gl (Nat.le_refl _) hgl
 have h4:evV gl a = 0:=by
  have e:=h1 a
  rw [h0] at e
  rcases Rat.mul_eq_zero.1 e.symm with h5 | h5
  ·exact h5
  ·exact absurd h5 hr
 cases k with
 | zero =>
  rw [h3,Rat.pow_zero] at h4
  exact hga (by grind)
 | succ k =>
  obtain ⟨g1',hg1',hd1⟩:=pf_isd hg1
  have hgd:=(IsD.mul (IsD.pow a k) hd1 ((Pf.lin a).pow (k + 1)) hg1 (((Pf.lin a).pow k).smul _)).uniq (by
   have e:=IsD.ev gl
   rw [show evV gl = fun x=>(x - a) ^ (k + 1) * g1 x from funext h3] at e
   exact e)
  have hsl:∀ x,evD gl x * evV r x + evV gl x * evD r x = evV gl x * q1 x:=fun x=>by
   have e:=(IsD.mul (IsD.ev gl) (IsD.ev r) (Pf.ev gl) (Pf.ev r) (Pf.der gl)).uniq (by
    have:=IsD.ev p
    rw [show evV p = fun x=>evV gl x * evV r x from funext h1] at this
    exact this) x
   rw [h2 x] at e
   exact e
  have key:=pf_cancel (f:=fun x=>(x - a) ^ k) (g:=fun x=>(((k + 1:Nat):Rat) * g1 x + (x - a) * g1' x) * evV r x) (h:=fun x=>(x - a) * (g1 x * (q1 x - evD r x)))
   ((Pf.lin a).pow k) ((((hg1.smul _).add ((Pf.lin a).mul hg1'))).mul (Pf.ev r)) ((Pf.lin a).mul (hg1.mul (hq1.sub (Pf.der r)))) (fun x=>by
    have e1:=hsl x
    have e2:=hgd x
    rw [← e2,h3 x,Rat.pow_succ] at e1
    have e3:(((k + 1:Nat):Rat) * (x - a) ^ k * g1 x + (x - a) ^ k * (x - a) * g1' x) * evV r x + (x - a) ^ k * (x - a) * g1 x * evD r x = (x - a) ^ k * (x - a) * g1 x * q1 x:=e1
    grind) ⟨a + 1,by
    show (a + 1 - a) ^ k ≠ 0
    have e:a + 1 - a = 1:=by grind
    rw [e]
    have:∀ k:Nat,(1:Rat) ^ k = 1:=fun k=>by
     induction k with
     | zero=>exact Rat.pow_zero _
     | succ k ih=>rw [Rat.pow_succ,ih,Rat.mul_one]
    rw [this]; decide⟩ a
  have key2:(((k + 1:Nat):Rat) * g1 a + (a - a) * g1' a) * evV r a = (a - a) * (g1 a * (q1 a - evD r a)):=key
  have key3:((k + 1:Nat):Rat) * g1 a * evV r a = 0:=by grind
  rcases Rat.mul_eq_zero.1 key3 with h5 | h5
  ·rcases Rat.mul_eq_zero.1 h5 with h6 | h6
   ·exact nat_ne h6
   ·exact hga h6
  ·exact hr h5
def varV (l:List (List Rat)) (x:Rat):Nat:=vr 0 (l.map fun m=>sg (evV m x))
def rtV (l:List (List Rat)) (x:Rat):Bool:=decide (sg (evV (l.getD 0 []) x) = 0)
def cntV (p:List Rat) (lo hi:Rat):Int:=(varV (remsV (rootV p)) lo:Int) - varV (remsV (rootV p)) hi + (if rtV (remsV (rootV p)) lo = true then 1 else 0)
theorem rems_head {p:List Rat} (h:tz p ≠ []):∃ l,remsV p = splL p :: l:=by
 have h1:splL p ≠ []:=fun h0=>h (spl_ne.1 h0)
 unfold remsV
 by_cases h2:splL (derL p) = []
 ·rw [h2,chn_nil h1]; exact ⟨_,rfl⟩
 ·rw [chn_cons h1 h2]; exact ⟨_,rfl⟩
theorem spl_root {p:List Rat} (h:tz p ≠ []) (x:Rat):evV (splL p) x = 0↔evV p x = 0:=by
 have h1:=ev_spl1 p x
 have h2:=spl_pos h
 constructor
 ·intro h0; rw [h1,h0]; grind
 ·intro h0
  rw [h0] at h1
  rcases Rat.mul_eq_zero.1 h1.symm with h3 | h3
  ·rw [h3] at h2; exact absurd h2 Rat.lt_irrefl
  ·exact h3
theorem rtV_iff {p:List Rat} (h:tz p ≠ []) (x:Rat):rtV (remsV (rootV p)) x = true↔evV p x = 0:=by
 have hr:=root_rt h
 obtain ⟨l,e⟩:=rems_head hr.ne
 rw [← hr.root h x,← spl_root hr.ne x,e]
 unfold rtV
 rw [decide_eq_true_iff]
 exact sg_eq0
end Go.Proofs.YtcbgamclcgcodaaGreat.Sg
/- Divisors of a product of linear factors and of a quadratic one without roots; their coefficients. Plain facts. -/
set_option linter.unusedVariables false
namespace Go.Proofs.YtcbgamclcgcodaaGreat.Sg
open Go.RowKit Go.Front Go.Num Go.Stab Go.Proofs.YtcbgamclcgcodaaGreat
def Pd:List Rat→Rat→Rat
 | [],_=>1
 | a :: l,x=>(x - a) * Pd l x
def Qd:Option Rat→Rat→Rat
 | none,_=>1
 | some b,x=>x * x + b
def dg:Option Rat→Nat
 | none=>0
 | some _=>2
theorem Pf.pd (l:List Rat):Pf (Pd l):=by
 induction l with
 | nil=>exact Pf.const 1
 | cons a l ih=>exact (Pf.lin a).mul ih
theorem Pf.id:Pf (fun x=>x):=⟨[0,1],funext fun x=>by show x = (0 * x + 1) * x + 0; grind⟩
theorem Pf.qd (b:Option Rat):Pf (Qd b):=by
 cases b with
 | none=>exact Pf.const 1
 | some b=>exact (Pf.id.mul Pf.id).add (Pf.const b)
theorem sq_nn (x:Rat):0≤x * x:=by
 rcases tot 0 x with h | h
 ·exact Rat.mul_nonneg h h
 ·have:=Rat.mul_nonneg (a:=-x) (b:=-x) (by grind) (by grind)
  grind
theorem qd_pos {b:Option Rat} (hb:∀ c,b = some c→0 < c) (x:Rat):0 < Qd b x:=by
 cases b with
 | none=>show (0:Rat) < 1; decide
 | some b =>
  have h1:=hb b rfl
  have h2:=sq_nn x
  show 0 < x * x + b
  grind
def Fac (p rl:List Rat) (b:Option Rat):Prop:=∃ c:Rat,c ≠ 0∧∀ x,evV p x = c * (Pd rl x * Qd b x)
theorem ev_two {p:List Rat} (h:(tz p).length≤2) (x:Rat):evV p x = seq p 1 * x + seq p 0:=by
 rw [ev_seq (p:=p) (q:=[seq p 0,seq p 1]) (c:=1) (fun i=>by
  rw [Rat.one_mul]
  match i with
  | 0=>rfl
  | 1=>rfl
  | i + 2 =>
   rw [← seq_tz]
   exact (pd_over (by omega)).trans (pd_over (by simp)).symm) x]
 show 1 * ((0 * x + seq p 1) * x + seq p 0) = _
 grind
theorem ev_three {p:List Rat} (h:(tz p).length≤3) (x:Rat):evV p x = seq p 2 * (x * x) + seq p 1 * x + seq p 0:=by
 rw [ev_seq (p:=p) (q:=[seq p 0,seq p 1,seq p 2]) (c:=1) (fun i=>by
  rw [Rat.one_mul]
  match i with
  | 0=>rfl
  | 1=>rfl
  | 2=>rfl
  | i + 3 =>
   rw [← seq_tz]
   exact (pd_over (by omega)).trans (pd_over (by simp)).symm) x]
 show 1 * (((0 * x + seq p 2) * x + seq p 1) * x + seq p 0) = _
 grind
theorem divs {b:Option Rat} (hb:∀ c,b = some c→0 < c):∀ (rl d:List Rat) (k:Rat→Rat) (c:Rat),c ≠ 0→Pf k→(∀ x,evV d x * k x = c * (Pd rl x * Qd b x))→∃ (rl':List Rat) (b':Option Rat),rl'.Sublist rl∧(b' = none ∨ b' = b)∧Fac d rl' b':=by
 intro rl
 induction rl with
 | nil =>
  intro d k c hc hk he
  have hone:(tz d).length≤1→Fac d [] none:=fun h=>by
   have h1:=len_one h
   refine ⟨seq d 0,fun h0=>?_,fun x=>by rw [h1 x]; show _ = _ * (1 * 1); grind⟩
   have h2:=he 0
   rw [h1 0,h0,Rat.zero_mul] at h2
   have h3:=qd_pos hb 0
   rcases Rat.mul_eq_zero.1 h2.symm with h4 | h4
   ·exact hc h4
   ·have h5:(1:Rat) * Qd b 0 = 0:=h4
    grind
  cases b with
  | none =>
   have hd:Dv (evV d) (evV [c]):=⟨k,hk,fun x=>by rw [he x]; show 0 * x + c = c * (1 * 1); grind⟩
   have hl:=dv_len hd (fun h=>hc (by have:=ev_tznil.1 h 0; rw [show evV [c] 0 = c by show 0 * 0 + c = c; grind] at this; exact this))
   have:=tz_len_le [c]
   simp only [List.length_cons,List.length_nil] at this
   exact ⟨[],none,List.Sublist.refl _,Or.inl rfl,hone (by omega)⟩
  | some e =>
   have hev:∀ x,evV [e * c,0,c] x = c * (x * x + e):=fun x=>by
    show ((0 * x + c) * x + 0) * x + e * c = _
    grind
   have hb0:=hb e rfl
   have hq:∀ x,Pd [] x * Qd (some e) x = x * x + e:=fun x=>by show 1 * (x * x + e) = _; grind
   have hd:Dv (evV d) (evV [e * c,0,c]):=⟨k,hk,fun x=>by rw [he x,hev x,hq]⟩
   have hl:=dv_len hd (fun h=>by
    have h1:=ev_tznil.1 h 0
    rw [hev] at h1
    rcases Rat.mul_eq_zero.1 h1 with h2 | h2
    ·exact hc h2
    ·grind)
   have hl2:=tz_len_le [e * c,0,c]
   simp only [List.length_cons,List.length_nil] at hl2
   rcases Nat.lt_or_ge 1 (tz d).length with h1 | h1
   ·have hdn:tz d ≠ []:=fun h=>by rw [h] at h1; simp at h1
    obtain ⟨m,hm,h0⟩:=len_ne hdn
    have hm2:m = 1 ∨ m = 2:=by omega
    rcases hm2 with rfl | rfl
    ·exfalso
     have h2:=ev_two (p:=d) (by omega)
     have h3:=he (-(seq d 0) / seq d 1)
     have h4:evV d (-(seq d 0) / seq d 1) = 0:=by
      rw [h2,Rat.mul_comm,div_cancel h0]; grind
     rw [h4,Rat.zero_mul,hq] at h3
     rcases Rat.mul_eq_zero.1 h3.symm with h5 | h5
     ·exact hc h5
     ·have:=sq_nn (-(seq d 0) / seq d 1)
      grind
    ·have h2:=ev_three (p:=d) (by omega)
     have hr:∀ x,evV [e * c - c / seq d 2 * seq d 0,-(c / seq d 2 * seq d 1)] x = c * (x * x + e) - c / seq d 2 * evV d x:=fun x=>by
      rw [h2 x]
      have h5:=div_cancel (a:=c) h0
      show (0 * x + -(c / seq d 2 * seq d 1)) * x + (e * c - c / seq d 2 * seq d 0) = _
      have h6:c / seq d 2 * (seq d 2 * (x * x)) = c * (x * x):=by rw [← Rat.mul_assoc,h5]
      grind
     have hz:tz [e * c - c / seq d 2 * seq d 0,-(c / seq d 2 * seq d 1)] = []:=Classical.byContradiction fun hn=>by
      have hd2:Dv (evV d) (evV [e * c - c / seq d 2 * seq d 0,-(c / seq d 2 * seq d 1)]):=⟨_,hk.sub (Pf.const (c / seq d 2)),fun x=>by
       rw [hr x]
       have h7:=he x
       rw [hq] at h7
       rw [← h7]
       grind⟩
      have h8:=dv_len hd2 hn
      have h9:=tz_len_le [e * c - c / seq d 2 * seq d 0,-(c / seq d 2 * seq d 1)]
      simp only [List.length_cons,List.length_nil] at h9
      omega
     refine ⟨[],some e,List.Sublist.refl _,Or.inr rfl,seq d 2,h0,fun x=>?_⟩
     have h5:=ev_tznil.1 hz x
     rw [hr x] at h5
     have h6:=div_cancel (a:=c) h0
     rw [hq]
     have h7:c * (seq d 2 * (x * x + e) - evV d x) = 0:=by
      have h8:c * evV d x = seq d 2 * (c / seq d 2 * evV d x):=by
       rw [← Rat.mul_assoc,Rat.mul_comm (seq d 2),h6]
      grind
     rcases Rat.mul_eq_zero.1 h7 with h8 | h8
     ·exact absurd h8 hc
     ·grind
   ·exact ⟨[],none,List.Sublist.refl _,Or.inl rfl,hone h1⟩
 | cons a rl ih =>
  intro d k c hc hk he
  have hne:∃ x,(fun x=>x - a) x ≠ 0:=⟨a + 1,by show a + 1 - a ≠ 0; grind⟩
  by_cases hda:evV d a = 0
  ·obtain ⟨g,⟨q,rfl⟩,h2⟩:=factor (Pf.ev d) hda
   have h3:=pf_cancel (f:=fun x=>x - a) (g:=fun x=>evV q x * k x) (h:=fun x=>c * (Pd rl x * Qd b x)) (Pf.lin a) ((Pf.ev q).mul hk) (((Pf.pd rl).mul (Pf.qd b)).smul c) (fun x=>by
    have h4:=he x
    rw [h2 x] at h4
    have h5:(x - a) * evV q x * k x = c * ((x - a) * Pd rl x * Qd b x):=h4
    grind) hne
   obtain ⟨rl',b',h4,h5,c',hc',h6⟩:=ih q k c hc hk h3
   exact ⟨a :: rl',b',h4.cons_cons a,h5,c',hc',fun x=>by rw [h2 x,h6 x]; show _ = c' * ((x - a) * Pd rl' x * Qd b' x); grind⟩
  ·have hka:k a = 0:=by
    have h4:=he a
    have h5:evV d a * k a = c * ((a - a) * Pd rl a * Qd b a):=h4
    have h6:evV d a * k a = 0:=by grind
    rcases Rat.mul_eq_zero.1 h6 with h7 | h7
    ·exact absurd h7 hda
    ·exact h7
   obtain ⟨k1,hk1,h2⟩:=factor hk hka
   have h3:=pf_cancel (f:=fun x=>x - a) (g:=fun x=>evV d x * k1 x) (h:=fun x=>c * (Pd rl x * Qd b x)) (Pf.lin a) ((Pf.ev d).mul hk1) (((Pf.pd rl).mul (Pf.qd b)).smul c) (fun x=>by
    have h4:=he x
    rw [h2 x] at h4
    have h5:evV d x * ((x - a) * k1 x) = c * ((x - a) * Pd rl x * Qd b x):=h4
    grind) hne
   obtain ⟨rl',b',h4,h5,h6⟩:=ih d k1 c hc hk1 h3
   exact ⟨rl',b',h4.cons a,h5,h6⟩
theorem Fac.dv {p d rl:List Rat} {b:Option Rat} (h:Fac p rl b) (hb:∀ c,b = some c→0 < c) (hd:Dv (evV d) (evV p)):∃ (rl':List Rat) (b':Option Rat),rl'.Sublist rl∧(b' = none ∨ b' = b)∧Fac d rl' b':=by
 obtain ⟨c,hc,h1⟩:=h
 obtain ⟨k,hk,h2⟩:=hd
 exact divs hb rl d k c hc hk (fun x=>by rw [← h2 x,h1 x])
theorem Fac.ne {p rl:List Rat} {b:Option Rat} (h:Fac p rl b) (hb:∀ c,b = some c→0 < c):tz p ≠ []:=fun h0=>by
 obtain ⟨c,hc,h1⟩:=h
 have h2:=pf_dom (f:=fun x=>c * Pd rl x) (g:=Qd b) ((Pf.pd rl).smul c) (Pf.qd b) (fun x=>by
  have h3:=h1 x
  rw [ev_tznil.1 h0 x] at h3
  grind)
 have h4:¬ ∃ x,c * Pd rl x ≠ 0:=fun h5=>by
  have h6:=h2 h5 0
  have:=qd_pos hb 0
  grind
 have h7:∀ l:List Rat,¬ ∀ x,Pd l x = 0:=fun l=>by
  induction l with
  | nil=>intro h8; exact absurd (h8 0) (by show (1:Rat) ≠ 0; decide)
  | cons a l ih =>
   intro h8
   exact ih (pf_dom (f:=fun x=>x - a) (Pf.lin a) (Pf.pd l) h8 ⟨a + 1,by show a + 1 - a ≠ 0; grind⟩)
 refine h7 rl fun x=>Classical.byContradiction fun h8=>h4 ⟨x,fun h9=>?_⟩
 rcases Rat.mul_eq_zero.1 h9 with h10 | h10
 ·exact hc h10
 ·exact h8 h10
def Tw (a:Rat):Prop:=∃ z:Int,a * 12 = (z:Rat)∧z.natAbs≤12
def Sx (b:Option Rat):Prop:=∀ c,b = some c→0 < c∧∃ z:Int,c * 16 = (z:Rat)∧z.natAbs≤4
theorem Sx.pos {b:Option Rat} (h:Sx b):∀ c,b = some c→0 < c:=fun c e=>(h c e).1
theorem fac_co {b:Option Rat} (hb:Sx b):∀ (rl d:List Rat) (c:Rat),(∀ a ∈ rl,Tw a)→(∀ x,evV d x = c * (Pd rl x * Qd b x)) →
  ∃ s:Nat→Rat,(∀ i,seq d i = c * s i)∧(∀ i,∃ z:Int,s i * ((16 * 12 ^ rl.length:Nat):Rat) = (z:Rat)∧z.natAbs≤16 * 24 ^ rl.length)∧s (rl.length + dg b) = 1∧∀ i,rl.length + dg b < i→s i = 0:=by
 intro rl
 induction rl with
 | nil =>
  intro d c _ he
  cases b with
  | none =>
   have h1:=ev_inj (p:=d) (q:=[c]) (fun x=>by rw [he x]; show c * (1 * 1) = 0 * x + c; grind)
   refine ⟨fun i=>if i = 0 then 1 else 0,fun i=>?_,fun i=>?_,rfl,fun i hi=>if_neg (by simp [dg] at hi; omega)⟩
   ·rw [h1 i]
    match i with
    | 0=>show c = c * 1; grind
    | i + 1 =>
     show ([c].getD (i + 1) 0:Rat) = c * 0
     rw [pd_over (by simp)]; grind
   ·by_cases h:i = 0
    ·exact ⟨16,by dsimp only; rw [if_pos h,Rat.one_mul]; rfl,by simp⟩
    ·exact ⟨0,by dsimp only; rw [if_neg h,Rat.zero_mul]; rfl,by simp⟩
  | some e =>
   obtain ⟨h0,z,hz,hz2⟩:=hb e rfl
   have h1:=ev_inj (p:=d) (q:=[c * e,0,c]) (fun x=>by rw [he x]; show c * (1 * (x * x + e)) = ((0 * x + c) * x + 0) * x + c * e; grind)
   refine ⟨fun i=>if i = 0 then e else if i = 2 then 1 else 0,fun i=>?_,fun i=>?_,rfl,fun i hi=>by simp only [dg,List.length_nil] at hi; dsimp only; rw [if_neg (by omega),if_neg (by omega)]⟩
   ·rw [h1 i]
    match i with
    | 0=>rfl
    | 1=>show (0:Rat) = c * 0; grind
    | 2=>show c = c * 1; grind
    | i + 3 =>
     dsimp only
     rw [if_neg (by omega),if_neg (by omega)]
     exact (pd_over (by simp)).trans (by grind)
   ·by_cases h:i = 0
    ·exact ⟨z,by dsimp only; rw [if_pos h]; exact hz,by simp only [List.length_nil,Nat.pow_zero]; omega⟩
    ·by_cases h2:i = 2
     ·exact ⟨16,by dsimp only; rw [if_neg h,if_pos h2,Rat.one_mul]; rfl,by simp⟩
     ·exact ⟨0,by dsimp only; rw [if_neg h,if_neg h2,Rat.zero_mul]; rfl,by simp⟩
 | cons a rl ih =>
  intro d c ha he
  obtain ⟨q,hq⟩:=((Pf.pd rl).mul (Pf.qd b)).smul c
  have hq2:∀ x,evV q x = c * (Pd rl x * Qd b x):=fun x=>by rw [← hq]
  obtain ⟨s,h1,h2,h3,h4⟩:=ih q c (fun y hy=>ha y (List.mem_cons_of_mem _ hy)) hq2
  obtain ⟨y,hy,hy2⟩:=ha a (List.mem_cons_self ..)
  have h5:=lin_seq (p:=d) (q:=q) (a:=a) (fun x=>by rw [he x,hq2 x]; show c * ((x - a) * Pd rl x * Qd b x) = _; grind)
  refine ⟨fun i=>sh s i - a * s i,fun i=>?_,fun i=>?_,?_,fun i hi=>?_⟩
  ·rw [h5 i,h1 i]
   cases i with
   | zero=>show (0:Rat) - _ = c * (0 - _); grind
   | succ i=>show seq q i - _ = c * (s i - _); rw [h1 i]; grind
  ·obtain ⟨z,hz,hz2⟩:=h2 i
   obtain ⟨z1,hz1,hz3⟩:∃ z1:Int,sh s i * ((16 * 12 ^ rl.length:Nat):Rat) = (z1:Rat)∧z1.natAbs≤16 * 24 ^ rl.length:=by
    cases i with
    | zero=>exact ⟨0,by show (0:Rat) * _ = _; rw [Rat.zero_mul]; rfl,by simp⟩
    | succ i=>exact h2 i
   refine ⟨12 * z1 - y * z,?_,?_⟩
   ·rw [Rat.intCast_sub,Rat.intCast_mul,Rat.intCast_mul,← hz,← hz1,← hy,List.length_cons,Nat.pow_succ,← Nat.mul_assoc,Rat.natCast_mul]
    have e1:((12:Int):Rat) = 12:=rfl
    have e2:((12:Nat):Rat) = 12:=rfl
    rw [e1,e2]
    generalize ((16 * 12 ^ rl.length:Nat):Rat) = D
    grind
   ·have e1:(12 * z1 - y * z).natAbs≤12 * z1.natAbs + y.natAbs * z.natAbs:=by
     have e2:=Int.natAbs_mul y z
     have e3:=Int.natAbs_sub_le (12 * z1) (y * z)
     have e4:(12 * z1).natAbs = 12 * z1.natAbs:=by rw [Int.natAbs_mul]; rfl
     omega
    have e2:y.natAbs * z.natAbs≤12 * z.natAbs:=Nat.mul_le_mul_right _ hy2
    rw [List.length_cons,Nat.pow_succ]
    omega
  ·show sh s ((rl.length + 1) + dg b) - a * s ((rl.length + 1) + dg b) = 1
   rw [show rl.length + 1 + dg b = (rl.length + dg b) + 1 by omega,h4 _ (Nat.lt_succ_self _)]
   show s (rl.length + dg b) - a * 0 = 1
   rw [h3]; grind
  ·simp only [List.length_cons] at hi
   obtain ⟨j,rfl⟩:∃ j,i = j + 1:=⟨i - 1,by omega⟩
   show s j - a * s (j + 1) = 0
   rw [h4 j (by omega),h4 (j + 1) (by omega)]; grind
theorem pow24 {n:Nat} (h:n≤9):3 * (16 * 24 ^ n) < W32 ^ 2:=by
 have:=Nat.pow_le_pow_right (n:=24) (by decide) h
 have e:3 * (16 * 24 ^ 9) < W32 ^ 2:=by decide
 omega
theorem pow12 {n:Nat} (h:n≤9):16 * 12 ^ n < W32 ^ 2:=by
 have:=Nat.pow_le_pow_right (n:=12) (by decide) h
 have e:16 * 12 ^ 9 < W32 ^ 2:=by decide
 omega
theorem fac_fr {rl d:List Rat} {b:Option Rat} (hb:Sx b) (ha:∀ a ∈ rl,Tw a) (hl:rl.length≤9) {c:Int} (hc:c.natAbs≤3) (he:∀ x,evV d x = (c:Rat) * (Pd rl x * Qd b x)):∀ x ∈ d,Fr 2 (16 * 12 ^ rl.length) x:=by
 obtain ⟨s,h1,h2,-⟩:=fac_co hb rl d c ha he
 intro x hx
 obtain ⟨i,hi,rfl⟩:=mem_getD hx
 obtain ⟨z,hz,hz2⟩:=h2 i
 have h3:=h1 i
 unfold seq at h3
 rw [h3]
 refine Fr.int (z:=c * z) ?_ (by rw [Rat.mul_assoc,hz,Rat.intCast_mul])
 have h4:=pow24 hl
 rw [Int.natAbs_mul]
 exact Nat.lt_of_le_of_lt (Nat.mul_le_mul hc hz2) h4
theorem fac_len {rl d:List Rat} {b:Option Rat} (hb:Sx b) (ha:∀ a ∈ rl,Tw a) (h:Fac d rl b):(tz d).length = rl.length + dg b + 1∧∀ x,evV d x = lead (tz d) * (Pd rl x * Qd b x):=by
 obtain ⟨c,hc,he⟩:=h
 obtain ⟨s,h1,h2,h3,h4⟩:=fac_co hb rl d c ha he
 have h5:=len_of (p:=d) (i:=rl.length + dg b) (by rw [h1,h3]; grind)
 have hn:tz d ≠ []:=fun h0=>by rw [h0] at h5; simp at h5
 obtain ⟨m,hm,h6⟩:=len_ne hn
 have h7:¬ rl.length + dg b < m:=fun h8=>h6 (by rw [h1,h4 m h8]; grind)
 have h8:m = rl.length + dg b:=by omega
 refine ⟨by omega,fun x=>?_⟩
 have h9:lead (tz d) = c:=by
  unfold lead
  rw [hm,tz_getD']
  have:=h1 m
  unfold seq at this
  rw [show m + 1 - 1 = m by omega,this,h8,h3]; grind
 rw [h9,he x]
theorem mon_lead {p:List Rat} (h:tz p ≠ []):lead (tz (monV p)) = 1:=by
 rw [monV_tz,monV_eq h]
 have h1:=lead_tz h
 unfold lead at *
 rw [List.length_map]
 rw [List.getD_eq_getElem?_getD,List.getElem?_map]
 have h2:=List.length_pos_iff.2 h
 rw [List.getElem?_eq_getElem (by omega)]
 rw [List.getD_eq_getElem?_getD,List.getElem?_eq_getElem (by omega)] at h1 ⊢
 show (tz p)[(tz p).length - 1] * (((1:Int):Rat) / (tz p)[(tz p).length - 1]) = 1
 rw [Rat.mul_comm]
 exact div_cancel h1
theorem mon_fr {p q rl:List Rat} {b:Option Rat} (h:Fac p rl b) (hb:Sx b) (ha:∀ a ∈ rl,Tw a) (hl:rl.length≤9) (hd:Dv (evV (monV q)) (evV p)):(∃ n,n≤rl.length∧∀ x ∈ monV q,Fr 2 (16 * 12 ^ n) x)∧∃ rl' b',rl'.Sublist rl∧Sx b'∧Fac (monV q) rl' b':=by
 obtain ⟨rl',b',h1,h2,h3⟩:=h.dv hb.pos hd
 have hb':Sx b':=by
  rcases h2 with rfl | rfl
  ·intro c e; cases e
  ·exact hb
 have ha':∀ a ∈ rl',Tw a:=fun a h=>ha a (h1.subset h)
 have hl':=h1.length_le
 have h4:=h3.ne hb'.pos
 have hq:tz q ≠ []:=fun h0=>h4 (by unfold monV; rw [if_pos h0]; rfl)
 have h5:=(fac_len hb' ha' h3).2
 rw [mon_lead hq] at h5
 exact ⟨⟨_,hl',fac_fr hb' ha' (by omega) (c:=1) (by decide) h5⟩,rl',b',h1,hb',h3⟩
end Go.Proofs.YtcbgamclcgcodaaGreat.Sg
/- What the count says of a product of linear factors. Plain facts. -/
set_option linter.unusedVariables false
namespace Go.Proofs.YtcbgamclcgcodaaGreat.Sg
open Go.RowKit Go.Front Go.Num Go.Stab Go.Proofs.YtcbgamclcgcodaaGreat
theorem sg_mul (a b:Rat):sg (a * b) = sg a * sg b:=by
 rcases sg_cases a with ⟨h,e⟩ | ⟨h,e⟩ | ⟨h,e⟩ <;> rcases sg_cases b with ⟨k,f⟩ | ⟨k,f⟩ | ⟨k,f⟩ <;> rw [e,f]
 ·have:=Rat.mul_pos (a:=-a) (b:=-b) (by grind) (by grind)
  rw [sg_pos (by grind)]; rfl
 ·rw [k,Rat.mul_zero,sg_zero]; rfl
 ·have:=Rat.mul_pos (a:=-a) (b:=b) (by grind) k
  rw [sg_neg (by grind)]; rfl
 ·rw [h,Rat.zero_mul,sg_zero]; rfl
 ·rw [h,Rat.zero_mul,sg_zero]; rfl
 ·rw [h,Rat.zero_mul,sg_zero]; rfl
 ·have:=Rat.mul_pos (a:=a) (b:=-b) h (by grind)
  rw [sg_neg (by grind)]; rfl
 ·rw [k,Rat.mul_zero,sg_zero]; rfl
 ·rw [sg_pos (Rat.mul_pos h k)]; rfl
theorem pd_sg {s t:Rat}:∀ (rl:List Rat),(∀ a ∈ rl,(s < a∧t < a) ∨ (a < s∧a < t))→sg (Pd rl s) = sg (Pd rl t):=by
 intro rl
 induction rl with
 | nil=>intro _; rfl
 | cons a rl ih =>
  intro h
  show sg ((s - a) * Pd rl s) = sg ((t - a) * Pd rl t)
  rw [sg_mul,sg_mul,ih (fun y hy=>h y (List.mem_cons_of_mem _ hy))]
  rcases h a (List.mem_cons_self ..) with ⟨h1,h2⟩ | ⟨h1,h2⟩
  ·rw [sg_neg (q:=s - a) (by grind),sg_neg (q:=t - a) (by grind)]
  ·rw [sg_pos (q:=s - a) (by grind),sg_pos (q:=t - a) (by grind)]
theorem pd_zero (x:Rat):∀ (rl:List Rat),Pd rl x = 0↔x ∈ rl:=by
 intro rl
 induction rl with
 | nil=>exact ⟨fun h=>absurd h (by show (1:Rat) ≠ 0; decide),fun h=>by simp at h⟩
 | cons a rl ih =>
  rw [List.mem_cons,← ih]
  show (x - a) * Pd rl x = 0↔_
  constructor
  ·intro h
   rcases Rat.mul_eq_zero.1 h with h1 | h1
   ·exact Or.inl (by grind)
   ·exact Or.inr h1
  ·rintro (h | h)
   ·rw [h]; grind
   ·rw [h]; grind
theorem Fac.zero {f rl:List Rat} {b:Option Rat} (h:Fac f rl b) (hb:∀ c,b = some c→0 < c) (x:Rat):evV f x = 0↔x ∈ rl:=by
 obtain ⟨c,hc,h1⟩:=h
 rw [← pd_zero x rl,h1 x]
 have h2:=qd_pos hb x
 constructor
 ·intro h3
  rcases Rat.mul_eq_zero.1 h3 with h4 | h4
  ·exact absurd h4 hc
  ·rcases Rat.mul_eq_zero.1 h4 with h5 | h5
   ·exact h5
   ·grind
 ·intro h3; rw [h3]; grind
theorem Fac.sg {f rl:List Rat} {b:Option Rat} (h:Fac f rl b) (hb:∀ c,b = some c→0 < c) {s t:Rat} (ha:∀ a ∈ rl,(s < a∧t < a) ∨ (a < s∧a < t)):Sg.sg (evV f s) = Sg.sg (evV f t):=by
 obtain ⟨c,hc,h1⟩:=h
 rw [h1 s,h1 t,sg_mul,sg_mul,sg_mul,sg_mul,pd_sg rl ha,sg_pos (qd_pos hb s),sg_pos (qd_pos hb t)]
def cn:List Rat→Rat→Rat→Nat
 | [],_,_=>0
 | d :: ds,lo,hi=>(if lo < d∧d≤hi then 1 else 0) + cn ds lo hi
def cc:List Rat→Rat→Rat→Nat
 | [],_,_=>0
 | d :: ds,lo,hi=>(if lo≤d∧d≤hi then 1 else 0) + cc ds lo hi
theorem varV_V {r:List Rat} {l:List (List Rat)} (e:remsV r = splL r :: l) (x:Rat):varV (remsV r) x = V (evV (splL r)) (l.map evV) x:=by
 unfold varV V sgs
 rw [e]
 simp only [List.map_cons,List.map_map]
 rfl
theorem Fac.spl {p rl:List Rat} {b:Option Rat} (h:Fac p rl b) (h0:tz p ≠ []):Fac (splL p) rl b:=by
 obtain ⟨c,hc,h1⟩:=h
 have h2:=spl_pos h0
 have h3:splM p ≠ 0:=fun e=>by rw [e] at h2; exact absurd h2 Rat.lt_irrefl
 have h4:=Rat.mul_inv_cancel _ h3
 refine ⟨(splM p)⁻¹ * c,fun e=>?_,fun x=>?_⟩
 ·rcases Rat.mul_eq_zero.1 e with h5 | h5
  ·rw [h5,Rat.mul_zero] at h4; exact absurd h4 (by decide)
  ·exact hc h5
 ·have h5:=ev_spl1 p x
  rw [h1 x] at h5
  rw [Rat.mul_assoc,h5,← Rat.mul_assoc,Rat.mul_comm _ (splM p),h4,Rat.one_mul]
theorem Rt.dvp {p r:List Rat} (h:Rt p r):Dv (evV r) (evV p):=by
 obtain ⟨g,q1,hg,-,-,h1,-⟩:=h.dv
 exact ⟨g,hg,fun x=>by rw [h1 x]; grind⟩
end Go.Proofs.YtcbgamclcgcodaaGreat.Sg
/- The answers of package sturm, in plain terms, and the examples of the chapter. -/
set_option linter.unusedVariables false
namespace Go.Proofs.YtcbgamclcgcodaaGreat.Sg
open Go.RowKit Go.Front Go.Num Go.Stab Go.Proofs.YtcbgamclcgcodaaGreat
def safV:Nat→List Rat→Rat→Int
 | 0,_,_=>0
 | n + 1,p,x=>if p = [] then 0 else if sg (evV p x) ≠ 0 then sg (evV p x) else safV n (tz (derL p)) x
def btwV (p:List Rat) (lo hi:Rat):Int:=(varV (remsV (rootV p)) lo:Int) - varV (remsV (rootV p)) hi - (if rtV (remsV (rootV p)) hi = true∧lo < hi then 1 else 0)
def chgV:Nat→List Rat→Rat→Rat→Bool
 | 0,_,_,_=>false
 | n + 1,p,lo,hi=>if btwV p lo hi = 0 then false else if btwV (gcdV p (derL p)) lo hi ≠ btwV p lo hi then true else chgV n (gcdV (gcdV p (derL p)) (derL (gcdV p (derL p)))) lo hi
def nngV (p:List Rat) (lo hi:Rat):Bool:=if tz p = [] then true else if sg (evV (splL p) lo) < 0 ∨ sg (evV (splL p) hi) < 0 then false else if lo = hi then true else decide (0 < safV ((tz p).length + 1) (splL p) lo) && !chgV ((tz p).length + 1) (splL p) lo hi
def posV (p:List Rat) (lo hi:Rat):Bool:=if tz p = [] then false else if sg (evV (splL p) lo)≤0 then false else decide (cntV p lo hi = 0)
theorem awk_fac3:Fac [0,-1,0,1] [0,1,-1] none:=⟨1,by decide,fun x=>by
 show ((((0 * x + 1) * x + 0) * x + -1) * x + 0:Rat) = 1 * ((x - 0) * ((x - 1) * ((x - -1) * 1)) * 1)
 grind⟩
end Go.Proofs.YtcbgamclcgcodaaGreat.Sg
