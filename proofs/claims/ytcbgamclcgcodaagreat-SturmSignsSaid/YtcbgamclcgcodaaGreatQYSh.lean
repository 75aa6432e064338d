/- What the answers of package sturm say: positive, nowhere negative. Plain facts. -/
import Derived.Test.YtcbgamclcgcodaaGreatQYNg
set_option linter.unusedVariables false
namespace Go.Proofs.YtcbgamclcgcodaaGreat.Sg
open Go.RowKit Go.Front Go.Num Go.Stab Go.Proofs.YtcbgamclcgcodaaGreat
def Still (I:Rat→Prop) (f:Rat→Rat):Prop:=∀ s t,I s→I t→s < t→f s ≠ 0∧f t ≠ 0∧sg (f s) = sg (f t)
def Conv (I:Rat→Prop):Prop:=∀ s t u,I s→I u→s≤t→t≤u→I t
theorem Cp.bound {v w:Rat→Rat} (h:Cp v w) (A B:Rat):∃ d,0 < d∧∀ x,A≤x→x≤B→Big d (v x) ∨ Big d (w x):=by
 obtain ⟨a,b,ha,hb,h1⟩:=h
 obtain ⟨K,hK,k1⟩:=ha.on A B
 obtain ⟨L,hL,k2⟩:=hb.on A B
 have hM:0 < K + L + 1:=by grind
 have hd:0 < 1 / (K + L + 1):=divP (by decide) hM
 have he:=div_cancel (a:=1) (b:=K + L + 1) (by grind)
 refine ⟨1 / (K + L + 1),hd,fun x hx1 hx2=>Classical.byContradiction fun hn=>?_⟩
 generalize 1 / (K + L + 1) = d at *
 obtain ⟨n1,n2⟩:¬ Big d (v x)∧¬ Big d (w x):=⟨fun h=>hn (Or.inl h),fun h=>hn (Or.inr h)⟩
 obtain ⟨p1,p2⟩:=not_big n1
 obtain ⟨p3,p4⟩:=not_big n2
 have b1:Bd (K * d) (a x * v x):=(k1 x hx1 hx2).mul (N:=d) ⟨by grind,by grind⟩
 have b2:Bd (L * d) (b x * w x):=(k2 x hx1 hx2).mul (N:=d) ⟨by grind,by grind⟩
 have b3:=(b1.add b2).2
 rw [h1 x] at b3
 grind
theorem sg_ne {q:Rat} (h:q ≠ 0):sg q ≠ 0:=fun h0=>h (sg_eq0.1 h0)
theorem still_div {I:Rat→Prop} (hI:Conv I) {f v w:Rat→Rat} (hv:Pf v) (hw:Pf w) (he:∀ x,f x = v x * w x) (hc:Cp v w) (hf:Still I f):Still I v:=by
 intro s t hs ht hst
 obtain ⟨f1,f2,-⟩:=hf s t hs ht hst
 have v1:v s ≠ 0:=fun h0=>f1 (by rw [he,h0]; grind)
 have v2:v t ≠ 0:=fun h0=>f2 (by rw [he,h0]; grind)
 refine ⟨v1,v2,?_⟩
 obtain ⟨d,hd,hb⟩:=hc.bound s t
 obtain ⟨K,hK,k1⟩:=hv.lip s t
 obtain ⟨L,hL,k2⟩:=hw.lip s t
 obtain ⟨e1,he1,k3⟩:=step_ex hK hd
 obtain ⟨e2,he2,k4⟩:=step_ex hL hd
 obtain ⟨e,he0,k5,k6⟩:=min_ex he1 he2
 refine grid_ind (A:=s) (B:=t) (P:=fun a b=>sg (v a) = sg (v b)) he0 (fun a b h1 h2 h3 h4=>?_) (fun a b c _ _ _ _ h1 h2=>h1.trans h2) s t Rat.le_refl hst Rat.le_refl
 rcases hb a h1 (by grind) with h5 | h5
 ·exact (h5.sign k1 h1 (by grind) h3 (k3 _ (by grind))).1.symm
 ·obtain ⟨h6,h7⟩:=h5.sign k2 h1 (by grind) h3 (k4 _ (by grind))
  have h8:=(hf a b (hI s a t hs ht h1 (by grind)) (hI s b t hs ht (by grind) h3) h2).2.2
  rw [he a,he b,sg_mul,sg_mul,h6] at h8
  exact Int.eq_of_mul_eq_mul_right h7 h8
theorem Still.mul {I:Rat→Prop} {f g h:Rat→Rat} (hf:Still I f) (hg:Still I g) (he:∀ x,h x = f x * g x):Still I h:=by
 intro s t hs ht hst
 obtain ⟨f1,f2,f3⟩:=hf s t hs ht hst
 obtain ⟨g1,g2,g3⟩:=hg s t hs ht hst
 refine ⟨?_,?_,by rw [he,he,sg_mul,sg_mul,f3,g3]⟩
 ·rw [he]; intro h0; rcases Rat.mul_eq_zero.1 h0 with h1 | h1
  ·exact f1 h1
  ·exact g1 h1
 ·rw [he]; intro h0; rcases Rat.mul_eq_zero.1 h0 with h1 | h1
  ·exact f2 h1
  ·exact g2 h1
theorem Still.smul {I:Rat→Prop} {f g:Rat→Rat} {c:Rat} (hf:Still I f) (hc:c ≠ 0) (he:∀ x,g x = c * f x):Still I g:=by
 refine Still.mul (f:=fun _=>c) (fun s t _ _ _=>⟨hc,hc,rfl⟩) hf he
theorem cp_fac {r r' v w:Rat→Rat} (hv:Pf v) (hw:Pf w) (he:∀ x,r x = v x * w x) (hd:IsD r r') (hc:Cp r r'):Cp v w∧∀ w',Pf w'→IsD w w'→Cp w w':=by
 obtain ⟨v',hv',d1⟩:=pf_isd hv
 obtain ⟨a,b,ha,hb,h1⟩:=hc
 have key:∀ w',Pf w'→IsD w w'→∀ x,v' x * w x + v x * w' x = r' x:=fun w' hw' d2 x=>(IsD.mul d1 d2 hv hw hv').uniq (by rw [show r = fun x=>v x * w x from funext he] at hd; exact hd) x
 constructor
 ·obtain ⟨w',hw',d2⟩:=pf_isd hw
  refine ⟨_,_,(ha.mul hw).add (hb.mul hw'),hb.mul hv',fun x=>?_⟩
  have k1:=h1 x
  rw [he x,← key w' hw' d2 x] at k1
  show (a x * w x + b x * w' x) * v x + b x * v' x * w x = 1
  grind
 ·intro w' hw' d2
  refine ⟨_,_,(ha.mul hv).add (hb.mul hv'),hb.mul hv,fun x=>?_⟩
  have k1:=h1 x
  rw [he x,← key w' hw' d2 x] at k1
  show (a x * v x + b x * v' x) * w x + b x * v x * w' x = 1
  grind
theorem dec {p gl:List Rat} (h0:tz p ≠ []) (hG:IsG (evV gl) (evV p) (evD p)) {r:Rat→Rat} (hr:Pf r) (h1:∀ x,evV p x = evV gl x * r x) :
  tz gl ≠ []∧(∃ r',Pf r'∧IsD r r'∧Cp r r')∧∃ r1 w,Pf r1∧Pf w∧(∀ x,evV gl x = evV (gcdV gl (derL gl)) x * r1 x)∧(∀ x,r x = r1 x * w x)∧Cp r1 w:=by
 have hp0:=ne_ex h0
 obtain ⟨q1,hq1,h2⟩:=hG.2.1
 have hg0:tz gl ≠ []:=fun h=>by
  obtain ⟨y,hy⟩:=hp0
  exact hy (by rw [h1,ev_tznil.1 h y]; grind)
 have hgx:=ne_ex hg0
 obtain ⟨r',hr',hd⟩:=pf_isd hr
 have hmain:=sqf_main (tz p).length p (Nat.le_refl _) h0 _ _ (Pf.ev gl) hr hG h1 r' hr' hd
 have hslope:∀ x,evD gl x * r x + evV gl x * r' x = evV gl x * q1 x:=fun x=>by
  have e:=(IsD.mul (IsD.ev gl) hd (Pf.ev gl) hr (Pf.der gl)).uniq (by
   have:=IsD.ev p
   rw [show evV p = fun x=>evV gl x * r x from funext h1] at this
   exact this) x
  rw [h2 x] at e
  exact e
 have hG2:=gcd_spec gl (derL gl)
 rw [show evV (derL gl) = evD gl from funext (ev_derL gl)] at hG2
 obtain ⟨r1,hr1,e1⟩:=hG2.1
 obtain ⟨s1,hs1,e2⟩:=hG2.2.1
 have hc2:=sq_cp (Pf.ev _) hr1 hs1 hG2 e1 e2 hgx
 have hp2x:∃ x,evV (gcdV gl (derL gl)) x ≠ 0:=by
  obtain ⟨y,hy⟩:=hgx
  exact ⟨y,fun h=>hy (by rw [e1,h]; grind)⟩
 have e3:∀ x,s1 x * r x = r1 x * (q1 x - r' x):=pf_cancel (f:=evV (gcdV gl (derL gl))) (g:=fun x=>s1 x * r x) (h:=fun x=>r1 x * (q1 x - r' x)) (Pf.ev _) (hs1.mul hr) (hr1.mul (hq1.sub hr')) (fun x=>by
  have h3:=hslope x
  rw [e2 x,e1 x] at h3
  grind) hp2x
 obtain ⟨w,hw,e4⟩:=hc2.dv hr ⟨_,hq1.sub hr',e3⟩
 exact ⟨hg0,⟨r',hr',hd,hmain⟩,r1,w,hr1,hw,e1,e4,(cp_fac hr1 hw e4 hd hmain).1⟩
theorem gl_lt {p gl:List Rat} (h0:tz p ≠ []) (hG:IsG (evV gl) (evV p) (evD p)) (hl:1 < (tz gl).length):(tz gl).length < (tz p).length:=by
 have hpg:=dv_len hG.1 h0
 obtain ⟨m,hm⟩:∃ m,(tz p).length = m + 2:=⟨(tz p).length - 2,by omega⟩
 have hdl:Dv (evV gl) (evV (derL p)):=by rw [show evV (derL p) = evD p from funext (ev_derL p)]; exact hG.2.1
 have hlen:=dv_len hdl (der_ne hm)
 have hder:=der_len p (m + 1) hm
 omega
theorem still_root {I:Rat→Prop} (hI:Conv I):∀ (n:Nat) (p:List Rat),(tz p).length≤n→tz p ≠ []→∀ (gl:List Rat) (r:Rat→Rat),Pf r→IsG (evV gl) (evV p) (evD p)→(∀ x,evV p x = evV gl x * r x)→Still I r→Still I (evV p):=by
 intro n
 induction n with
 | zero=>intro p h h0; exact absurd (List.length_eq_zero_iff.1 (by omega)) h0
 | succ n ih =>
  intro p hn h0 gl r hr hG h1 hs
  obtain ⟨hg0,-,r1,w,hr1,hw,e1,e4,hc⟩:=dec h0 hG hr h1
  refine Still.mul ?_ hs h1
  rcases Nat.lt_or_ge 1 (tz gl).length with hl | hl
  ·have hlt:=gl_lt h0 hG hl
   have hG2:=gcd_spec gl (derL gl)
   rw [show evV (derL gl) = evD gl from funext (ev_derL gl)] at hG2
   exact ih gl (by omega) hg0 _ r1 hr1 hG2 e1 (still_div hI hr1 hw e4 hc hs)
  ·have h2:=len_one hl
   obtain ⟨y,hy⟩:=ne_ex hg0
   have hy2:seq gl 0 ≠ 0:=fun h=>hy (by rw [h2,h])
   intro s t _ _ _
   rw [h2 s,h2 t]
   exact ⟨hy2,hy2,rfl⟩
theorem same_still {A B:Rat} {f:Rat→Rat} {l:List (Rat→Rat)} (h:Fit A B f l) (hV:V f l A = V f l B) {s t:Rat} (h1:A < s) (h2:s < t) (h3:t≤B):f s ≠ 0∧f t ≠ 0∧sg (f s) = sg (f t):=by
 have hs:=h.same hV
 have hmid:A < (A + s) / 2∧(A + s) / 2 < s:=by
  have:=div_cancel (a:=A + s) (b:=2) (by decide)
  exact ⟨by grind,by grind⟩
 generalize (A + s) / 2 = m at hmid
 obtain ⟨k1,k2⟩:=hs m s (by grind) hmid.2 (by grind)
 have hfs:f s ≠ 0:=fun h0=>by
  by_cases hm:f m = 0
  ·exact k2 hm h0
  ·have:=k1 hm
   rw [sg_eq0.2 h0] at this
   exact sg_ne hm this.symm
 have h4:=(hs s t (by grind) h2 h3).1 hfs
 exact ⟨hfs,fun h0=>by rw [sg_eq0.2 h0] at h4; exact sg_ne hfs h4.symm,h4.symm⟩
theorem fit_still {A B:Rat} {f:Rat→Rat} {l:List (Rat→Rat)} (hf:∀ A B,Fit A B f l) (hAB:A < B) (hV:V f l A = V f l B + (if f B = 0 then 1 else 0)):Still (fun x=>A < x∧x < B) f:=by
 intro s t hs ht hst
 by_cases h0:f B = 0
 ·rw [if_pos h0] at hV
  obtain ⟨e,he,hc⟩:=(hf A B).cell
  obtain ⟨b,hb1,hb2,hb3,hb4⟩:∃ b,t≤b∧b < B∧B - b≤e∧A < b:=by
   by_cases h:B - e≤t
   ·exact ⟨t,Rat.le_refl,ht.2,by grind,ht.1⟩
   ·exact ⟨B - e,by grind,by grind,by grind,by have:=ht.1; grind⟩
  obtain ⟨k1,k2⟩:=hc b B (by grind) hb2 Rat.le_refl hb3
  have hfb:f b ≠ 0:=fun h=>k2 h h0
  have hcr:cross f b B = 1:=by
   unfold cross
   rw [if_pos ⟨sg_ne hfb,by rw [sg_eq0.2 h0]; exact fun h=>sg_ne hfb h.symm⟩]
  exact same_still (hf A b) (by omega) hs.1 hst hb1
 ·rw [if_neg h0] at hV
  exact same_still (hf A B) hV hs.1 hst (by have:=ht.2; grind)
theorem fits {r:List Rat} (h:tz r ≠ []) (hc:Cp (evV r) (evD r)):∃ l,remsV r = splL r :: l∧∀ A B,Fit A B (evV (splL r)) (l.map evV):=by
 obtain ⟨l,e,-⟩:=rems_fit h hc 0 0
 refine ⟨l,e,fun A B=>?_⟩
 obtain ⟨l',e',h'⟩:=rems_fit h hc A B
 have:l = l':=by rw [e] at e'; exact (List.cons.inj e').2
 rw [this]; exact h'
theorem v_add {A B:Rat} {f f1 f2:Rat→Rat} {l l1 l2:List (Rat→Rat)} (hf:Fit A B f l) (h1:Fit A B f1 l1) (h2:Fit A B f2 l2) (p1:Pf f1) (p2:Pf f2) (hc:Cp f1 f2) {z:Int} (hz:z ≠ 0) (hs:∀ x,sg (f x) = z * (sg (f1 x) * sg (f2 x))) :
  ∀ s t,A≤s→s < t→t≤B→V f l s + V f1 l1 t + V f2 l2 t = V f l t + V f1 l1 s + V f2 l2 s:=by
 obtain ⟨d,hd,hb⟩:=hc.bound A B
 obtain ⟨K,hK,k1⟩:=p1.lip A B
 obtain ⟨L,hL,k2⟩:=p2.lip A B
 obtain ⟨e1,he1,k3⟩:=step_ex hK hd
 obtain ⟨e2,he2,k4⟩:=step_ex hL hd
 obtain ⟨e3,he3,k5⟩:=hf.cell
 obtain ⟨e4,he4,k6⟩:=h1.cell
 obtain ⟨e5,he5,k7⟩:=h2.cell
 obtain ⟨a,ha,a1,a2⟩:=min_ex he1 he2
 obtain ⟨b,hb0,b1,b2⟩:=min_ex he3 he4
 obtain ⟨c,hc0,c1,c2⟩:=min_ex ha hb0
 obtain ⟨e,he,g1,g2⟩:=min_ex hc0 he5
 refine grid_ind he (fun s t m1 m2 m3 m4=>?_) (fun s t u _ _ _ _ m1 m2=>by omega)
 have n1:=(k5 s t m1 m2 m3 (by grind)).1
 have n2:=(k6 s t m1 m2 m3 (by grind)).1
 have n3:=(k7 s t m1 m2 m3 (by grind)).1
 have key:cross f s t = cross f1 s t + cross f2 s t:=by
  rcases hb s m1 (by grind) with h5 | h5
  ·obtain ⟨h6,h7⟩:=h5.sign k1 m1 (by grind) m3 (k3 _ (by grind))
   have e1:cross f1 s t = 0:=by unfold cross; rw [if_neg (fun h=>h.2 h6)]
   rw [e1,Nat.zero_add]
   unfold cross
   have e2:(sg (f s) ≠ 0∧sg (f t) ≠ sg (f s))↔(sg (f2 s) ≠ 0∧sg (f2 t) ≠ sg (f2 s)):=by
    rw [hs s,hs t,h6]
    constructor
    ·rintro ⟨i1,i2⟩
     exact ⟨fun h=>i1 (by rw [h]; simp),fun h=>i2 (by rw [h])⟩
    ·rintro ⟨i1,i2⟩
     refine ⟨Int.mul_ne_zero hz (Int.mul_ne_zero h7 i1),fun h=>i2 ?_⟩
     exact Int.eq_of_mul_eq_mul_left h7 (Int.eq_of_mul_eq_mul_left hz h)
   by_cases h:sg (f2 s) ≠ 0∧sg (f2 t) ≠ sg (f2 s)
   ·rw [if_pos h,if_pos (e2.2 h)]
   ·rw [if_neg h,if_neg (fun k=>h (e2.1 k))]
  ·obtain ⟨h6,h7⟩:=h5.sign k2 m1 (by grind) m3 (k4 _ (by grind))
   have e1:cross f2 s t = 0:=by unfold cross; rw [if_neg (fun h=>h.2 h6)]
   rw [e1,Nat.add_zero]
   unfold cross
   have e2:(sg (f s) ≠ 0∧sg (f t) ≠ sg (f s))↔(sg (f1 s) ≠ 0∧sg (f1 t) ≠ sg (f1 s)):=by
    rw [hs s,hs t,h6]
    constructor
    ·rintro ⟨i1,i2⟩
     exact ⟨fun h=>i1 (by rw [h]; simp),fun h=>i2 (by rw [h])⟩
    ·rintro ⟨i1,i2⟩
     refine ⟨Int.mul_ne_zero hz (Int.mul_ne_zero i1 h7),fun h=>i2 ?_⟩
     exact Int.eq_of_mul_eq_mul_right h7 (Int.eq_of_mul_eq_mul_left hz h)
   by_cases h:sg (f1 s) ≠ 0∧sg (f1 t) ≠ sg (f1 s)
   ·rw [if_pos h,if_pos (e2.2 h)]
   ·rw [if_neg h,if_neg (fun k=>h (e2.1 k))]
 omega
end Go.Proofs.YtcbgamclcgcodaaGreat.Sg
/- What Nonnegative and Positive say of the values. Plain facts. -/
set_option linter.unusedVariables false
namespace Go.Proofs.YtcbgamclcgcodaaGreat.Sg
open Go.RowKit Go.Front Go.Num Go.Stab Go.Proofs.YtcbgamclcgcodaaGreat
theorem isg_uniq {g h a b:Rat→Rat} (hg:IsG g a b) (hh:IsG h a b) (pg:Pf g) (ph:Pf h) (h0:∃ x,a x ≠ 0):∃ c:Rat,c ≠ 0∧∀ x,g x = c * h x:=by
 have one:∀ {g h:Rat→Rat},IsG g a b→IsG h a b→Pf g→Pf h→Dv g h:=fun {g h} hg hh _ _=>by
  obtain ⟨-,-,u,v,hu,hv,e⟩:=hh
  obtain ⟨x1,hx1,e1⟩:=hg.1
  obtain ⟨x2,hx2,e2⟩:=hg.2.1
  exact ⟨_,(hu.mul hx1).add (hv.mul hx2),fun x=>by rw [e x,e1 x,e2 x]; grind⟩
 obtain ⟨c1,⟨cl,rfl⟩,k1⟩:=one hh hg ph pg
 obtain ⟨c2,p2,k2⟩:=one hg hh pg ph
 have hgx:∃ x,g x ≠ 0:=by
  obtain ⟨y,hy⟩:=h0
  obtain ⟨x1,hx1,e1⟩:=hg.1
  exact ⟨y,fun h=>hy (by rw [e1,h]; grind)⟩
 have k3:∀ x,evV cl x * c2 x = 1:=pf_cancel (f:=g) (g:=fun x=>evV cl x * c2 x) (h:=fun _=>1) pg ((Pf.ev cl).mul p2) (Pf.const 1) (fun x=>by
  have e1:=k1 x
  rw [k2 x] at e1
  grind) hgx
 have hd:Dv (evV cl) (evV [(1:Rat)]):=⟨c2,p2,fun x=>by rw [k3 x]; show 0 * x + 1 = 1; grind⟩
 have hl:=dv_len hd (fun h=>by have:=ev_tznil.1 h 0; exact absurd this (by show (0 * 0 + 1:Rat) ≠ 0; grind))
 have hl2:=tz_len_le [(1:Rat)]
 simp only [List.length_cons,List.length_nil] at hl2
 have h2:=len_one (p:=cl) (by omega)
 refine ⟨seq cl 0,fun h=>?_,fun x=>by rw [k1 x,h2 x]; grind⟩
 have:=k3 0
 rw [h2 0,h] at this
 grind
theorem sg_c {c x:Rat} (h:0 < c):sg (c * x) = sg x:=by rw [sg_mul,sg_pos h]; omega
theorem spl_sg {p:List Rat} (h:tz p ≠ []) (x:Rat):sg (evV (splL p) x) = sg (evV p x):=by rw [ev_spl1 p x,sg_c (spl_pos h)]
theorem pf_ne {p:List Rat} {g r:Rat→Rat} (h:tz p ≠ []) (h1:∀ x,evV p x = g x * r x):(∃ x,g x ≠ 0)∧∃ x,r x ≠ 0:=by
 obtain ⟨y,hy⟩:=ne_ex h
 exact ⟨⟨y,fun h=>hy (by rw [h1,h]; grind)⟩,⟨y,fun h=>hy (by rw [h1,h]; grind)⟩⟩
theorem root_quo {q:List Rat} (h:tz q ≠ []) {r:Rat→Rat} (hr:Pf r) (h1:∀ x,evV q x = evV (gcdV q (derL q)) x * r x):∃ c:Rat,c ≠ 0∧∀ x,evV (rootV q) x = c * r x:=by
 obtain ⟨hne,hcp,g,q1,hg,hq1,hG,k1,k2⟩:=root_rt h
 obtain ⟨c,hc,k3⟩:=isg_uniq (dv_der (gcd_spec q (derL q))) hG (Pf.ev _) hg (ne_ex h)
 refine ⟨c,hc,pf_cancel (f:=g) (g:=evV (rootV q)) (h:=fun x=>c * r x) hg (Pf.ev _) (hr.smul c) (fun x=>?_) (pf_ne h k1).1⟩
 rw [← k1 x,h1 x,k3 x]
 grind
theorem btw_zero {q:List Rat} (h:tz q ≠ []) {lo hi:Rat} (hlh:lo < hi) {l:List (List Rat)} (e:remsV (rootV q) = splL (rootV q) :: l) :
  btwV q lo hi = (V (evV (splL (rootV q))) (l.map evV) lo:Int) - V (evV (splL (rootV q))) (l.map evV) hi - (if evV (splL (rootV q)) hi = 0 then 1 else 0):=by
 unfold btwV
 rw [varV_V e,varV_V e]
 have hr:=root_rt h
 have k:(rtV (remsV (rootV q)) hi = true∧lo < hi)↔evV (splL (rootV q)) hi = 0:=by
  rw [rtV_iff h hi,spl_root hr.ne hi,hr.root h hi]
  exact ⟨fun a=>a.1,fun a=>⟨a,hlh⟩⟩
 by_cases h2:evV (splL (rootV q)) hi = 0
 ·rw [if_pos h2,if_pos (k.2 h2)]
 ·rw [if_neg h2,if_neg (fun a=>h2 (k.1 a))]
theorem conv_oo (lo hi:Rat):Conv (fun x=>lo < x∧x < hi):=fun s t u h1 h2 h3 h4=>⟨by have:=h1.1; grind,by have:=h2.2; grind⟩
theorem conv_cc (lo hi:Rat):Conv (fun x=>lo≤x∧x≤hi):=fun s t u h1 h2 h3 h4=>⟨by have:=h1.1; grind,by have:=h2.2; grind⟩
theorem still_spl {I:Rat→Prop} {r:List Rat} (h:tz r ≠ []) (hs:Still I (evV (splL r))):Still I (evV r):=hs.smul (c:=splM r) (fun h0=>by have:=spl_pos h; rw [h0] at this; exact absurd this Rat.lt_irrefl) (ev_spl1 r)
theorem still_rt {I:Rat→Prop} (hI:Conv I) {q r:List Rat} (h:tz q ≠ []) (hr:Rt q r) (hs:Still I (evV r)):Still I (evV q):=by
 obtain ⟨hne,hcp,g,q1,⟨gl,rfl⟩,hq1,hG,k1,k2⟩:=hr
 exact still_root hI _ q (Nat.le_refl _) h gl _ (Pf.ev r) hG k1 hs
set_option maxHeartbeats 1000000 in
theorem chg_quiet {lo hi:Rat} (hlh:lo < hi):∀ (n:Nat) (q:List Rat),(tz q).length < n→tz q ≠ []→chgV n q lo hi = false→∀ s t,lo < s→s < hi→lo < t→t < hi→s < t→evV q s ≠ 0→evV q t ≠ 0→sg (evV q s) = sg (evV q t):=by
 intro n
 induction n with
 | zero=>intro q h; omega
 | succ n ih =>
  intro q hn h0 hc s t s1 s2 t1 t2 hst hs0 ht0
  have hr:=root_rt h0
  obtain ⟨l,e,hfit⟩:=fits hr.ne hr.cp
  have hb:=btw_zero h0 hlh e
  have hce:chgV (n + 1) q lo hi = if btwV q lo hi = 0 then false else if btwV (gcdV q (derL q)) lo hi ≠ btwV q lo hi then true else chgV n (gcdV (gcdV q (derL q)) (derL (gcdV q (derL q)))) lo hi:=rfl
  rw [hce] at hc
  by_cases hz:btwV q lo hi = 0
  ·have hst':=fit_still hfit hlh (by
    by_cases hh:evV (splL (rootV q)) hi = 0
    ·rw [if_pos hh] at hb ⊢; omega
    ·rw [if_neg hh] at hb ⊢; omega)
   exact (still_rt (conv_oo lo hi) h0 hr (still_spl hr.ne hst') s t ⟨s1,s2⟩ ⟨t1,t2⟩ hst).2.2
  ·rw [if_neg hz] at hc
   by_cases hz2:btwV (gcdV q (derL q)) lo hi = btwV q lo hi
   ·rw [if_neg (fun h=>h hz2)] at hc
    have hG:=dv_der (gcd_spec q (derL q))
    have hg0:=gcd_ne h0
    have hq:=quo_exact hg0 (gcd_dv q)
    obtain ⟨-,⟨r',hr',hd,hcp⟩,r1,w,hr1,⟨wl,rfl⟩,e1,e4,hcw⟩:=dec h0 hG (Pf.ev _) hq
    obtain ⟨c0,hc0,f0⟩:=root_quo h0 (Pf.ev _) hq
    obtain ⟨c1,hc1,f1⟩:=root_quo hg0 hr1 e1
    have hw0:tz wl ≠ []:=fun h=>by
     obtain ⟨y,hy⟩:=(pf_ne h0 hq).2
     exact hy (by rw [e4,ev_tznil.1 h y]; grind)
    have hww:=(cp_fac hr1 (Pf.ev wl) e4 hd hcp).2 _ (Pf.der wl) (IsD.ev wl)
    obtain ⟨lw,ew,hfw⟩:=fits hw0 hww
    have hR1:=root_rt hg0
    obtain ⟨l1,el1,hf1⟩:=fits hR1.ne hR1.cp
    have hb1:=btw_zero hg0 hlh el1
    have hcc:c0 ≠ 0∧c1 ≠ 0:=⟨hc0,hc1⟩
    have hci:=Rat.mul_inv_cancel _ hc1
    have hk:c0 * c1⁻¹ ≠ 0:=fun h=>by
     rcases Rat.mul_eq_zero.1 h with h | h
     ·exact hc0 h
     ·rw [h,Rat.mul_zero] at hci; exact absurd hci (by decide)
    have hrel:∀ x,evV (rootV q) x = c0 * c1⁻¹ * (evV (rootV (gcdV q (derL q))) x * evV wl x):=fun x=>by
     rw [f0 x,f1 x,e4 x]
     have:c0 * c1⁻¹ * (c1 * r1 x * evV wl x) = c0 * (c1 * c1⁻¹) * (r1 x * evV wl x):=by grind
     rw [this,hci]; grind
    have hcp1:Cp (evV (rootV (gcdV q (derL q)))) (evV wl):=by
     obtain ⟨u,v,hu,hv,k⟩:=hcw
     refine ⟨_,v,hu.smul c1⁻¹,hv,fun x=>?_⟩
     rw [f1 x]
     have:c1⁻¹ * u x * (c1 * r1 x) = (c1 * c1⁻¹) * (u x * r1 x):=by grind
     show c1⁻¹ * u x * (c1 * r1 x) + v x * evV wl x = 1
     rw [this,hci,Rat.one_mul,k x]
    have hcp2:Cp (evV (splL (rootV (gcdV q (derL q))))) (evV (splL wl)):=by
     obtain ⟨u,v,hu,hv,k⟩:=hcp1
     refine ⟨_,_,hu.smul (splM (rootV (gcdV q (derL q)))),hv.smul (splM wl),fun x=>?_⟩
     have:=k x
     rw [ev_spl1 (rootV (gcdV q (derL q))) x,ev_spl1 wl x] at this
     show splM (rootV (gcdV q (derL q))) * u x * _ + splM wl * v x * _ = 1
     grind
    have hva:=v_add (hfit lo hi) (hf1 lo hi) (hfw lo hi) (Pf.ev _) (Pf.ev _) hcp2 (z:=sg (c0 * c1⁻¹)) (sg_ne hk) (fun x=>by
     rw [spl_sg hr.ne,spl_sg hR1.ne,spl_sg hw0,hrel x]
     exact (sg_mul _ _).trans (congrArg _ (sg_mul _ _))) lo hi Rat.le_refl hlh Rat.le_refl
    have hroot:(if evV (splL (rootV q)) hi = 0 then (1:Int) else 0) = (if evV (splL (rootV (gcdV q (derL q)))) hi = 0 then 1 else 0) + (if evV (splL wl) hi = 0 then 1 else 0):=by
     have a1:=spl_root hr.ne hi
     have a2:=spl_root hR1.ne hi
     have a3:=spl_root hw0 hi
     obtain ⟨u,v,hu,hv,k⟩:=hcp1
     have k4:=k hi
     have k5:=hrel hi
     by_cases b2:evV (rootV (gcdV q (derL q))) hi = 0
     ·have b3:evV wl hi ≠ 0:=fun h=>by rw [b2,h] at k4; grind
      rw [if_pos (a1.2 (by rw [k5,b2]; grind)),if_pos (a2.2 b2),if_neg (fun h=>b3 (a3.1 h))]; rfl
     ·by_cases b3:evV wl hi = 0
      ·rw [if_pos (a1.2 (by rw [k5,b3]; grind)),if_neg (fun h=>b2 (a2.1 h)),if_pos (a3.2 b3)]; rfl
      ·rw [if_neg (fun h=>by
        have h':=a1.1 h
        rw [k5] at h'
        rcases Rat.mul_eq_zero.1 h' with h2 | h2
        ·exact hk h2
        ·rcases Rat.mul_eq_zero.1 h2 with h3 | h3
         ·exact b2 h3
         ·exact b3 h3),if_neg (fun h=>b2 (a2.1 h)),if_neg (fun h=>b3 (a3.1 h))]; rfl
    have hwst:Still (fun x=>lo < x∧x < hi) (evV (splL wl)):=fit_still hfw hlh (by
     rw [hb,hb1,hroot] at hz2
     generalize (if evV (splL (rootV (gcdV q (derL q)))) hi = 0 then (1:Int) else 0) = i1 at hz2
     by_cases hh:evV (splL wl) hi = 0
     ·rw [if_pos hh] at hz2 ⊢; omega
     ·rw [if_neg hh] at hz2 ⊢; omega)
    have hwl:=still_spl hw0 hwst
    have hlen1:=btw_len h0 hz
    have hq2:=ih _ (by
     have g1:=gcd_lt hlen1
     have g2:=gcd_len hg0
     have g3:=gcdV_tz (gcdV q (derL q)) (derL (gcdV q (derL q)))
     have g4:=gcdV_tz q (derL q)
     have hqt:=dv_len (gcd_dv q) h0
     have hl:1 < (tz (gcdV q (derL q))).length ∨ (tz (gcdV q (derL q))).length≤1:=by omega
     rw [g3]
     rcases hl with hl | hl
     ·have:=gl_lt h0 hG hl
      rw [g4] at this
      omega
     ·rw [g4] at hl
      omega) (gcd_ne hg0) hc s t s1 s2 t1 t2 hst
    have hfac:∀ x,evV q x = evV (gcdV (gcdV q (derL q)) (derL (gcdV q (derL q)))) x * (r1 x * r1 x) * evV wl x:=fun x=>by
     rw [hq x,e1 x,e4 x]; grind
    have hne:∀ x,evV q x ≠ 0→evV (gcdV (gcdV q (derL q)) (derL (gcdV q (derL q)))) x ≠ 0∧r1 x ≠ 0:=fun x hx=>⟨fun h=>hx (by rw [hfac,h]; grind),fun h=>hx (by rw [hfac,h]; grind)⟩
    have hsq:∀ x,r1 x ≠ 0→sg (r1 x * r1 x) = 1:=fun x hx=>by
     refine sg_pos ?_
     rcases tri (r1 x) 0 with h | h | h
     ·have:=Rat.mul_pos (a:=-(r1 x)) (b:=-(r1 x)) (by grind) (by grind); grind
     ·exact absurd h hx
     ·exact Rat.mul_pos h h
    obtain ⟨m1,m2⟩:=hne s hs0
    obtain ⟨m3,m4⟩:=hne t ht0
    have key:∀ x,r1 x ≠ 0→sg (evV q x) = sg (evV (gcdV (gcdV q (derL q)) (derL (gcdV q (derL q)))) x) * sg (evV wl x):=fun x hx=>by
     rw [hfac x,sg_mul _ (evV wl x),sg_mul _ (r1 x * r1 x),hsq x hx,Int.mul_one]
    rw [key s m2,key t m4,hq2 m1 m3,(hwl s t ⟨s1,s2⟩ ⟨t1,t2⟩ hst).2.2]
   ·rw [if_pos hz2] at hc
    exact absurd hc (by decide)
theorem pow_len {a:Rat}:∀ (k:Nat) (p:List Rat) (g:Rat→Rat),Pf g→tz p ≠ []→(∀ x,evV p x = (x - a) ^ k * g x)→k < (tz p).length:=by
 intro k
 induction k with
 | zero=>intro p g _ h _; exact List.length_pos_iff.2 h
 | succ k ih =>
  intro p g hg h he
  obtain ⟨q,hq⟩:=((Pf.lin a).pow k).mul hg
  have hq2:∀ x,evV q x = (x - a) ^ k * g x:=fun x=>by rw [← hq]
  have h1:∀ x,evV p x = (x - a) * evV q x:=fun x=>by rw [he x,hq2 x,Rat.pow_succ]; grind
  have hq0:tz q ≠ []:=fun h2=>by
   obtain ⟨y,hy⟩:=ne_ex h
   exact hy (by rw [h1,ev_tznil.1 h2 y]; grind)
  have:=ih q g hg hq0 hq2
  have:=lin_len h1 hq0
  omega
theorem ev_tzz (l:List Rat) (x:Rat):evV (tz l) x = evV l x:=(ev_seq (c:=1) (fun i=>by rw [seq_tz,Rat.one_mul]) x).trans (Rat.one_mul _)
theorem saf_fac {a:Rat}:∀ (k n:Nat) (q:List Rat) (g:Rat→Rat),k < n→Pf g→g a ≠ 0→(∀ x,evV q x = (x - a) ^ k * g x)→safV n q a = sg (g a):=by
 intro k
 induction k with
 | zero =>
  intro n q g hk hg hga he
  obtain ⟨m,rfl⟩:∃ m,n = m + 1:=⟨n - 1,by omega⟩
  have h1:evV q a = g a:=by rw [he a,Rat.pow_zero]; grind
  have hq:q ≠ []:=fun h=>hga (by rw [← h1,h]; rfl)
  show (if q = [] then 0 else if sg (evV q a) ≠ 0 then sg (evV q a) else safV m (tz (derL q)) a) = _
  rw [if_neg hq,h1,if_pos (sg_ne hga)]
 | succ k ih =>
  intro n q g hk hg hga he
  obtain ⟨m,rfl⟩:∃ m,n = m + 1:=⟨n - 1,by omega⟩
  have h1:evV q a = 0:=by rw [he a,Rat.pow_succ]; grind
  have hq:q ≠ []:=fun h=>by
   have h2:∀ x,(x - a) ^ (k + 1) * g x = 0:=fun x=>by rw [← he x,h]; rfl
   have h3:=pf_dom ((Pf.lin a).pow (k + 1)) hg h2 ⟨a + 1,by
    show (a + 1 - a) ^ (k + 1) ≠ 0
    have e:a + 1 - a = 1:=by grind
    rw [e]
    have:∀ k:Nat,(1:Rat) ^ k = 1:=fun k=>by
     induction k with
     | zero=>exact Rat.pow_zero _
     | succ k ih=>rw [Rat.pow_succ,ih,Rat.mul_one]
    rw [this]; decide⟩
   exact hga (h3 a)
  show (if q = [] then 0 else if sg (evV q a) ≠ 0 then sg (evV q a) else safV m (tz (derL q)) a) = _
  rw [if_neg hq,h1,if_neg (fun h=>h sg_zero)]
  obtain ⟨g',hg',hd⟩:=pf_isd hg
  have h4:=(IsD.mul (IsD.pow a k) hd ((Pf.lin a).pow (k + 1)) hg (((Pf.lin a).pow k).smul _)).uniq (by
   have e:=IsD.ev q
   rw [show evV q = fun x=>(x - a) ^ (k + 1) * g x from funext he] at e
   exact e)
  have hpos:(0:Rat) < ((k + 1:Nat):Rat):=Rat.natCast_pos.2 (Nat.succ_pos k)
  have h5:=ih m (tz (derL q)) (fun x=>((k + 1:Nat):Rat) * g x + (x - a) * g' x) (by omega) ((hg.smul _).add ((Pf.lin a).mul hg')) (fun h=>by
   have h6:((k + 1:Nat):Rat) * g a + (a - a) * g' a = 0:=h
   have h7:((k + 1:Nat):Rat) * g a = 0:=by grind
   rcases Rat.mul_eq_zero.1 h7 with h8 | h8
   ·rw [h8] at hpos; exact absurd hpos Rat.lt_irrefl
   ·exact hga h8) (fun x=>by
   rw [ev_tzz,ev_derL,← h4 x,Rat.pow_succ]
   grind)
  rw [h5]
  show sg (((k + 1:Nat):Rat) * g a + (a - a) * g' a) = sg (g a)
  rw [show ((k + 1:Nat):Rat) * g a + (a - a) * g' a = ((k + 1:Nat):Rat) * g a by grind,sg_c hpos]
theorem near {g:Rat→Rat} (hg:Pf g) {a:Rat} (h:0 < g a):∃ e,0 < e∧∀ s,a≤s→s < a + e→0 < g s:=by
 obtain ⟨K,hK,k1⟩:=hg.lip a (a + 1)
 obtain ⟨e,he,k2⟩:=step_ex hK h
 obtain ⟨c,hc,c1,c2⟩:=min_ex he (show (0:Rat) < 1 by decide)
 refine ⟨c,hc,fun s h1 h2=>?_⟩
 have h3:=(Big.sign (r:=g a) k1 (Or.inl Rat.le_refl) Rat.le_refl h1 (by grind) (k2 _ (by grind))).1
 rw [sg_pos h] at h3
 rcases sg_cases (g s) with ⟨h4,h5⟩ | ⟨h4,h5⟩ | ⟨h4,h5⟩
 ·rw [h5] at h3; exact absurd h3 (by decide)
 ·rw [h5] at h3; exact absurd h3 (by decide)
 ·exact h4
theorem saf_pos {q:List Rat} (h0:tz q ≠ []) {a:Rat} {n:Nat} (hn:(tz q).length≤n) (h:0 < safV n q a) {b:Rat} (hb:a < b):∃ s,a < s∧s < b∧0 < evV q s:=by
 obtain ⟨k,g,hg,hga,he⟩:=mult a _ q (Nat.le_refl _) h0
 have hk:=pow_len k q g hg h0 he
 rw [saf_fac k n q g (by omega) hg hga he] at h
 have hgp:0 < g a:=by
  rcases sg_cases (g a) with ⟨h4,h5⟩ | ⟨h4,h5⟩ | ⟨h4,h5⟩
  ·rw [h5] at h; exact absurd h (by decide)
  ·rw [h5] at h; exact absurd h (by decide)
  ·exact h4
 obtain ⟨e,he0,h1⟩:=near hg hgp
 obtain ⟨c,hc,c1,c2⟩:=min_ex he0 (show 0 < b - a by grind)
 have hmid:0 < c / 2∧c / 2 < c:=by
  have:=div_cancel (a:=c) (b:=2) (by decide)
  exact ⟨by grind,by grind⟩
 refine ⟨a + c / 2,by grind,by grind,?_⟩
 rw [he]
 have h2:=h1 (a + c / 2) (by grind) (by grind)
 have h3:∀ k:Nat,0 < (a + c / 2 - a) ^ k:=fun k=>Rat.pow_pos (by grind)
 exact Rat.mul_pos (h3 k) h2
theorem sg_nn {q:Rat} (h:¬ sg q < 0):0≤q:=by
 rcases sg_cases q with ⟨h4,h5⟩ | ⟨h4,h5⟩ | ⟨h4,h5⟩
 ·rw [h5] at h; exact absurd (by decide) h
 ·grind
 ·grind
theorem sg_pp {q:Rat} (h:¬ sg q≤0):0 < q:=by
 rcases sg_cases q with ⟨h4,h5⟩ | ⟨h4,h5⟩ | ⟨h4,h5⟩
 ·rw [h5] at h; exact absurd (by decide) h
 ·rw [h5] at h; exact absurd (by decide) h
 ·exact h4
theorem nng_true {p:List Rat} {lo hi:Rat} (htz:tz p = p) (hlh:lo≤hi) (h:nngV p lo hi = true) {x:Rat} (h1:lo≤x) (h2:x≤hi):0≤evV p x:=by
 unfold nngV at h
 by_cases h0:tz p = []
 ·rw [← htz,h0]; exact Rat.le_refl
 ·rw [if_neg h0] at h
  by_cases h3:sg (evV (splL p) lo) < 0 ∨ sg (evV (splL p) hi) < 0
  ·rw [if_pos h3] at h; exact absurd h (by decide)
  ·rw [if_neg h3] at h
   have hl:0≤evV p lo:=sg_nn (by rw [← spl_sg h0]; exact fun k=>h3 (Or.inl k))
   have hh:0≤evV p hi:=sg_nn (by rw [← spl_sg h0]; exact fun k=>h3 (Or.inr k))
   by_cases h4:lo = hi
   ·have:x = lo:=by grind
    rw [this]; exact hl
   ·rw [if_neg h4,Bool.and_eq_true,decide_eq_true_iff] at h
    obtain ⟨k1,k2⟩:=h
    have k3:chgV ((tz p).length + 1) (splL p) lo hi = false:=by
     cases e:chgV ((tz p).length + 1) (splL p) lo hi with
     | false=>rfl
     | true=>rw [e] at k2; exact absurd k2 (by decide)
    by_cases e1:x = lo
    ·rw [e1]; exact hl
    ·by_cases e2:x = hi
     ·rw [e2]; exact hh
     ·apply Classical.byContradiction
      intro hneg
      have hq0:tz (splL p) ≠ []:=by rw [spl_tz]; exact fun k=>h0 (spl_ne.1 k)
      obtain ⟨s,s1,s2,s3⟩:=saf_pos hq0 (n:=(tz p).length + 1) (by rw [spl_tz,spl_len]; omega) k1 (b:=x) (by grind)
      have hx:evV (splL p) x ≠ 0:=fun k=>hneg (by rw [ev_spl1 p x,k]; grind)
      have k5:=chg_quiet (lo:=lo) (hi:=hi) (by grind) _ (splL p) (by rw [spl_tz,spl_len]; omega) hq0 k3 s x s1 (by grind) (by grind) (by grind) s2 (by grind) hx
      rw [sg_pos s3,spl_sg h0] at k5
      exact hneg (sg_nn (by rw [← k5]; decide))
theorem spl_idem {p:List Rat} (h:tz p ≠ []):splL (splL p) = splL p:=(spl_scale (p:=p) (q:=splL p) (spl_pos h) (fun n=>by rw [spl_seq p n]; grind)).symm
theorem spl_der {p:List Rat} (h:tz p ≠ []):splL (derL (splL p)) = splL (derL p):=(spl_scale (p:=derL p) (q:=derL (splL p)) (spl_pos h) (fun n=>by rw [seq_derL,seq_derL,spl_seq p]; grind)).symm
theorem rems_spl {p:List Rat} (htz:tz p = p) (h:tz p ≠ []):remsV (splL p) = remsV p:=by
 unfold remsV
 rw [spl_idem h,spl_der h,spl_len,htz]
theorem gcd_spl {p:List Rat} (h:tz p ≠ []):gcdV (splL p) (derL (splL p)) = gcdV p (derL p):=by
 have hm:=spl_pos h
 have e2:Pr (derL (splL p)) (derL p):=Pr.symm ⟨splM p,fun k=>by rw [k] at hm; exact absurd hm Rat.lt_irrefl,fun n=>by rw [seq_derL,seq_derL,spl_seq p]; grind⟩
 unfold gcdV
 rw [(spl_pr p).mon,e2.mon,e2.len]
theorem sqf_spl {p:List Rat} (h:tz p ≠ []):sqfV (splL p) = sqfV p:=by
 have hq0:tz (splL p) ≠ []:=by rw [spl_tz]; exact fun k=>h (spl_ne.1 k)
 have hm:=spl_pos h
 have e1:=quo_exact (gcd_ne h) (gcd_dv p)
 have e2:=quo_exact (gcd_ne hq0) (gcd_dv (splL p))
 rw [gcd_spl h] at e2
 unfold sqfV
 rw [gcd_spl h]
 refine Pr.mon (Pr.symm ⟨splM p,fun k=>by rw [k] at hm; exact absurd hm Rat.lt_irrefl,fun n=>?_⟩)
 have h2:=pf_cancel (f:=evV (gcdV p (derL p))) (g:=evV (quoV p (gcdV p (derL p)))) (h:=fun x=>splM p * evV (quoV (splL p) (gcdV p (derL p))) x) (Pf.ev _) (Pf.ev _) ((Pf.ev _).smul _) (fun x=>by
  rw [← e1 x,ev_spl1 p x,e2 x]; grind) (ne_ex (gcd_ne h))
 have h3:=ev_inj (p:=quoV p (gcdV p (derL p))) (q:=(quoV (splL p) (gcdV p (derL p))).map (· * splM p)) (fun x=>by rw [ev_map,h2 x]) n
 rw [h3,seq_map]; grind
theorem root_spl {p:List Rat} (htz:tz p = p) (h:tz p ≠ []):remsV (rootV (splL p)) = remsV (rootV p):=by
 unfold rootV
 rw [rems_spl htz h]
 split
 ·rw [sqf_spl h]
 ·exact rems_spl htz h
theorem pos_true {p:List Rat} {lo hi:Rat} (htz:tz p = p) (hlh:lo≤hi) (h:posV p lo hi = true):nngV p lo hi = true∧∀ x,lo≤x→x≤hi→0 < evV p x:=by
 unfold posV at h
 by_cases h0:tz p = []
 ·rw [if_pos h0] at h; exact absurd h (by decide)
 ·rw [if_neg h0] at h
  by_cases h1:sg (evV (splL p) lo)≤0
  ·rw [if_pos h1] at h; exact absurd h (by decide)
  ·rw [if_neg h1,decide_eq_true_iff] at h
   have hlo:0 < evV p lo:=sg_pp (by rw [← spl_sg h0]; exact h1)
   have hr:=root_rt h0
   obtain ⟨l,e,hfit⟩:=fits hr.ne hr.cp
   have hrt:rtV (remsV (rootV p)) lo = false:=by
    cases k:rtV (remsV (rootV p)) lo with
    | false=>rfl
    | true=>have:=(rtV_iff h0 lo).1 k; rw [this] at hlo; exact absurd hlo Rat.lt_irrefl
   have hcv:(varV (remsV (rootV p)) lo:Int) - varV (remsV (rootV p)) hi = 0:=by
    unfold cntV at h
    rw [hrt,if_neg (by decide)] at h
    omega
   have hval:∀ x,lo≤x→x≤hi→0 < evV p x:=fun x hx1 hx2=>by
    by_cases e1:x = lo
    ·rw [e1]; exact hlo
    ·have hVV:V (evV (splL (rootV p))) (l.map evV) lo = V (evV (splL (rootV p))) (l.map evV) hi:=by rw [← varV_V e,← varV_V e]; omega
     have hsame:=(hfit lo hi).same hVV
     have hf0:evV (splL (rootV p)) lo ≠ 0:=fun k=>by
      have:=(hr.root h0 lo).1 ((spl_root hr.ne lo).1 k)
      rw [this] at hlo; exact absurd hlo Rat.lt_irrefl
     have hall:∀ t,lo≤t→t≤hi→sg (evV (splL (rootV p)) t) = sg (evV (splL (rootV p)) lo):=fun t t1 t2=>by
      rcases Rat.le_iff_lt_or_eq.1 t1 with k | k
      ·exact (hsame lo t Rat.le_refl k t2).1 hf0
      ·rw [← k]
     have hst:Still (fun x=>lo≤x∧x≤hi) (evV (splL (rootV p))):=fun s t hs ht _=>by
      have a1:=hall s hs.1 hs.2
      have a2:=hall t ht.1 ht.2
      exact ⟨fun k=>sg_ne hf0 (by rw [← a1]; exact sg_eq0.2 k),fun k=>sg_ne hf0 (by rw [← a2]; exact sg_eq0.2 k),by rw [a1,a2]⟩
     have hp:=(still_rt (conv_cc lo hi) h0 hr (still_spl hr.ne hst) lo x ⟨Rat.le_refl,hlh⟩ ⟨hx1,hx2⟩ (by grind)).2.2
     rw [sg_pos hlo] at hp
     exact sg_pp (by rw [← hp]; decide)
   refine ⟨?_,hval⟩
   have hhi:=hval hi hlh Rat.le_refl
   unfold nngV
   rw [if_neg h0,if_neg (by rw [spl_sg h0,spl_sg h0,sg_pos hlo,sg_pos hhi]; decide)]
   by_cases h4:lo = hi
   ·rw [if_pos h4]
   ·rw [if_neg h4]
    have hq:splL p ≠ []:=fun k=>h0 (spl_ne.1 k)
    have k1:safV ((tz p).length + 1) (splL p) lo = 1:=by
     show (if splL p = [] then 0 else if sg (evV (splL p) lo) ≠ 0 then sg (evV (splL p) lo) else _) = _
     rw [if_neg hq,spl_sg h0,sg_pos hlo,if_pos (by decide)]
    have k2:btwV (splL p) lo hi = 0:=by
     unfold btwV
     rw [root_spl htz h0,if_neg (fun k=>by
      have:=(rtV_iff h0 hi).1 k.1
      rw [this] at hhi; exact absurd hhi Rat.lt_irrefl)]
     omega
    have k3:chgV ((tz p).length + 1) (splL p) lo hi = false:=by
     show (if btwV (splL p) lo hi = 0 then false else _) = false
     rw [if_pos k2]
    rw [k1,k3]; rfl
end Go.Proofs.YtcbgamclcgcodaaGreat.Sg
/- Squares are said to be nowhere negative, and with a positive number added, positive. Plain facts. -/
set_option linter.unusedVariables false
namespace Go.Proofs.YtcbgamclcgcodaaGreat.Sg
open Go.RowKit Go.Front Go.Num Go.Stab Go.Proofs.YtcbgamclcgcodaaGreat
theorem v_same {A B:Rat} {f f1:Rat→Rat} {l l1:List (Rat→Rat)} (hf:Fit A B f l) (h1:Fit A B f1 l1) {z:Int} (hz:z ≠ 0) (hs:∀ x,sg (f x) = z * sg (f1 x)) :
  ∀ s t,A≤s→s < t→t≤B→V f l s + V f1 l1 t = V f l t + V f1 l1 s:=by
 obtain ⟨e3,he3,k5⟩:=hf.cell
 obtain ⟨e4,he4,k6⟩:=h1.cell
 obtain ⟨e,he,g1,g2⟩:=min_ex he3 he4
 refine grid_ind he (fun s t m1 m2 m3 m4=>?_) (fun s t u _ _ _ _ m1 m2=>by omega)
 have n1:=(k5 s t m1 m2 m3 (by grind)).1
 have n2:=(k6 s t m1 m2 m3 (by grind)).1
 have key:cross f s t = cross f1 s t:=by
  unfold cross
  have e2:(sg (f s) ≠ 0∧sg (f t) ≠ sg (f s))↔(sg (f1 s) ≠ 0∧sg (f1 t) ≠ sg (f1 s)):=by
   rw [hs s,hs t]
   constructor
   ·rintro ⟨i1,i2⟩
    exact ⟨fun h=>i1 (by rw [h]; simp),fun h=>i2 (by rw [h])⟩
   ·rintro ⟨i1,i2⟩
    exact ⟨Int.mul_ne_zero hz i1,fun h=>i2 (Int.eq_of_mul_eq_mul_left hz h)⟩
  by_cases h:sg (f1 s) ≠ 0∧sg (f1 t) ≠ sg (f1 s)
  ·rw [if_pos h,if_pos (e2.2 h)]
  ·rw [if_neg h,if_neg (fun k=>h (e2.1 k))]
 omega
theorem btw_same {p q:List Rat} (hp:tz p ≠ []) (hq:tz q ≠ []) {c:Rat} (hc:c ≠ 0) (h:∀ x,evV (rootV p) x = c * evV (rootV q) x) {lo hi:Rat} (hlh:lo < hi):btwV p lo hi = btwV q lo hi:=by
 have hr:=root_rt hp
 have hr1:=root_rt hq
 obtain ⟨l,e,hfit⟩:=fits hr.ne hr.cp
 obtain ⟨l1,e1,hfit1⟩:=fits hr1.ne hr1.cp
 have h1:=v_same (hfit lo hi) (hfit1 lo hi) (sg_ne hc) (fun x=>by rw [spl_sg hr.ne,spl_sg hr1.ne,h x,sg_mul]) lo hi Rat.le_refl hlh Rat.le_refl
 have h2:evV (splL (rootV p)) hi = 0↔evV (splL (rootV q)) hi = 0:=by
  rw [spl_root hr.ne,spl_root hr1.ne,h hi]
  constructor
  ·intro k
   rcases Rat.mul_eq_zero.1 k with k | k
   ·exact absurd k hc
   ·exact k
  ·intro k; rw [k]; grind
 rw [btw_zero hp hlh e,btw_zero hq hlh e1]
 by_cases h3:evV (splL (rootV q)) hi = 0
 ·rw [if_pos h3,if_pos (h2.2 h3)]; omega
 ·rw [if_neg h3,if_neg (fun k=>h3 (h2.1 k))]; omega
theorem Cp.mulr {a b c:Rat→Rat} (h:Cp a b) (k:Cp a c) (ha:Pf a) (hb:Pf b) (hc:Pf c):Cp a (fun x=>b x * c x):=by
 obtain ⟨u,v,hu,hv,e⟩:=h
 obtain ⟨u',v',hu',hv',e'⟩:=k
 refine ⟨fun x=>u x * (u' x * a x + v' x * c x) + v x * b x * u' x,fun x=>v x * v' x,(hu.mul ((hu'.mul ha).add (hv'.mul hc))).add ((hv.mul hb).mul hu'),hv.mul hv',fun x=>?_⟩
 have e1:=e x
 have e2:=e' x
 show (u x * (u' x * a x + v' x * c x) + v x * b x * u' x) * a x + v x * v' x * (b x * c x) = 1
 have:(u x * (u' x * a x + v' x * c x) + v x * b x * u' x) * a x + v x * v' x * (b x * c x) = (u x * a x + v x * b x) * (u' x * a x + v' x * c x):=by grind
 rw [this,e1,e2,Rat.mul_one]
theorem Cp.mull {a b c:Rat→Rat} (h:Cp a c) (k:Cp b c) (ha:Pf a) (hb:Pf b) (hc:Pf c):Cp (fun x=>a x * b x) c:=(h.symm.mulr k.symm hc ha hb).symm
theorem Cp.smul {a b:Rat→Rat} (h:Cp a b) {c:Rat} (hc:c ≠ 0):Cp a (fun x=>c * b x):=by
 obtain ⟨u,v,hu,hv,e⟩:=h
 have hci:=Rat.mul_inv_cancel _ hc
 refine ⟨u,_,hu,hv.smul c⁻¹,fun x=>?_⟩
 have e1:=e x
 show u x * a x + c⁻¹ * v x * (c * b x) = 1
 have:c⁻¹ * v x * (c * b x) = (c * c⁻¹) * (v x * b x):=by grind
 rw [this,hci]; grind
theorem Cp.addm {a b k:Rat→Rat} (h:Cp a b) (hk:Pf k):Cp a (fun x=>b x + a x * k x):=by
 obtain ⟨u,v,hu,hv,e⟩:=h
 refine ⟨_,v,hu.sub (hv.mul hk),hv,fun x=>?_⟩
 have e1:=e x
 show (u x - v x * k x) * a x + v x * (b x + a x * k x) = 1
 grind
theorem Cp.eq {a b c:Rat→Rat} (h:Cp a b) (he:∀ x,c x = b x):Cp a c:=by rw [show c = b from funext he]; exact h
theorem cp_shift:∀ (n:Nat) (q:List Rat),(tz q).length≤n→tz q ≠ []→∀ (r s r':Rat→Rat),Pf r→Pf s→Pf r'→IsD r r'→(∀ x,evV q x = evV (gcdV q (derL q)) x * r x)→(∀ x,evD q x = evV (gcdV q (derL q)) x * s x) →
  ∀ a b:Rat,(∀ m:Nat,b + ((m + 1:Nat):Rat) * a ≠ 0)→Cp r (fun x=>a * s x + b * r' x):=by
 intro n
 induction n with
 | zero=>intro q h h0; exact absurd (List.length_eq_zero_iff.1 (by omega)) h0
 | succ n ih =>
  intro q hn h0 r s r' hr hs hr' hd h1 h2 a b hab
  have hG:=dv_der (gcd_spec q (derL q))
  obtain ⟨hg0,⟨r'',hr'',hd'',hcp⟩,r1,w,hr1,hw,e1,e4,hcw⟩:=dec h0 hG hr h1
  have hrr:∀ x,r'' x = r' x:=fun x=>hd''.uniq hd x
  have hcp:Cp r r':=hcp.eq (fun x=>(hrr x).symm)
  have hab0:=hab 0
  have hba:b + a ≠ 0:=by
   have e:((0 + 1:Nat):Rat) = 1:=rfl
   rw [e] at hab0
   intro h; exact hab0 (by grind)
  have hgx:=ne_ex hg0
  have hslope:∀ x,evD (gcdV q (derL q)) x * r x + evV (gcdV q (derL q)) x * r' x = evV (gcdV q (derL q)) x * s x:=fun x=>by
   have e:=(IsD.mul (IsD.ev (gcdV q (derL q))) hd (Pf.ev _) hr (Pf.der _)).uniq (by
    have:=IsD.ev q
    rw [show evV q = fun x=>evV (gcdV q (derL q)) x * r x from funext h1] at this
    exact this) x
   rw [h2 x] at e
   exact e
  rcases Nat.lt_or_ge 1 (tz (gcdV q (derL q))).length with hl | hl
  ·have hlt:=gl_lt h0 hG hl
   have hG2:=dv_der (gcd_spec (gcdV q (derL q)) (derL (gcdV q (derL q))))
   obtain ⟨s1,hs1,e2⟩:=hG2.2.1
   obtain ⟨r1',hr1',hd1⟩:=pf_isd hr1
   obtain ⟨w',hw',hdw⟩:=pf_isd hw
   have ih1:=ih (gcdV q (derL q)) (by omega) hg0 r1 s1 r1' hr1 hs1 hr1' hd1 e1 e2 a (b + a) (fun m=>by
    have:=hab (m + 1)
    rw [show ((m + 1 + 1:Nat):Rat) = ((m + 1:Nat):Rat) + 1 by rw [Rat.natCast_add]; rfl] at this
    intro h; exact this (by grind))
   have hrw:∀ x,r1' x * w x + r1 x * w' x = r' x:=fun x=>(IsD.mul hd1 hdw hr1 hw hr1').uniq (by rw [show r = fun x=>r1 x * w x from funext e4] at hd; exact hd) x
   have hp2x:=ne_ex (gcd_ne hg0)
   have k1:∀ x,s1 x * r x = r1 x * (s x - r' x):=pf_cancel (f:=evV (gcdV (gcdV q (derL q)) (derL (gcdV q (derL q))))) (g:=fun x=>s1 x * r x) (h:=fun x=>r1 x * (s x - r' x)) (Pf.ev _) (hs1.mul hr) (hr1.mul (hs.sub hr')) (fun x=>by
    have h3:=hslope x
    rw [e2 x,e1 x] at h3
    grind) hp2x
   have hr1x:∃ x,r1 x ≠ 0:=(pf_ne hg0 e1).2
   have k2:∀ x,s1 x * w x = s x - r' x:=pf_cancel (f:=r1) (g:=fun x=>s1 x * w x) (h:=fun x=>s x - r' x) hr1 (hs1.mul hw) (hs.sub hr') (fun x=>by
    have h3:=k1 x
    rw [e4 x] at h3
    grind) hr1x
   have hww:=(cp_fac hr1 hw e4 hd hcp).2 w' hw' hdw
   have c1:Cp w (fun x=>a * s x + b * r' x):=by
    refine (((hww.mulr hcw.symm hw hw' hr1).smul hba).addm (k:=fun x=>(b + a) * r1' x + a * s1 x) ((hr1'.smul _).add (hs1.smul _))).eq fun x=>?_
    have e5:=k2 x
    have e6:=hrw x
    grind
   have c2:Cp r1 (fun x=>a * s x + b * r' x):=by
    refine ((hcw.mulr ih1 hr1 hw ((hs1.smul a).add (hr1'.smul (b + a)))).addm (k:=fun x=>(b + a) * w' x) (hw'.smul _)).eq fun x=>?_
    have e5:=k2 x
    have e6:=hrw x
    grind
   rw [show r = fun x=>r1 x * w x from funext e4]
   exact c2.mull c1 hr1 hw ((hs.smul a).add (hr'.smul b))
  ·have hc1:=len_one hl
   have hd0:∀ x,evD (gcdV q (derL q)) x = 0:=fun x=>by
    have h5:=(IsD.ev (gcdV q (derL q))).uniq (h:=fun _=>0) (by rw [show evV (gcdV q (derL q)) = fun _=>seq (gcdV q (derL q)) 0 from funext hc1]; exact IsD.const _) x
    exact h5
   have hsr:∀ x,s x = r' x:=pf_cancel (f:=evV (gcdV q (derL q))) (Pf.ev _) hs hr' (fun x=>by
    have h3:=hslope x
    rw [hd0 x] at h3
    grind) hgx
   exact (hcp.smul hba).eq fun x=>by rw [hsr x]; grind
theorem isg_scale {g a b:Rat→Rat} {c d:Rat} (hc:c ≠ 0) (hd:d ≠ 0) (h:IsG g a b) {a' b':Rat→Rat} (ea:∀ x,a' x = c * a x) (eb:∀ x,b' x = d * b x):IsG g a' b':=by
 obtain ⟨⟨x1,p1,k1⟩,⟨x2,p2,k2⟩,u,v,hu,hv,e⟩:=h
 have hci:=Rat.mul_inv_cancel _ hc
 have hdi:=Rat.mul_inv_cancel _ hd
 refine ⟨⟨_,p1.smul c,fun x=>by rw [ea,k1]; grind⟩,⟨_,p2.smul d,fun x=>by rw [eb,k2]; grind⟩,_,_,hu.smul c⁻¹,hv.smul d⁻¹,fun x=>?_⟩
 rw [e x,ea x,eb x]
 have e1:c⁻¹ * u x * (c * a x) = (c * c⁻¹) * (u x * a x):=by grind
 have e2:d⁻¹ * v x * (d * b x) = (d * d⁻¹) * (v x * b x):=by grind
 show u x * a x + v x * b x = c⁻¹ * u x * (c * a x) + d⁻¹ * v x * (d * b x)
 rw [e1,e2,hci,hdi]; grind
set_option maxHeartbeats 1000000 in
theorem chg_sq {lo hi:Rat} (hlh:lo < hi):∀ (n:Nat) (q p:List Rat) (c:Rat),tz q ≠ []→c ≠ 0→(∀ x,evV p x = c * (evV q x * evV q x))→chgV n p lo hi = false:=by
 intro n
 induction n with
 | zero=>intro q p c _ _ _; rfl
 | succ n ih =>
  intro q p c hq0 hc he
  have hp0:tz p ≠ []:=fun h=>by
   have h1:∀ x,evV q x * evV q x = 0:=fun x=>by
    have h2:=he x
    rw [ev_tznil.1 h x] at h2
    rcases Rat.mul_eq_zero.1 h2.symm with h3 | h3
    ·exact absurd h3 hc
    ·exact h3
   obtain ⟨y,hy⟩:=ne_ex hq0
   rcases Rat.mul_eq_zero.1 (h1 y) with h3 | h3 <;> exact hy h3
  have hG:=dv_der (gcd_spec q (derL q))
  have hg0:=gcd_ne hq0
  have hq:=quo_exact hg0 (gcd_dv q)
  obtain ⟨q1,e1⟩:∃ q1,q1 = gcdV q (derL q):=⟨_,rfl⟩
  obtain ⟨r,er⟩:∃ r,r = evV (quoV q (gcdV q (derL q))):=⟨_,rfl⟩
  have hr:Pf r:=⟨_,er⟩
  rw [← er] at hq
  obtain ⟨s,hs,h2⟩:=hG.2.1
  obtain ⟨r',hr',hd⟩:=pf_isd hr
  have hsh:=cp_shift _ q (Nat.le_refl _) hq0 r s r' hr hs hr' hd hq h2 2 (-1) (fun m=>by
   have:(0:Rat)≤((m:Nat):Rat):=by exact_mod_cast Nat.zero_le m
   rw [show ((m + 1:Nat):Rat) = (m:Rat) + 1 by rw [Rat.natCast_add]; rfl]
   intro h; grind)
  have hslope:∀ x,evD (gcdV q (derL q)) x * r x + evV (gcdV q (derL q)) x * r' x = evV (gcdV q (derL q)) x * s x:=fun x=>by
   have e:=(IsD.mul (IsD.ev (gcdV q (derL q))) hd (Pf.ev _) hr (Pf.der _)).uniq (by
    have:=IsD.ev q
    rw [show evV q = fun x=>evV (gcdV q (derL q)) x * r x from funext hq] at this
    exact this) x
   rw [h2 x] at e
   exact e
  rw [← e1] at hq h2 hslope hG hg0
  have hci:=Rat.mul_inv_cancel _ hc
  -- p' = 2 c q q'
  have hpd:∀ x,evD p x = 2 * c * (evV q x * evD q x):=fun x=>by
   have d1:=isd_smul c (IsD.mul (IsD.ev q) (IsD.ev q) (Pf.ev q) (Pf.ev q) (Pf.der q)) ((Pf.ev q).mul (Pf.ev q)) (((Pf.der q).mul (Pf.ev q)).add ((Pf.ev q).mul (Pf.der q)))
   have d2:=(IsD.ev p).uniq (by rw [show evV p = fun x=>c * (evV q x * evV q x) from funext he]; exact d1) x
   rw [d2]; grind
  have g1:IsG (fun x=>evV q x * evV q1 x) (fun x=>evV q x * evV q x) (fun x=>evV q x * evD q x):=by
   obtain ⟨-,-,u,v,hu,hv,k⟩:=hG
   refine ⟨⟨r,hr,fun x=>?_⟩,⟨s,hs,fun x=>?_⟩,u,v,hu,hv,fun x=>?_⟩
   ·show evV q x * evV q x = evV q x * evV q1 x * r x
    have:=hq x; grind
   ·show evV q x * evD q x = evV q x * evV q1 x * s x
    have:=h2 x; grind
   ·show evV q x * evV q1 x = u x * (evV q x * evV q x) + v x * (evV q x * evD q x)
    rw [k x]; grind
  have g2:=isg_scale (d:=2 * c) hc (fun h=>by rcases Rat.mul_eq_zero.1 h with h | h; exact absurd h (by decide); exact hc h) g1 he hpd
  obtain ⟨k,hk,hk1⟩:=isg_uniq (dv_der (gcd_spec p (derL p))) g2 (Pf.ev _) ((Pf.ev q).mul (Pf.ev q1)) (ne_ex hp0)
  have hki:=Rat.mul_inv_cancel _ hk
  have hp10:=gcd_ne hp0
  -- p1' = k q1^2 (2 s - r')
  have hp1d:∀ x,evD (gcdV p (derL p)) x = k * (evV q1 x * evV q1 x * (2 * s x + -1 * r' x)):=fun x=>by
   have d1:=isd_smul k (IsD.mul (IsD.ev q) (IsD.ev q1) (Pf.ev q) (Pf.ev q1) (Pf.der q)) ((Pf.ev q).mul (Pf.ev q1)) (((Pf.der q).mul (Pf.ev q1)).add ((Pf.ev q).mul (Pf.der q1)))
   have d2:=(IsD.ev (gcdV p (derL p))).uniq (by rw [show evV (gcdV p (derL p)) = fun x=>k * (evV q x * evV q1 x) from funext hk1]; exact d1) x
   rw [d2,h2 x,hq x]
   have h3:=hslope x
   have:evV q1 x * s x * evV q1 x + evV q1 x * r x * evD q1 x = evV q1 x * evV q1 x * (2 * s x + -1 * r' x):=by grind
   rw [this]
  have g3:IsG (fun x=>evV q1 x * evV q1 x) (fun x=>evV q1 x * evV q1 x * r x) (fun x=>evV q1 x * evV q1 x * (2 * s x + -1 * r' x)):=by
   obtain ⟨u,v,hu,hv,e⟩:=hsh
   refine ⟨⟨r,hr,fun x=>rfl⟩,⟨_,(hs.smul 2).add (hr'.smul (-1)),fun x=>rfl⟩,u,v,hu,hv,fun x=>?_⟩
   have:=e x
   show evV q1 x * evV q1 x = u x * (evV q1 x * evV q1 x * r x) + v x * (evV q1 x * evV q1 x * (2 * s x + -1 * r' x))
   have e2:u x * (evV q1 x * evV q1 x * r x) + v x * (evV q1 x * evV q1 x * (2 * s x + -1 * r' x)) = evV q1 x * evV q1 x * (u x * r x + v x * (2 * s x + -1 * r' x)):=by grind
   rw [e2,this]; grind
  have hp1e:∀ x,evV (gcdV p (derL p)) x = k * (evV q1 x * evV q1 x * r x):=fun x=>by rw [hk1 x,hq x]; grind
  have g4:=isg_scale hk hk g3 hp1e hp1d
  obtain ⟨k2,hk2,hk3⟩:=isg_uniq (dv_der (gcd_spec (gcdV p (derL p)) (derL (gcdV p (derL p))))) g4 (Pf.ev _) ((Pf.ev q1).mul (Pf.ev q1)) (ne_ex hp10)
  have hk2i:=Rat.mul_inv_cancel _ hk2
  obtain ⟨c0,hc0,f0⟩:=root_quo hp0 (r:=fun x=>c * k⁻¹ * r x) (hr.smul _) (fun x=>by
   rw [he x,hk1 x,hq x]
   have:k * (evV q1 x * r x * evV q1 x) * (c * k⁻¹ * r x) = (k * k⁻¹) * (c * (evV q1 x * r x * (evV q1 x * r x))):=by grind
   rw [this,hki]; grind)
  obtain ⟨c1,hc1,f1⟩:=root_quo hp10 (r:=fun x=>k * k2⁻¹ * r x) (hr.smul _) (fun x=>by
   rw [hp1e x,hk3 x]
   have:k2 * (evV q1 x * evV q1 x) * (k * k2⁻¹ * r x) = (k2 * k2⁻¹) * (k * (evV q1 x * evV q1 x * r x)):=by grind
   rw [this,hk2i]; grind)
  have hinv:∀ {z:Rat},z ≠ 0→z⁻¹ ≠ 0:=fun {z} hz h=>by
   have:=Rat.mul_inv_cancel _ hz
   rw [h,Rat.mul_zero] at this
   exact absurd this (by decide)
  have hne:∀ {x y:Rat},x ≠ 0→y ≠ 0→x * y ≠ 0:=fun {x y} hx hy h=>by
   rcases Rat.mul_eq_zero.1 h with h | h
   ·exact hx h
   ·exact hy h
  have hb:=btw_same hp10 hp0 (c:=c1 * (k * k2⁻¹) * (c0 * (c * k⁻¹))⁻¹) (hne (hne hc1 (hne hk (hinv hk2))) (hinv (hne hc0 (hne hc (hinv hk))))) (fun x=>by
   rw [f0 x,f1 x]
   have hz:=Rat.mul_inv_cancel _ (hne hc0 (hne hc (hinv hk)))
   have:c1 * (k * k2⁻¹) * (c0 * (c * k⁻¹))⁻¹ * (c0 * (c * k⁻¹ * r x)) = (c0 * (c * k⁻¹) * (c0 * (c * k⁻¹))⁻¹) * (c1 * (k * k2⁻¹ * r x)):=by grind
   rw [this,hz,Rat.one_mul]) hlh
  have hih:=ih q1 (gcdV (gcdV p (derL p)) (derL (gcdV p (derL p)))) k2 hg0 hk2 hk3
  show (if btwV p lo hi = 0 then false else if btwV (gcdV p (derL p)) lo hi ≠ btwV p lo hi then true else chgV n (gcdV (gcdV p (derL p)) (derL (gcdV p (derL p)))) lo hi) = false
  by_cases hz:btwV p lo hi = 0
  ·rw [if_pos hz]
  ·rw [if_neg hz,if_neg (fun h=>h hb),hih]
theorem sq_pp {x:Rat} (h:x ≠ 0):0 < x * x:=by
 rcases tri x 0 with k | k | k
 ·have:=Rat.mul_pos (a:=-x) (b:=-x) (by grind) (by grind); grind
 ·exact absurd k h
 ·exact Rat.mul_pos k k
theorem pow_sq (y:Rat):∀ k:Nat,y ^ (2 * k) = y ^ k * y ^ k:=by
 intro k
 induction k with
 | zero=>rw [Nat.mul_zero,Rat.pow_zero,Rat.mul_one]
 | succ k ih=>rw [show 2 * (k + 1) = 2 * k + 1 + 1 by omega,Rat.pow_succ,Rat.pow_succ,Rat.pow_succ,ih]; grind
theorem nng_sq {p q:List Rat} (he:∀ x,evV p x = evV q x * evV q x) (lo hi:Rat) (hlh:lo≤hi):nngV p lo hi = true:=by
 unfold nngV
 by_cases h0:tz p = []
 ·rw [if_pos h0]
 ·have hq0:tz q ≠ []:=fun h=>by
   obtain ⟨y,hy⟩:=ne_ex h0
   exact hy (by rw [he,ev_tznil.1 h y,Rat.mul_zero])
  have hnn:∀ x,¬ sg (evV (splL p) x) < 0:=fun x h=>by
   rw [spl_sg h0,he x] at h
   have:=sq_nn (evV q x)
   rcases sg_cases (evV q x * evV q x) with ⟨h4,h5⟩ | ⟨h4,h5⟩ | ⟨h4,h5⟩
   ·grind
   ·rw [h5] at h; exact absurd h (by decide)
   ·rw [h5] at h; exact absurd h (by decide)
  rw [if_neg h0,if_neg (fun h=>h.elim (hnn lo) (hnn hi))]
  by_cases h1:lo = hi
  ·rw [if_pos h1]
  ·rw [if_neg h1]
   have hm:=spl_pos h0
   have hmi:=Rat.mul_inv_cancel (splM p) (fun h=>by rw [h] at hm; exact absurd hm Rat.lt_irrefl)
   have hmp:0 < (splM p)⁻¹:=Rat.inv_pos.2 hm
   have hs:∀ x,evV (splL p) x = (splM p)⁻¹ * (evV q x * evV q x):=fun x=>by
    rw [← he x,ev_spl1 p x,← Rat.mul_assoc,Rat.mul_comm _ (splM p),hmi,Rat.one_mul]
   have h2:=chg_sq (lo:=lo) (hi:=hi) (by grind) ((tz p).length + 1) q (splL p) (splM p)⁻¹ hq0 (fun h=>by rw [h] at hmp; exact absurd hmp Rat.lt_irrefl) hs
   obtain ⟨k,g,hg,hga,hge⟩:=mult lo _ q (Nat.le_refl _) hq0
   have hsq0:tz (splL p) ≠ []:=by rw [spl_tz]; exact fun k=>h0 (spl_ne.1 k)
   have hfe:∀ x,evV (splL p) x = (x - lo) ^ (2 * k) * ((splM p)⁻¹ * (g x * g x)):=fun x=>by rw [hs x,hge x,pow_sq]; grind
   have hgp:0 < (splM p)⁻¹ * (g lo * g lo):=Rat.mul_pos hmp (sq_pp hga)
   have hlen:=pow_len (2 * k) (splL p) (fun x=>(splM p)⁻¹ * (g x * g x)) ((hg.mul hg).smul _) hsq0 hfe
   rw [spl_tz,spl_len] at hlen
   have h3:=saf_fac (a:=lo) (2 * k) ((tz p).length + 1) (splL p) (fun x=>(splM p)⁻¹ * (g x * g x)) (by omega) ((hg.mul hg).smul _) (fun h=>by
    have h':(splM p)⁻¹ * (g lo * g lo) = 0:=h
    rw [h'] at hgp; exact absurd hgp Rat.lt_irrefl) hfe
   rw [h2,h3,sg_pos hgp]; rfl
theorem still_big {A B d:Rat} {r:Rat→Rat} (hr:Pf r) (hd:0 < d) (hb:∀ x,A≤x→x≤B→Big d (r x)):∀ s t,A≤s→s < t→t≤B→sg (r t) = sg (r s):=by
 obtain ⟨K,hK,k1⟩:=hr.lip A B
 obtain ⟨e,he,k2⟩:=step_ex hK hd
 exact grid_ind he (fun s t h1 h2 h3 h4=>((hb s h1 (by grind)).sign k1 h1 (by grind) h3 (k2 _ h4)).1) (fun s t u _ _ _ _ h1 h2=>h2.trans h1)
theorem pos_ge {p:List Rat} {c:Rat} (hc:0 < c) (he:∀ x,c≤evV p x) (lo hi:Rat) (hlh:lo≤hi):posV p lo hi = true:=by
 have h0:tz p ≠ []:=fun h=>by have h1:=he 0; rw [ev_tznil.1 h 0] at h1; grind
 unfold posV
 rw [if_neg h0,if_neg (by rw [spl_sg h0,sg_pos (by have:=he lo; grind)]; decide),decide_eq_true_iff]
 have hr:=root_rt h0
 obtain ⟨l,e,hfit⟩:=fits hr.ne hr.cp
 have hnr:rtV (remsV (rootV p)) lo = false:=by
  cases k:rtV (remsV (rootV p)) lo with
  | false=>rfl
  | true =>
   have h1:=(rtV_iff h0 lo).1 k
   have:=he lo
   rw [h1] at this; grind
 unfold cntV
 rw [hnr,if_neg (by decide),varV_V e,varV_V e]
 rcases Rat.le_iff_lt_or_eq.1 hlh with h1 | h1
 ·obtain ⟨g,q1,hg,-,-,k1,-⟩:=hr.dv
  obtain ⟨M,hM,k2⟩:=hg.on lo hi
  have hm:=spl_pos hr.ne
  have hM1:0 < M + 1:=by grind
  have hd:0 < c / (M + 1):=divP hc hM1
  have hdc:=div_cancel (a:=c) (b:=M + 1) (by grind)
  have hbig:∀ x,lo≤x→x≤hi→Big (c / (M + 1)) (evV (rootV p) x):=fun x h2 h3=>Classical.byContradiction fun hn=>by
   obtain ⟨b1,b2⟩:=not_big hn
   generalize c / (M + 1) = d at *
   have b0:Bd d (evV (rootV p) x):=⟨by grind,by grind⟩
   have b3:=((k2 x h2 h3).mul b0).2
   have h4:=he x
   rw [k1 x] at h4
   grind
  have hst:=still_big (Pf.ev (rootV p)) hd hbig
  have hV:=(hfit lo hi).calm Rat.le_refl h1 Rat.le_refl (fun s t s1 s2 s3 _=>by rw [spl_sg hr.ne,spl_sg hr.ne]; exact hst s t s1 s2 s3)
  rw [hV]; omega
 ·rw [h1]; omega
theorem saf_sg {q:List Rat} (h0:tz q ≠ []) {a:Rat} {n:Nat} (hn:(tz q).length≤n) (h:safV n q a < 0) {b:Rat} (hb:a < b):∃ s,a < s∧s < b∧evV q s < 0:=by
 obtain ⟨k,g,hg,hga,he⟩:=mult a _ q (Nat.le_refl _) h0
 have hk:=pow_len k q g hg h0 he
 rw [saf_fac k n q g (by omega) hg hga he] at h
 have hgp:0 < -1 * g a:=by
  rcases sg_cases (g a) with ⟨h4,h5⟩ | ⟨h4,h5⟩ | ⟨h4,h5⟩
  ·grind
  ·rw [h5] at h; exact absurd h (by decide)
  ·rw [h5] at h; exact absurd h (by decide)
 obtain ⟨e,he0,h1⟩:=near (hg.smul (-1)) hgp
 obtain ⟨c,hc,c1,c2⟩:=min_ex he0 (show 0 < b - a by grind)
 have hmid:0 < c / 2∧c / 2 < c:=by
  have:=div_cancel (a:=c) (b:=2) (by decide)
  exact ⟨by grind,by grind⟩
 refine ⟨a + c / 2,by grind,by grind,?_⟩
 rw [he]
 have h2:=h1 (a + c / 2) (by grind) (by grind)
 have h3:∀ k:Nat,0 < (a + c / 2 - a) ^ k:=fun k=>Rat.pow_pos (by grind)
 have h4:=Rat.mul_pos (h3 k) h2
 have h5:(a + c / 2 - a) ^ k * (-1 * g (a + c / 2)) = -((a + c / 2 - a) ^ k * g (a + c / 2)):=by grind
 rw [h5] at h4
 grind
end Go.Proofs.YtcbgamclcgcodaaGreat.Sg
