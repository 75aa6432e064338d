/- check, small, Reflections of the reference 18. -/
import Derived.Test.YteafdebcihbjdaaGreatR5b
import Derived.Test.YteafdebcihbjdaaGreatM17
import Derived.Test.YteafdebcihbjdaaGreatM11
import Derived.Test.YteafdebcihbjdaaGreatM22
import Derived.Test.YteafdebcihbjdaaGreatM10
set_option linter.unusedVariables false
namespace Go.Proofs.YteafdebcihbjdaaGreat
open Go.RowKit Go.Front Go.Num
attribute [local go_sem] XW.cell XW.frozen
theorem getD_nil0 {qs : List Rat} (h : qs.length = 0) : qs.getD 0 0 = 0 := by
  rw [List.length_eq_zero_iff.1 h]; rfl
theorem wrongE_alt (qs : List Rat) : wrongE qs = if 49 < (tz qs).length then 12 else if qs.getD 0 0 = 0 then 3 else 0 := by
  unfold wrongE
  by_cases h : qs.getD 0 0 = 0
  · rw [if_pos h, if_pos (Or.inr h)]
  · rw [if_neg h, if_neg (show ¬ (qs.length = 0 ∨ qs.getD 0 0 = 0) from fun h1 => h1.elim (fun h2 => h (getD_nil0 h2)) h)]
theorem abs_lt1 (q : Rat) : q.abs < ((1 : Int) : Rat) ↔ -1 < q ∧ q < 1 := by
  rw [show ((1 : Int) : Rat) = 1 from rfl]
  unfold Rat.abs
  split <;> constructor <;> intros <;> grind
theorem tz_map_ne {c : Rat} (hc : c ≠ 0) (l : List Rat) : tz (l.map (· * c)) = (tz l).map (· * c) := by
  induction l using Stab.snoc_ind with
  | h0 => rfl
  | h1 l r ih =>
    by_cases hr : r = 0
    · subst hr
      rw [List.map_append, List.map_cons, List.map_nil, Rat.zero_mul, tz_snoc0, tz_snoc0, ih]
    · have h2 : r * c ≠ 0 := fun h => by
        rcases Rat.mul_eq_zero.1 h with h3 | h3
        · exact hr h3
        · exact hc h3
      rw [List.map_append, List.map_cons, List.map_nil, tz_snoc _ h2, tz_snoc _ hr, List.map_append, List.map_cons, List.map_nil]
theorem scale5_norm {qs : List Rat} (h : wrongE qs = 0) : scale5V qs (((1 : Int) : Rat) / qs.getD 0 0) = norm (tz qs) := by
  obtain ⟨h1, h2, h3⟩ := wrong_ok h
  rw [tz_getD'] at h3
  have hc : ((1 : Int) : Rat) / qs.getD 0 0 ≠ 0 := by
    rw [Rat.div_def]
    intro h4
    rcases Rat.mul_eq_zero.1 h4 with h5 | h5
    · exact absurd h5 (by decide)
    · exact h3 (by rw [← Rat.inv_inv (a := qs.getD 0 0), h5, Rat.inv_zero])
  have e : norm (tz qs) = (tz qs).map (· * (((1 : Int) : Rat) / qs.getD 0 0)) := by
    unfold norm
    rw [tz_getD']
    apply List.map_congr_left
    intro x _
    rw [Rat.div_def, Rat.div_def, show ((1 : Int) : Rat) = 1 from rfl, Rat.one_mul]
  unfold scale5V
  rw [e]
  exact tz_map_ne hc qs
/-- The element i of a step down. -/
def dnE (c : List Rat) (r : Rat) (m i : Nat) : Rat := (c.getD i 0 - r * c.getD (m - i) 0) / (((1 : Int) : Rat) - r * r)
theorem down_dn (c : List Rat) (r : Rat) (m : Nat) : Stab.down c r m = (List.range m).map (dnE c r m) := rfl
/-- The block of the coefficients: those from g on are there. -/
def Kept (w : World) (L M g : Nat) (tl : List Rat) : Prop := ∃ ks, RBk w L ks #[] ∧ ks.length = M ∧ TCan w ks g tl
theorem Kept.ext {w w' : World} {L M g : Nat} {tl : List Rat} (h : Kept w L M g tl) (he : Ext w w') : Kept w' L M g tl := let ⟨ks, h1, h2, h3⟩ := h; ⟨ks, h1.ext he, h2, h3.ext he⟩
theorem Kept.put {w1 w2 : World} {L M g b : Nat} {tl : List Rat} {T : TypeId} {cs : Array Value} (h : Kept w1 L M g tl) (T2 : PutB w1 b T cs w2) (hb : b ≠ L) : Kept w2 L M g tl :=
  let ⟨ks, h1, h2, h3⟩ := h; ⟨ks, T2.rest L _ (Ne.symm hb) h1, h2, h3.keep T2.keep⟩
theorem Kept.lt {w : World} {L M g : Nat} {tl : List Rat} (h : Kept w L M g tl) : L < w.heap.size := let ⟨_, h1, _⟩ := h; h1.lt
theorem Kept.frozen {w : World} {L M g : Nat} {tl : List Rat} (h : Kept w L M g tl) (i : Nat) : w.frozen? ⟨L, i, none⟩ = false := let ⟨_, h1, _⟩ := h; h1.frozen i
theorem Kept.cells {w : World} {L M g : Nat} {tl : List Rat} (h : Kept w L M g tl) {k : Nat} (hk : k < M) : ∃ r, RAt w L (k * 3) r := by
  obtain ⟨rs, h1, h2, h3⟩ := h
  exact ⟨_, h1.at (by rw [h2]; exact hk)⟩
theorem Kept.can {w : World} {L M : Nat} {tl : List Rat} (h : Kept w L M 0 tl) (hl : tl.length = M) (hM : M ≤ 9223372036854775807) : CanL w ⟨some ⟨L, 0, none⟩, M, M⟩ tl := by
  obtain ⟨ks, h1, h2, h3⟩ := h
  exact ⟨ks, h1.rs h2 (Nat.le_refl _) hM, by rw [h2, hl], fun i hi => by have := h3 i hi; rwa [Nat.zero_add] at this⟩
theorem nm_kept {w1 : World} {L M g : Nat} {tl : List Rat} {q : Rat} {F : World → Prop} {x : RH} (h : Kept w1 L M (g + 1) tl) (hk : g < M) (hx : CanR w1 x q)
    (H : ∀ w2, (∃ cs, PutB w1 L 30 cs w2) → Kept w2 L M g (q :: tl) → F w2) :
    F (((w1.setCell ⟨L, g * 3, none⟩ (.bool x.neg)).setCell ⟨L, g * 3 + 1, none⟩ (.slice x.a x.n x.c)).setCell ⟨L, g * 3 + 2, none⟩ (.slice x.b x.m x.d)) := by
  obtain ⟨ks, h1, h2, h3⟩ := h
  refine nm_rat h1 rfl (by rw [h2]; exact hk) fun w2 T => H w2 ⟨_, T⟩ ⟨ks.set g x, T.bx, by rw [List.length_set]; exact h2, (h3.keep T.keep).cons (hx.keep T.keep) (by rw [h2]; exact hk)⟩
def reflR : Option (List Rat) → Int × List Rat
  | some k => (0, k)
  | none => (14, [])
def ReflS (M : Nat) (c0 c : List Rat) (g : Nat) (tl : List Rat) : Prop := c.length = g + 1 ∧ RefOk g c ∧ tl.length + g = M ∧ Stab.refl M c0 = (Stab.refl g c).map (· ++ tl)
theorem ReflS.next {M g : Nat} {c0 c tl : List Rat} (h : ReflS M c0 c (g + 1) tl) (hr : -1 < c.getD (g + 1) 0 ∧ c.getD (g + 1) 0 < 1) : ReflS M c0 (Stab.down c (c.getD (g + 1) 0) (g + 1)) g (c.getD (g + 1) 0 :: tl) := by
  obtain ⟨h1, h2, h3, h4⟩ := h
  refine ⟨Stab.down_length _ _ _, h2.2, by rw [List.length_cons]; omega, ?_⟩
  rw [h4]
  show (if -1 < c.getD (g + 1) 0 ∧ c.getD (g + 1) 0 < 1 then (Stab.refl g (Stab.down c (c.getD (g + 1) 0) (g + 1))).map (· ++ [c.getD (g + 1) 0]) else none).map (· ++ tl) = _
  rw [if_pos hr]
  cases Stab.refl g (Stab.down c (c.getD (g + 1) 0) (g + 1)) with
  | none => rfl
  | some k => simp
theorem ReflS.stop {M g : Nat} {c0 c tl : List Rat} (h : ReflS M c0 c (g + 1) tl) (hr : ¬ (-1 < c.getD (g + 1) 0 ∧ c.getD (g + 1) 0 < 1)) : Stab.refl M c0 = none := by
  obtain ⟨h1, h2, h3, h4⟩ := h
  rw [h4]
  show (if -1 < c.getD (g + 1) 0 ∧ c.getD (g + 1) 0 < 1 then (Stab.refl g (Stab.down c (c.getD (g + 1) 0) (g + 1))).map (· ++ [c.getD (g + 1) 0]) else none).map (· ++ tl) = _
  rw [if_neg hr]
  rfl
end Go.Proofs.YteafdebcihbjdaaGreat
