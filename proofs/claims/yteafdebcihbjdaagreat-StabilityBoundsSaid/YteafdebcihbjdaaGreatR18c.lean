/- Inside of the reference 18. -/
import Derived.Test.YteafdebcihbjdaaGreatR18b
set_option linter.unusedVariables false
namespace Go.Proofs.YteafdebcihbjdaaGreat
open Go.RowKit Go.Front Go.Num
attribute [local go_sem] XW.cell XW.frozen
theorem rgx_getD (n i : Nat) (f : Nat → Rat) : ((List.range n).map f).getD i 0 = if i < n then f i else 0 := by
  by_cases h : i < n
  · rw [if_pos h]; simp [h]
  · rw [if_neg h]; simp [show n ≤ i by omega]
theorem tzx_ext {a b : List Rat} (h : ∀ i, a.getD i 0 = b.getD i 0) : tz a = tz b := by
  have hl : ∀ a b : List Rat, (∀ i, a.getD i 0 = b.getD i 0) → (tz a).length ≤ (tz b).length := by
    intro a b h
    rcases Nat.lt_or_ge (tz b).length (tz a).length with h1 | h1
    · exfalso
      obtain ⟨n, hn⟩ : ∃ n, (tz a).length = n + 1 := ⟨(tz a).length - 1, by omega⟩
      have h2 : (tz a).getD n 0 = 0 := by
        rw [tz_getD (by omega), h n, tz_out (by omega)]
      have h3 := tz_idem a
      have h4 : tz ((tz a).take (n + 1)) = tz ((tz a).take n) := tz_zero (by omega) h2
      rw [← hn, List.take_length, h3] at h4
      have h5 := tz_len_le ((tz a).take n)
      rw [← h4, List.length_take] at h5
      omega
    · exact h1
  apply Stab.getD_ext
  · exact Nat.le_antisymm (hl a b h) (hl b a (fun i => (h i).symm))
  · intro i _
    rw [tz_getD', tz_getD', h]
theorem inv_pow' (r : Rat) (i : Nat) : (r ^ i)⁻¹ = (1 / r) ^ i := by
  induction i with
  | zero => rw [Rat.pow_zero, Rat.pow_zero]; decide +kernel
  | succ i ih => rw [Rat.pow_succ, Rat.pow_succ, inv_mul', ih, Rat.div_def, Rat.one_mul]
def mvE (qs : List Rat) (r : Rat) (i : Nat) : Rat := qs.getD i 0 / r ^ i
theorem moved_tz (qs : List Rat) (r : Rat) : tz ((List.range qs.length).map (mvE qs r)) = tz (moved qs r) := by
  apply tzx_ext
  intro i
  unfold moved
  rw [rgx_getD, rgx_getD]
  unfold mvE
  rw [tz_getD', Rat.div_def, inv_pow']
  by_cases h1 : i < (tz qs).length
  · rw [if_pos h1, if_pos (Nat.lt_of_lt_of_le h1 (tz_len_le qs))]
  · rw [if_neg h1, tz_out (by omega), Rat.zero_mul]
    split <;> rfl
theorem wrongE_tz {a b : List Rat} (h : tz a = tz b) : wrongE a = wrongE b := by
  rw [wrongE_alt, wrongE_alt, ← tz_getD' a, ← tz_getD' b, h]
theorem reflV_tz {a b : List Rat} (h : tz a = tz b) : reflV a = reflV b := by
  unfold reflV
  rw [wrongE_tz h, h]
theorem stabV_tz {a b : List Rat} (h : tz a = tz b) : stabV a = stabV b := by
  unfold stabV
  rw [reflV_tz h]
theorem mv_sz {qs : List Rat} {r : Rat} {s t n : Nat} (h : SzL s qs) (hs : 1 ≤ s) (hr : Sz t r) (hn : n ≤ 49) : SzL (s + (t * 49 + 1)) ((List.range n).map (mvE qs r)) := by
  intro q hq
  obtain ⟨i, hi, rfl⟩ := List.mem_map.1 hq
  have hi' := List.mem_range.1 hi
  unfold mvE
  refine ((h.getD hs i).div (hr.pow i)).mono ?_
  have := Nat.mul_le_mul_left t (show i ≤ 49 by omega)
  omega
end Go.Proofs.YteafdebcihbjdaaGreat
