/- StabilityRadius returns true. -/
import Derived.Test.YteafdebcihbjdaaGreatM11
import Derived.Test.YteafdebcihbjdaaGreatM10
import Derived.Test.YteafdebcihbjdaaGreatLaw2
set_option linter.unusedVariables false
namespace Go.Proofs.YteafdebcihbjdaaGreat
open Go.RowKit Go.Front Go.Num
attribute [local go_sem] XW.cell XW.frozen
theorem rat_gt : ∀ a : Nat, a < 25 → ∀ b : Nat, b < 8 → -30 < (((a : Int) - 12 : Int) : Rat) / ((1 + (b : Int) : Int) : Rat) := by decide +kernel
theorem ratQ_gt (n : Int) : -30 < ratQ n := by
  have h1 := Int.emod_nonneg n (show (25 : Int) ≠ 0 by decide)
  have h2 := Int.emod_lt_of_pos n (show (0 : Int) < 25 by decide)
  have h3 := Int.emod_nonneg (n.tdiv 25) (show (8 : Int) ≠ 0 by decide)
  have h4 := Int.emod_lt_of_pos (n.tdiv 25) (show (0 : Int) < 8 by decide)
  have h := rat_gt (n % 25).toNat (by omega) (n.tdiv 25 % 8).toNat (by omega)
  rw [show (((n % 25).toNat : Nat) : Int) = n % 25 by omega, show (((n.tdiv 25 % 8).toNat : Nat) : Int) = n.tdiv 25 % 8 by omega] at h
  exact h
theorem polyQ_gt (xs : List Int) (d : Nat) : -30 < (polyQ xs d).getD 0 0 := by
  unfold polyQ
  rw [tz_getD']
  rcases Nat.eq_zero_or_pos ((xs.take (d + 1)).map ratQ).length with h | h
  · rw [getD_over' (by omega)]; decide
  · have hm := getD_mem' h
    obtain ⟨n, -, e⟩ := List.mem_map.1 hm
    rw [← e]
    exact ratQ_gt n
theorem add5_tz (ps qs : List Rat) : tz (add5V ps qs) = add5V ps qs := by unfold add5V; exact tz_idem _
theorem add5_getD (ps qs : List Rat) (i : Nat) : (add5V ps qs).getD i 0 = ps.getD i 0 + qs.getD i 0 := by
  unfold add5V
  rw [tz_getD']
  rcases Nat.lt_or_ge i (max ps.length qs.length) with h | h
  · rw [List.getD_eq_getElem?_getD, List.getElem?_map, List.getElem?_range h]
    rfl
  · rw [getD_over' (by simpa using h), getD_over' (by omega), getD_over' (by omega)]
    grind
theorem add5_len (ps qs : List Rat) : (add5V ps qs).length ≤ max ps.length qs.length := by
  unfold add5V
  refine Nat.le_trans (tz_len_le _) ?_
  simp
theorem add5_sz {s : Nat} {ps qs : List Rat} (hs : 1 ≤ s) (h1 : SzL s ps) (h2 : SzL s qs) : SzL (2 * s + 1) (add5V ps qs) := by
  unfold add5V
  refine SzL.tz ?_
  intro q hq
  obtain ⟨n, -, rfl⟩ := List.mem_map.1 hq
  exact ((h1.getD hs n).add (h2.getD hs n)).mono (by omega)
theorem tenth_all : ∀ a : Nat, a < 40 → (0 < fr (1 + (a : Int)) 10 ∧ (fr (1 + (a : Int)) 10).num.natAbs < W32 ∧ (fr (1 + (a : Int)) 10).den < W32) := by decide +kernel
theorem tenth_le : ∀ a : Nat, a < 20 → ∀ b : Nat, b < 10 → fr (1 + (a : Int)) 10 ≤ fr (1 + (a : Int) + (b : Int)) 10 := by decide +kernel
theorem moved_szk {qs : List Rat} {r : Rat} (h : SzL 3 qs) (hr : Sz 1 r) (hl : (tz qs).length ≤ 5) : SzL 12 (moved qs r) := by
  intro q hq
  obtain ⟨i, hi, rfl⟩ := List.mem_map.1 hq
  have hi' := List.mem_range.1 hi
  exact ((h.tz.at hi').mul ((Sz.one.div hr).pow i)).mono (by omega)
end Go.Proofs.YteafdebcihbjdaaGreat
