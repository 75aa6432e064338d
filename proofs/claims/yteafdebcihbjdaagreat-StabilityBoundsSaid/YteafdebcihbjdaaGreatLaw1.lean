/- StabilityBack returns true. -/
import Derived.Test.YteafdebcihbjdaaGreatM10
set_option linter.unusedVariables false
namespace Go.Proofs.YteafdebcihbjdaaGreat
open Go.RowKit Go.Front Go.Num
attribute [local go_sem] XW.cell XW.frozen
theorem kept_all : ∀ m : Nat, m < 15 → (-1 < (((m : Int) - 7 : Int) : Rat) / ((8 : Int) : Rat) ∧ (((m : Int) - 7 : Int) : Rat) / ((8 : Int) : Rat) < 1) ∧ ((((m : Int) - 7 : Int) : Rat) / ((8 : Int) : Rat)).num.natAbs < W32 ∧ ((((m : Int) - 7 : Int) : Rat) / ((8 : Int) : Rat)).den < W32 := by decide +kernel
theorem kept_ok (n : Int) : (-1 < keptQ n ∧ keptQ n < 1) ∧ Sz 1 (keptQ n) := by
  have h1 := Int.emod_nonneg n (show (15 : Int) ≠ 0 by decide)
  have h2 := Int.emod_lt_of_pos n (show (0 : Int) < 15 by decide)
  have h := kept_all (n % 15).toNat (by omega)
  rw [show (((n % 15).toNat : Nat) : Int) = n % 15 by omega] at h
  exact ⟨h.1, by rw [Nat.pow_one]; exact h.2.1, by rw [Nat.pow_one]; exact h.2.2⟩
end Go.Proofs.YteafdebcihbjdaaGreat
