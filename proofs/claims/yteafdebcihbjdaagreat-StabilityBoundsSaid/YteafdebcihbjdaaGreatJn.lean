/- What all joins of this seat share. -/
import Derived.Test.YteafdebcihbjdaaGreatRows
import Derived.Test.YteafdebcihbjdaaGreatM8
import Derived.ProofKit
import Derived.OpenShut
import Derived.ShutString
import Derived.ChangeOld
import Derived.Lib.SmallJoins
set_option linter.unusedVariables false
namespace Go.Proofs.YteafdebcihbjdaaGreat
open Go.ChangeShapes Go.WideShapes Go.ChangeAt Go.RowKit Go.Front Go.Joins
theorem own : ownKnob Tryz.prog.godebug = none := by kernel_rfl
theorem laidOut : laidOutB Tryz.prog = true := by kernel_rfl
theorem wf_range {n : Int} (h : (Lit.int .i64 n).wf = true) : -9223372036854775808 ≤ n ∧ n ≤ 9223372036854775807 := by
  simp [Lit.wf] at h
  exact ⟨h.1, h.2⟩
theorem u8_range {n : Int} (h : (Lit.int .u8 n).wf = true) : 0 ≤ n ∧ n ≤ 255 := by
  simp [Lit.wf] at h
  exact ⟨h.1, h.2⟩
/-- A slice of integers that came in. -/
theorem open_row {H : Type} {enc : TypeId × Value → H} {W : World} {a0 : Option Addr} {len0 cap0 : Nat} {d : DataW H} {p : List MemPlace} (h0 : DataW.Trod enc Tryz.prog W 0 (fun _ => true) true 25 (.slice a0 len0 cap0) d p) :
    ∃ xs : List Int, IntsAt W a0 xs ∧ InR xs ∧ xs.length = len0 ∧ len0 ≤ 9223372036854775807 ∧ len0 ≤ cap0 ∧ cap0 ≤ 9223372036854775807 := by
  obtain ⟨fuel, hf⟩ := h0
  rcases open_ints Tryz.underlying25 Tryz.underlying3 (by kernel_rfl) hf with ⟨hcs, _⟩ | ⟨x, l, c, zs, hcs, _, hl, hm, hz, _, hcell, hwz⟩
  · simp [Value.cells] at hcs
    obtain ⟨rfl, rfl, rfl⟩ := hcs
    exact ⟨[], Or.inl rfl, fun x hx => by simp at hx, rfl, by decide, by decide, by decide⟩
  · simp [Value.cells] at hcs
    obtain ⟨rfl, rfl, rfl⟩ := hcs
    simp only [maxLen] at hm
    have hz' : zs.length = cap0 := by simpa using hz
    refine ⟨zs.take len0, ?_, fun x hx => wf_range (hwz x (List.mem_of_mem_take hx)), by simp; omega, by omega, hl, by omega⟩
    by_cases hp : 0 < zs.length
    · obtain ⟨b, off, rfl, hc⟩ := ints_at hcell hp
      refine Or.inr ⟨b, off, rfl, fun k hk => ?_⟩
      simp only [List.length_take] at hk
      rw [hc k (by omega)]
      simp [show k < len0 by omega]
    · left
      have : zs = [] := List.length_eq_zero_iff.1 (by omega)
      rw [this]; simp
end Go.Proofs.YteafdebcihbjdaaGreat
