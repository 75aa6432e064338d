/- StabilityProducts returns true. -/
import Derived.Test.YteafdebcihbjdaaGreatM11
import Derived.Test.YteafdebcihbjdaaGreatM10
set_option linter.unusedVariables false
namespace Go.Proofs.YteafdebcihbjdaaGreat
open Go.RowKit Go.Front Go.Num
attribute [local go_sem] XW.cell XW.frozen
theorem polyQ_len (xs : List Int) (d : Nat) : (polyQ xs d).length ≤ d + 1 := by
  unfold polyQ
  refine Nat.le_trans (tz_len_le _) ?_
  rw [List.length_map, List.length_take]
  omega
theorem polyQ_sz (xs : List Int) (d : Nat) : SzL 1 (polyQ xs d) := SzL.tz (rats_sz _)
end Go.Proofs.YteafdebcihbjdaaGreat
