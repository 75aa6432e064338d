/- StepUp, Stable, Inside of the reference 18. -/
import Derived.Test.YteafdebcihbjdaaGreatR18a
import Derived.Test.YteafdebcihbjdaaGreatM11
set_option linter.unusedVariables false
namespace Go.Proofs.YteafdebcihbjdaaGreat
open Go.RowKit Go.Front Go.Num
attribute [local go_sem] XW.cell XW.frozen
/-- The element i of a step up. -/
def upE (c : List Rat) (r : Rat) (m i : Nat) : Rat := c.getD i 0 + r * c.getD (m - i) 0
theorem up_upE {c : List Rat} {j : Nat} (r : Rat) (hc : c.length = j + 1) : (List.range (j + 2)).map (upE c r (j + 1)) = Stab.up c r := by
  rw [← up_range r hc]
  apply List.map_congr_left
  intro i _
  unfold upE
  rw [Stab.snoc0_getD, Stab.snoc0_getD]
end Go.Proofs.YteafdebcihbjdaaGreat
