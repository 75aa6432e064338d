/- A fact about the program that every join needs: nothing of it is lifted. -/
import Derived.Test.YteafdebcihbjdaaGreatRows
import Derived.JoinedOf
set_option linter.unusedVariables false
namespace Go.Proofs.YteafdebcihbjdaaGreat
set_option maxRecDepth 100000
theorem pf_lift : Tryz.pinned.checked.prog.liftsFinal = false := by kernel_rfl
end Go.Proofs.YteafdebcihbjdaaGreat
