/- A fact about the program that every join needs: it may be entered. -/
import Derived.Test.YteafdebcihbjdaaGreatRows
import Derived.JoinedOf
set_option linter.unusedVariables false
namespace Go.Proofs.YteafdebcihbjdaaGreat
set_option maxRecDepth 100000
theorem pf_may : Tryz.pinned.checked.prog.mayEnter = true := by kernel_rfl
end Go.Proofs.YteafdebcihbjdaaGreat
