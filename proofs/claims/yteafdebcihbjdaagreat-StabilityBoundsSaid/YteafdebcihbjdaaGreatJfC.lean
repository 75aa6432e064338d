/- A fact about the program that every join needs: how it was made. -/
import Derived.Test.YteafdebcihbjdaaGreatRows
import Derived.JoinedOf
set_option linter.unusedVariables false
namespace Go.Proofs.YteafdebcihbjdaaGreat
set_option maxRecDepth 100000
theorem pf_make : Tryz.pinned.checked.prog.make = some .cut := by kernel_rfl
end Go.Proofs.YteafdebcihbjdaaGreat
