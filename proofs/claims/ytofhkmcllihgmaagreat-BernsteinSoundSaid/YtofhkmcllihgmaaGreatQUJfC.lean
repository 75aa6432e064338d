/- A fact about the program that every join needs: how it was made. -/
import Derived.Test.YtofhkmcllihgmaaGreatRows
import Derived.JoinedOf
set_option linter.unusedVariables false
namespace Go.Proofs.YtofhkmcllihgmaaGreat
set_option maxRecDepth 100000
theorem zO:Tryz.pinned.checked.prog.make=some .cut:=by kernel_rfl
end Go.Proofs.YtofhkmcllihgmaaGreat
