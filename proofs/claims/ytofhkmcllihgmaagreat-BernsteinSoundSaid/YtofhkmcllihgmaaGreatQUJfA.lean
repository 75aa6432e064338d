/- A fact about the program that every join needs: it may be entered. -/
import Derived.Test.YtofhkmcllihgmaaGreatRows
import Derived.JoinedOf
set_option linter.unusedVariables false
namespace Go.Proofs.YtofhkmcllihgmaaGreat
set_option maxRecDepth 100000
theorem Bv:Tryz.pinned.checked.prog.mayEnter=true:=by kernel_rfl
end Go.Proofs.YtofhkmcllihgmaaGreat
