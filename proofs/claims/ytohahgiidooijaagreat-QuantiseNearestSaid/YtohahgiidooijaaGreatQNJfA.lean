/- A fact about the program that every join needs: it may be entered. -/
import Derived.Test.YtohahgiidooijaaGreatRows
import Derived.JoinedOf
set_option linter.unusedVariables false
namespace Go.Proofs.YtohahgiidooijaaGreat
set_option maxRecDepth 100000
theorem nl:Tryz.pinned.checked.prog.mayEnter=true:=by kernel_rfl
end Go.Proofs.YtohahgiidooijaaGreat
