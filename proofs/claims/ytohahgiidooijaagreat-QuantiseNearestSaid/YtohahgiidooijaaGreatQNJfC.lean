/- A fact about the program that every join needs: how it was made. -/
import Derived.Test.YtohahgiidooijaaGreatRows
import Derived.JoinedOf
set_option linter.unusedVariables false
namespace Go.Proofs.YtohahgiidooijaaGreat
set_option maxRecDepth 100000
theorem mC:Tryz.pinned.checked.prog.make=some .cut:=by kernel_rfl
end Go.Proofs.YtohahgiidooijaaGreat
