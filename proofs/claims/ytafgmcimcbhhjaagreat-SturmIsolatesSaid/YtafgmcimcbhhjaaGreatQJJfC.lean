import Derived.Test.YtafgmcimcbhhjaaGreatRows
import Derived.JoinedOf
set_option linter.unusedVariables false
namespace Go.Proofs.YtafgmcimcbhhjaaGreat
set_option maxRecDepth 100000
theorem zT:Tryz.pinned.checked.prog.make=some .cut:=by kernel_rfl
end Go.Proofs.YtafgmcimcbhhjaaGreat
