import Derived.Test.YtafgmcimcbhhjaaGreatRows
import Derived.JoinedOf
set_option linter.unusedVariables false
namespace Go.Proofs.YtafgmcimcbhhjaaGreat
set_option maxRecDepth 100000
theorem zU:Tryz.pinned.checked.prog.liftsFinal=false:=by kernel_rfl
end Go.Proofs.YtafgmcimcbhhjaaGreat
