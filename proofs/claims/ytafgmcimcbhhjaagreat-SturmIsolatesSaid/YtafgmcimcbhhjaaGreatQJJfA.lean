import Derived.Test.YtafgmcimcbhhjaaGreatRows
import Derived.JoinedOf
set_option linter.unusedVariables false
namespace Go.Proofs.YtafgmcimcbhhjaaGreat
set_option maxRecDepth 100000
theorem BM:Tryz.pinned.checked.prog.mayEnter=true:=by kernel_rfl
end Go.Proofs.YtafgmcimcbhhjaaGreat
