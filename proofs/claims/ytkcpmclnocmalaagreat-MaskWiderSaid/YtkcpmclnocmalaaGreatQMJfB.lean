import Derived.Test.YtkcpmclnocmalaaGreatRows
import Derived.JoinedOf
set_option linter.unusedVariables false
namespace Go.Proofs.YtkcpmclnocmalaaGreat
set_option maxRecDepth 100000
theorem Br:Tryz.pinned.checked.prog.liftsFinal=false:=by kernel_rfl
end Go.Proofs.YtkcpmclnocmalaaGreat
