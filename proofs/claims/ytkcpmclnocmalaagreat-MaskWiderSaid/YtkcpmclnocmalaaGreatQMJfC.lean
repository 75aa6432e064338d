import Derived.Test.YtkcpmclnocmalaaGreatRows
import Derived.JoinedOf
set_option linter.unusedVariables false
namespace Go.Proofs.YtkcpmclnocmalaaGreat
set_option maxRecDepth 100000
theorem Bq:Tryz.pinned.checked.prog.make=some .cut:=by kernel_rfl
end Go.Proofs.YtkcpmclnocmalaaGreat
