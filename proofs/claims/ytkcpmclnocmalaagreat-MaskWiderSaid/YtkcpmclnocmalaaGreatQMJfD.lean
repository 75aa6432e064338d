import Derived.Test.YtkcpmclnocmalaaGreatRows
import Derived.JoinedOf
set_option linter.unusedVariables false
namespace Go.Proofs.YtkcpmclnocmalaaGreat
set_option maxRecDepth 100000
theorem Bs:laidOutB Tryz.pinned.checked.prog=true:=by kernel_rfl
theorem Bp:mapsRowed Tryz.pinned.checked.prog=true:=by kernel_rfl
theorem yp:Tryz.pinned.checked.prog.stopsHeard=true:=by kernel_rfl
theorem iK{a b:Bool}(h:a=true)(k:b=true):(a && b)=true:=by rw [h,k];rfl
end Go.Proofs.YtkcpmclnocmalaaGreat
