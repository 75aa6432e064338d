import Derived.Test.YtafgmcimcbhhjaaGreatRows
import Derived.JoinedOf
set_option linter.unusedVariables false
namespace Go.Proofs.YtafgmcimcbhhjaaGreat
set_option maxRecDepth 100000
theorem zV:laidOutB Tryz.pinned.checked.prog=true:=by kernel_rfl
theorem zS:mapsRowed Tryz.pinned.checked.prog=true:=by kernel_rfl
theorem wK:Tryz.pinned.checked.prog.stopsHeard=true:=by kernel_rfl
theorem iD{a b:Bool}(h:a=true)(k:b=true):(a && b)=true:=by rw [h,k];rfl
end Go.Proofs.YtafgmcimcbhhjaaGreat
