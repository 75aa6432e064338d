/- Facts about the program that every join needs: it is laid out, its maps have rows, its keys are plain, its stops are heard. -/
import Derived.Test.YtafgmcimcbhhjaaGreatRows
import Derived.JoinedOf
set_option linter.unusedVariables false
namespace Go.Proofs.YtafgmcimcbhhjaaGreat
set_option maxRecDepth 100000
theorem yr:laidOutB Tryz.pinned.checked.prog=true:=by kernel_rfl
theorem yj:mapsRowed Tryz.pinned.checked.prog=true:=by kernel_rfl
theorem vt:Tryz.pinned.checked.prog.stopsHeard=true:=by kernel_rfl
theorem gM{a b:Bool}(h:a=true)(k:b=true):(a && b)=true:=by rw [h,k];rfl
end Go.Proofs.YtafgmcimcbhhjaaGreat
