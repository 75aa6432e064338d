/- Facts about the program that every join needs: it is laid out, its maps have rows, its keys are plain, its stops are heard. -/
import Derived.Test.YteafdebcihbjdaaGreatRows
import Derived.JoinedOf
set_option linter.unusedVariables false
namespace Go.Proofs.YteafdebcihbjdaaGreat
set_option maxRecDepth 100000
theorem pf_laid : laidOutB Tryz.pinned.checked.prog = true := by kernel_rfl
theorem pf_maps : mapsRowed Tryz.pinned.checked.prog = true := by kernel_rfl
theorem pf_stops : Tryz.pinned.checked.prog.stopsHeard = true := by kernel_rfl
theorem andI {a b : Bool} (h : a = true) (k : b = true) : (a && b) = true := by rw [h, k]; rfl
end Go.Proofs.YteafdebcihbjdaaGreat
