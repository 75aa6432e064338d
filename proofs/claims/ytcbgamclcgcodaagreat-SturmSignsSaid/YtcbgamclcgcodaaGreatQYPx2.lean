/- Mul of package poly. -/
import Derived.Test.YtcbgamclcgcodaaGreatQYPx1
import Derived.Test.YtcbgamclcgcodaaGreatQYM27
set_option linter.unusedVariables false
namespace Go.Proofs.YtcbgamclcgcodaaGreat
open Go.RowKit Go.Front Go.Num Stab
attribute [local go_sem] XW.cell XW.frozen
end Go.Proofs.YtcbgamclcgcodaaGreat
