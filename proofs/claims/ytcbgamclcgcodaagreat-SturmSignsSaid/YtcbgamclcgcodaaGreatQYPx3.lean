/- Eval of package poly. -/
import Derived.Test.YtcbgamclcgcodaaGreatQYM28
import Derived.Test.YtcbgamclcgcodaaGreatQYPx2
set_option linter.unusedVariables false
namespace Go.Proofs.YtcbgamclcgcodaaGreat
open Go.RowKit Go.Front Go.Num Stab
attribute [local go_sem] XW.cell XW.frozen
end Go.Proofs.YtcbgamclcgcodaaGreat
