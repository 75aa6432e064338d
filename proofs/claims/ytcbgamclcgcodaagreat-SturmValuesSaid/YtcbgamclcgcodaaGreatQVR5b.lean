/- Degree, Scale, Sub of the reference 05. -/
import Derived.Test.YtcbgamclcgcodaaGreatQVM11
import Derived.Test.YtcbgamclcgcodaaGreatQVM7
set_option linter.unusedVariables false
namespace Go.Proofs.YtcbgamclcgcodaaGreat
open Go.RowKit Go.Front Go.Num
attribute [local go_sem] XW.cell XW.frozen
def scale5V (ps:List Rat) (c:Rat):List Rat:=tz (ps.map (· * c))
end Go.Proofs.YtcbgamclcgcodaaGreat
