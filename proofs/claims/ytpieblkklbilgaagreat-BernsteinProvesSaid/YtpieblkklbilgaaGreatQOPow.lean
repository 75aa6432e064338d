/- Powers and binomial coefficients. -/
import Derived.Test.YtpieblkklbilgaaGreatQOM17
import Derived.Test.YtpieblkklbilgaaGreatQOM10
set_option linter.unusedVariables false
namespace Go.Proofs.YtpieblkklbilgaaGreat
open Go.RowKit Go.Front Go.Num
attribute [local go_sem] XW.cell XW.frozen
end Go.Proofs.YtpieblkklbilgaaGreat
