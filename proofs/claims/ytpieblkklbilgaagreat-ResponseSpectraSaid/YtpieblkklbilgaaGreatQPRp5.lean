/- Series, Parallel of package response (written by gen/resp.py). -/
import Derived.Test.YtpieblkklbilgaaGreatQPRp1
import Derived.Test.YtpieblkklbilgaaGreatQPPx12
set_option linter.unusedVariables false
namespace Go.Proofs.YtpieblkklbilgaaGreat
open Go.RowKit Go.Front Go.Num Stab
attribute [local go_sem] XW.cell XW.frozen
end Go.Proofs.YtpieblkklbilgaaGreat
