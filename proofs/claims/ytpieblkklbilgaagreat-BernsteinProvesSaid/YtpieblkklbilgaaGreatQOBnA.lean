/- Package bernstein: the closure of Bound. -/
import Derived.Test.YtpieblkklbilgaaGreatQOBnR
set_option linter.unusedVariables false
namespace Go.Proofs.YtpieblkklbilgaaGreat
open Go.RowKit Go.Front Go.Num Stab
attribute [local go_sem] XW.cell XW.frozen
end Go.Proofs.YtpieblkklbilgaaGreat
