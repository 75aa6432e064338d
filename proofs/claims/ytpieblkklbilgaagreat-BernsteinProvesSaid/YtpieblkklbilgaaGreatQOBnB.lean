/- Package bernstein: Bound. -/
import Derived.Test.YtpieblkklbilgaaGreatQOBnA
import Derived.Test.YtpieblkklbilgaaGreatQOPow
import Derived.Laws.EntriesVeiled
set_option linter.unusedVariables false
namespace Go.Proofs.YtpieblkklbilgaaGreat
open Go.RowKit Go.Front Go.Num Stab
attribute [local go_sem] XW.cell XW.frozen
end Go.Proofs.YtpieblkklbilgaaGreat
