-- A text that a changed copy of the print program wrote for this claim (NOTES.md, changed print); it is not a printed text.
import Derived.Test.YtaggkdnnnmbblaaQBasex0
import Derived.Test.YtaggkdnnnmbblaaQBasex1
import Derived.Test.YtaggkdnnnmbblaaQBasex2
import Derived.Test.YtaggkdnnnmbblaaQBasex3
namespace Go.Proofs.Ytaggkdnnnmbblaa.QBase
open Go.RowKit Go.Proofs.YtaggkdnnnmbblaaW.PrintWords Go.Proofs.YtaggkdnnnmbblaaW.PrintLast Go.Proofs.YtaggkdnnnmbblaaW.PrintMore
attribute [local go_sem] max2_int min2_int max_two min_two max_three min_three max_four min_four   -- for this text's walks alone
set_option linter.unusedVariables false
set_option linter.unusedSimpArgs false

end Go.Proofs.Ytaggkdnnnmbblaa.QBase
