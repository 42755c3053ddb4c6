-- A text that a changed copy of the print program wrote for this claim (NOTES.md, changed print); it is not a printed text.
import Derived.Test.YtnbahmjpgjnoaaaQMidx0
import Derived.Test.YtnbahmjpgjnoaaaQMidx1
import Derived.Test.YtnbahmjpgjnoaaaQMidx2
import Derived.Test.YtnbahmjpgjnoaaaQMidx3
namespace Go.Proofs.Ytnbahmjpgjnoaaa.QMid
open Go.Proofs.Ytnbahmjpgjnoaaa.Given Go.Proofs.Ytnbahmjpgjnoaaa.QBase
open Go.RowKit Go.Proofs.YtnbahmjpgjnoaaaW.PrintWords Go.Proofs.YtnbahmjpgjnoaaaW.PrintLast Go.Proofs.YtnbahmjpgjnoaaaW.PrintMore
attribute [local go_sem] max2_int min2_int max_two min_two max_three min_three max_four min_four   -- for this text's walks alone
set_option linter.unusedVariables false
set_option linter.unusedSimpArgs false

end Go.Proofs.Ytnbahmjpgjnoaaa.QMid
