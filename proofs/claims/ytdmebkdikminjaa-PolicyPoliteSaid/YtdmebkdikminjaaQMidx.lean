-- A text that a changed copy of the print program wrote for this claim (NOTES.md, changed print); it is not a printed text.
import Derived.Test.YtdmebkdikminjaaQMidx0
import Derived.Test.YtdmebkdikminjaaQMidx1
import Derived.Test.YtdmebkdikminjaaQMidx2
import Derived.Test.YtdmebkdikminjaaQMidx3
import Derived.Test.YtdmebkdikminjaaQMidx4
namespace Go.Proofs.Ytdmebkdikminjaa.QMid
open Go.Proofs.Ytdmebkdikminjaa.QBase
open Go.RowKit Go.Proofs.YtdmebkdikminjaaW.PrintWords Go.Proofs.YtdmebkdikminjaaW.PrintLast Go.Proofs.YtdmebkdikminjaaW.PrintMore
attribute [local go_sem] max2_int min2_int max_two min_two max_three min_three max_four min_four   -- for this text's walks alone
set_option linter.unusedVariables false
set_option linter.unusedSimpArgs false

end Go.Proofs.Ytdmebkdikminjaa.QMid
