-- A text that a changed copy of the print program wrote for this claim (NOTES.md, changed print); it is not a printed text.
import Derived.Test.YtioafmnobmgdkaaDoorQMidx0
import Derived.Test.YtioafmnobmgdkaaDoorQMidx1
import Derived.Test.YtioafmnobmgdkaaDoorQMidx2
import Derived.Test.YtioafmnobmgdkaaDoorQMidx3
import Derived.Test.YtioafmnobmgdkaaDoorQMidx4
import Derived.Test.YtioafmnobmgdkaaDoorQMidx5
namespace Go.Proofs.YtioafmnobmgdkaaDoor.QMid
open Go.Proofs.YtioafmnobmgdkaaDoor.Given Go.Proofs.YtioafmnobmgdkaaDoor.QBase
open Go.RowKit Go.Proofs.YtioafmnobmgdkaaDoorW.PrintWords Go.Proofs.YtioafmnobmgdkaaDoorW.PrintLast Go.Proofs.YtioafmnobmgdkaaDoorW.PrintMore
attribute [local go_sem] max2_int min2_int max_two min_two max_three min_three max_four min_four   -- for this text's walks alone
set_option linter.unusedVariables false
set_option linter.unusedSimpArgs false

end Go.Proofs.YtioafmnobmgdkaaDoor.QMid
