-- A text that a changed copy of the print program wrote for this claim (NOTES.md, changed print); it is not a printed text.
import Derived.Test.YtioafmnobmgdkaaDoorProg
import Derived.Below
import Derived.Deep.Draws
import Derived.Deep.AppendLies
import Derived.Maps.AppendAt
import Derived.OwnWalk
import Derived.Laws.BytesArg
import Derived.Laws.MakeOwn
import Derived.Laws.OwnMore
import Derived.Deep.OwnRows
import Derived.Tactics
import Derived.Lib.ConvBytes
import Derived.Laws.Slices
import Derived.WalkKit
import Derived.KernelRfl
import Derived.RowKit3
import Derived.Deep.LoopGhost
import Derived.Deep.QuietTactic
import Derived.BigQuiet
import Derived.WideLaws
import Derived.Deep.DeepCutAuto
import Derived.Deep.CutBlock
import Derived.Deep.RegionHeld3
import Derived.Laws.Rows
import Derived.Lib.AppendStr
import Derived.ArgAppend
import Derived.Laws.IdiomCopy
import Derived.OrdersHeld
import Derived.Laws.BitsLemmas
import Derived.RowKit
import Derived.Test.YtioafmnobmgdkaaDoorWWords
import Derived.Test.YtioafmnobmgdkaaDoorWLast
import Derived.Test.YtioafmnobmgdkaaDoorWTab
import Derived.Test.YtioafmnobmgdkaaDoorWFour
import Derived.Test.YtioafmnobmgdkaaDoorWQPut
import Derived.Test.YtioafmnobmgdkaaDoorWApart
import Derived.Test.YtioafmnobmgdkaaDoorWArr
import Derived.Test.YtioafmnobmgdkaaDoorWZeros
import Derived.Test.YtioafmnobmgdkaaDoorWFoot
import Derived.Test.YtioafmnobmgdkaaDoorWKept
import Derived.Test.YtioafmnobmgdkaaDoorWShare
import Derived.Test.YtioafmnobmgdkaaDoorWN
import Derived.Test.YtioafmnobmgdkaaDoorWFootNe
import Derived.Test.YtioafmnobmgdkaaDoorWAt
import Derived.Test.YtioafmnobmgdkaaDoorWEqStruct
import Derived.Test.YtioafmnobmgdkaaDoorWRepsOne
import Derived.Test.YtioafmnobmgdkaaDoorWInv
import Derived.Test.YtioafmnobmgdkaaDoorWInvWords
import Derived.Test.YtioafmnobmgdkaaDoorWGuard
import Derived.Test.YtioafmnobmgdkaaDoorWNEv
import Derived.Test.YtioafmnobmgdkaaDoorWMore
import Derived.Test.YtioafmnobmgdkaaDoorGivM
import Derived.Test.YtioafmnobmgdkaaDoorQMidx
namespace Go.Proofs.YtioafmnobmgdkaaDoor.QLaw
open Go.Proofs.YtioafmnobmgdkaaDoor.Given Go.Proofs.YtioafmnobmgdkaaDoor.QBase Go.Proofs.YtioafmnobmgdkaaDoor.QMid
open Go.RowKit Go.Proofs.YtioafmnobmgdkaaDoorW.PrintWords Go.Proofs.YtioafmnobmgdkaaDoorW.PrintLast Go.Proofs.YtioafmnobmgdkaaDoorW.PrintMore
attribute [local go_sem] max2_int min2_int max_two min_two max_three min_three max_four min_four   -- for this text's walks alone
set_option linter.unusedVariables false
set_option linter.unusedSimpArgs false



def errW : Option Int → Value
  | none => .nilIface
  | some c => .iface 0 (.int .i64 c)
theorem errW_none : errW none = .nilIface := rfl
theorem errW_some (c : Int) : errW (some c) = .iface 0 (.int .i64 c) := rfl

theorem info30 : (Tryd.prog.info? 30).map (fun i => (i.zero, i.size, i.bytes)) = some (some (.agg #[(.bool false), (.string ⟨#[]⟩)]), 2, 24) := by kernel_rfl
-- the values' own types

end Go.Proofs.YtioafmnobmgdkaaDoor.QLaw
