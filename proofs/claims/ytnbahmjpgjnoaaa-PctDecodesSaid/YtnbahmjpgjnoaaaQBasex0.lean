-- A text that a changed copy of the print program wrote for this claim (NOTES.md, changed print); it is not a printed text.
import Derived.Test.YtnbahmjpgjnoaaaProg
import Derived.Below
import Derived.Deep.Draws
import Derived.Deep.AppendLies
import Derived.Maps.AppendAt
import Derived.OwnWalk
import Derived.Laws.BytesArg
import Derived.Laws.MakeOwn
import Derived.Laws.OwnMore
import Derived.Deep.OwnRows
import Derived.Tactics
import Derived.Lib.ConvBytes
import Derived.Laws.Slices
import Derived.WalkKit
import Derived.KernelRfl
import Derived.RowKit3
import Derived.Deep.LoopGhost
import Derived.Deep.QuietTactic
import Derived.BigQuiet
import Derived.WideLaws
import Derived.Deep.DeepCutAuto
import Derived.Deep.CutBlock
import Derived.Deep.RegionHeld3
import Derived.Laws.Rows
import Derived.Lib.AppendStr
import Derived.ArgAppend
import Derived.Laws.IdiomCopy
import Derived.OrdersHeld
import Derived.Laws.BitsLemmas
import Derived.RowKit
import Derived.Test.YtnbahmjpgjnoaaaWWords
import Derived.Test.YtnbahmjpgjnoaaaWLast
import Derived.Test.YtnbahmjpgjnoaaaWTab
import Derived.Test.YtnbahmjpgjnoaaaWFour
import Derived.Test.YtnbahmjpgjnoaaaWQPut
import Derived.Test.YtnbahmjpgjnoaaaWApart
import Derived.Test.YtnbahmjpgjnoaaaWArr
import Derived.Test.YtnbahmjpgjnoaaaWZeros
import Derived.Test.YtnbahmjpgjnoaaaWFoot
import Derived.Test.YtnbahmjpgjnoaaaWKept
import Derived.Test.YtnbahmjpgjnoaaaWShare
import Derived.Test.YtnbahmjpgjnoaaaWN
import Derived.Test.YtnbahmjpgjnoaaaWFootNe
import Derived.Test.YtnbahmjpgjnoaaaWAt
import Derived.Test.YtnbahmjpgjnoaaaWEqStruct
import Derived.Test.YtnbahmjpgjnoaaaWRepsOne
import Derived.Test.YtnbahmjpgjnoaaaWInv
import Derived.Test.YtnbahmjpgjnoaaaWInvWords
import Derived.Test.YtnbahmjpgjnoaaaWGuard
import Derived.Test.YtnbahmjpgjnoaaaWNEv
import Derived.Test.YtnbahmjpgjnoaaaWMore
import Derived.Test.YtnbahmjpgjnoaaaGivO
namespace Go.Proofs.Ytnbahmjpgjnoaaa.QBase
open Go.Proofs.Ytnbahmjpgjnoaaa.Given
open Go.RowKit Go.Proofs.YtnbahmjpgjnoaaaW.PrintWords Go.Proofs.YtnbahmjpgjnoaaaW.PrintLast Go.Proofs.YtnbahmjpgjnoaaaW.PrintMore
attribute [local go_sem] max2_int min2_int max_two min_two max_three min_three max_four min_four   -- for this text's walks alone
set_option linter.unusedVariables false
set_option linter.unusedSimpArgs false



def errW : Option Int → Value
  | none => .nilIface
  | some c => .iface 0 (.int .i64 c)
theorem errW_none : errW none = .nilIface := rfl
theorem errW_some (c : Int) : errW (some c) = .iface 0 (.int .i64 c) := rfl

theorem info5 : (Try.prog.info? 5).map (fun i => (i.zero, i.size, i.bytes)) = some (some (.int .u8 0), 1, 1) := by kernel_rfl
-- the values' own types

end Go.Proofs.Ytnbahmjpgjnoaaa.QBase
