-- A text that a changed copy of the print program wrote for this claim (NOTES.md, changed print); it is not a printed text.
import Derived.Test.YtobepponcolciaaProg
import Derived.Below
import Derived.Deep.Draws
import Derived.Deep.AppendLies
import Derived.Maps.AppendAt
import Derived.OwnWalk
import Derived.Laws.BytesArg
import Derived.Laws.MakeOwn
import Derived.Laws.OwnMore
import Derived.Deep.OwnRows
import Derived.Tactics
import Derived.Lib.ConvBytes
import Derived.Laws.Slices
import Derived.WalkKit
import Derived.KernelRfl
import Derived.RowKit3
import Derived.Deep.LoopGhost
import Derived.Deep.QuietTactic
import Derived.BigQuiet
import Derived.WideLaws
import Derived.Deep.DeepCutAuto
import Derived.Deep.CutBlock
import Derived.Deep.RegionHeld3
import Derived.Laws.Rows
import Derived.Lib.AppendStr
import Derived.ArgAppend
import Derived.Laws.IdiomCopy
import Derived.OrdersHeld
import Derived.Laws.BitsLemmas
import Derived.RowKit
import Derived.Test.YtobepponcolciaaWWords
import Derived.Test.YtobepponcolciaaWLast
import Derived.Test.YtobepponcolciaaWTab
import Derived.Test.YtobepponcolciaaWFour
import Derived.Test.YtobepponcolciaaWQPut
import Derived.Test.YtobepponcolciaaWApart
import Derived.Test.YtobepponcolciaaWArr
import Derived.Test.YtobepponcolciaaWZeros
import Derived.Test.YtobepponcolciaaWFoot
import Derived.Test.YtobepponcolciaaWKept
import Derived.Test.YtobepponcolciaaWShare
import Derived.Test.YtobepponcolciaaWN
import Derived.Test.YtobepponcolciaaWFootNe
import Derived.Test.YtobepponcolciaaWAt
import Derived.Test.YtobepponcolciaaWEqStruct
import Derived.Test.YtobepponcolciaaWRepsOne
import Derived.Test.YtobepponcolciaaWInv
import Derived.Test.YtobepponcolciaaWInvWords
import Derived.Test.YtobepponcolciaaWGuard
import Derived.Test.YtobepponcolciaaWNEv
import Derived.Test.YtobepponcolciaaWMore
namespace Go.Proofs.Ytobepponcolciaa.QTickAdds
open Go.RowKit Go.Proofs.YtobepponcolciaaW.PrintWords Go.Proofs.YtobepponcolciaaW.PrintLast Go.Proofs.YtobepponcolciaaW.PrintMore
attribute [local go_sem] max2_int min2_int max_two min_two max_three min_three max_four min_four   -- for this text's walks alone
set_option linter.unusedVariables false
set_option linter.unusedSimpArgs false



def errW : Option Int → Value
  | none => .nilIface
  | some c => .iface 0 (.int .i64 c)
theorem errW_none : errW none = .nilIface := rfl
theorem errW_some (c : Int) : errW (some c) = .iface 0 (.int .i64 c) := rfl

-- the values' own types

end Go.Proofs.Ytobepponcolciaa.QTickAdds
