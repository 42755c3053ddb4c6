-- A text that a changed copy of the print program wrote for this claim (NOTES.md, changed print); it is not a printed text.
import Derived.Test.YteopghkhegccfaaProg
import Derived.Below
import Derived.Deep.Draws
import Derived.Deep.AppendLies
import Derived.Maps.AppendAt
import Derived.OwnWalk
import Derived.Laws.BytesArg
import Derived.Laws.MakeOwn
import Derived.Laws.OwnMore
import Derived.Deep.OwnRows
import Derived.Tactics
import Derived.Lib.ConvBytes
import Derived.Laws.Slices
import Derived.WalkKit
import Derived.KernelRfl
import Derived.RowKit3
import Derived.Deep.LoopGhost
import Derived.Deep.QuietTactic
import Derived.BigQuiet
import Derived.WideLaws
import Derived.Deep.DeepCutAuto
import Derived.Deep.CutBlock
import Derived.Deep.RegionHeld3
import Derived.Laws.Rows
import Derived.Lib.AppendStr
import Derived.ArgAppend
import Derived.Laws.IdiomCopy
import Derived.OrdersHeld
import Derived.Laws.BitsLemmas
import Derived.RowKit
import Derived.Test.YteopghkhegccfaaWWords
import Derived.Test.YteopghkhegccfaaWLast
import Derived.Test.YteopghkhegccfaaWTab
import Derived.Test.YteopghkhegccfaaWFour
import Derived.Test.YteopghkhegccfaaWQPut
import Derived.Test.YteopghkhegccfaaWApart
import Derived.Test.YteopghkhegccfaaWArr
import Derived.Test.YteopghkhegccfaaWZeros
import Derived.Test.YteopghkhegccfaaWFoot
import Derived.Test.YteopghkhegccfaaWKept
import Derived.Test.YteopghkhegccfaaWShare
import Derived.Test.YteopghkhegccfaaWN
import Derived.Test.YteopghkhegccfaaWFootNe
import Derived.Test.YteopghkhegccfaaWAt
import Derived.Test.YteopghkhegccfaaWEqStruct
import Derived.Test.YteopghkhegccfaaWRepsOne
import Derived.Test.YteopghkhegccfaaWInv
import Derived.Test.YteopghkhegccfaaWInvWords
import Derived.Test.YteopghkhegccfaaWGuard
import Derived.Test.YteopghkhegccfaaWNEv
import Derived.Test.YteopghkhegccfaaWMore
namespace Go.Proofs.Yteopghkhegccfaa.QBreakerPlays
open Go.RowKit Go.Proofs.YteopghkhegccfaaW.PrintWords Go.Proofs.YteopghkhegccfaaW.PrintLast Go.Proofs.YteopghkhegccfaaW.PrintMore
attribute [local go_sem] max2_int min2_int max_two min_two max_three min_three max_four min_four   -- for this text's walks alone
set_option linter.unusedVariables false
set_option linter.unusedSimpArgs false



def errW : Option Int → Value
  | none => .nilIface
  | some c => .iface 0 (.int .i64 c)
theorem errW_none : errW none = .nilIface := rfl
theorem errW_some (c : Int) : errW (some c) = .iface 0 (.int .i64 c) := rfl

-- the values' own types

end Go.Proofs.Yteopghkhegccfaa.QBreakerPlays
