-- A text that a changed copy of the print program wrote for this claim (NOTES.md, changed print); it is not a printed text.
import Derived.Test.YtaggkdnnnmbblaaProg
import Derived.Below
import Derived.Deep.Draws
import Derived.Deep.AppendLies
import Derived.Maps.AppendAt
import Derived.OwnWalk
import Derived.Laws.BytesArg
import Derived.Laws.MakeOwn
import Derived.Laws.OwnMore
import Derived.Deep.OwnRows
import Derived.Tactics
import Derived.Lib.ConvBytes
import Derived.Laws.Slices
import Derived.WalkKit
import Derived.KernelRfl
import Derived.RowKit3
import Derived.Deep.LoopGhost
import Derived.Deep.QuietTactic
import Derived.BigQuiet
import Derived.WideLaws
import Derived.Deep.DeepCutAuto
import Derived.Deep.CutBlock
import Derived.Deep.RegionHeld3
import Derived.Laws.Rows
import Derived.Lib.AppendStr
import Derived.ArgAppend
import Derived.Laws.IdiomCopy
import Derived.OrdersHeld
import Derived.Laws.BitsLemmas
import Derived.RowKit
import Derived.Test.YtaggkdnnnmbblaaWWords
import Derived.Test.YtaggkdnnnmbblaaWLast
import Derived.Test.YtaggkdnnnmbblaaWTab
import Derived.Test.YtaggkdnnnmbblaaWFour
import Derived.Test.YtaggkdnnnmbblaaWQPut
import Derived.Test.YtaggkdnnnmbblaaWApart
import Derived.Test.YtaggkdnnnmbblaaWArr
import Derived.Test.YtaggkdnnnmbblaaWZeros
import Derived.Test.YtaggkdnnnmbblaaWFoot
import Derived.Test.YtaggkdnnnmbblaaWKept
import Derived.Test.YtaggkdnnnmbblaaWShare
import Derived.Test.YtaggkdnnnmbblaaWN
import Derived.Test.YtaggkdnnnmbblaaWFootNe
import Derived.Test.YtaggkdnnnmbblaaWAt
import Derived.Test.YtaggkdnnnmbblaaWEqStruct
import Derived.Test.YtaggkdnnnmbblaaWRepsOne
import Derived.Test.YtaggkdnnnmbblaaWInv
import Derived.Test.YtaggkdnnnmbblaaWInvWords
import Derived.Test.YtaggkdnnnmbblaaWGuard
import Derived.Test.YtaggkdnnnmbblaaWNEv
import Derived.Test.YtaggkdnnnmbblaaWMore
import Derived.Test.YtaggkdnnnmbblaaGivD
namespace Go.Proofs.Ytaggkdnnnmbblaa.QAuditRates
open Go.Proofs.Ytaggkdnnnmbblaa.Given Go.Proofs.Ytaggkdnnnmbblaa.QBase
open Go.RowKit Go.Proofs.YtaggkdnnnmbblaaW.PrintWords Go.Proofs.YtaggkdnnnmbblaaW.PrintLast Go.Proofs.YtaggkdnnnmbblaaW.PrintMore
attribute [local go_sem] max2_int min2_int max_two min_two max_three min_three max_four min_four   -- for this text's walks alone
set_option linter.unusedVariables false
set_option linter.unusedSimpArgs false



def errW : Option Int → Value
  | none => .nilIface
  | some c => .iface 0 (.int .i64 c)
theorem errW_none : errW none = .nilIface := rfl
theorem errW_some (c : Int) : errW (some c) = .iface 0 (.int .i64 c) := rfl

theorem info28 : (Try.prog.info? 28).map (fun i => (i.zero, i.size, i.bytes)) = some (some (.agg #[(.int .i64 0), (.int .i64 0), (.int .i64 0), (.string ⟨#[]⟩), (.string ⟨#[]⟩), (.int .i64 0), (.int .i64 0)]), 7, 72) := by kernel_rfl
-- the values' own types

end Go.Proofs.Ytaggkdnnnmbblaa.QAuditRates
