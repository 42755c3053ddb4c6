/- The arguments of the law MatchOrder: what each is, and what is good of it; no condition. -/
import Derived.Test.YtioafmnobmgdkaaDoorQMidx0
import Derived.Test.YtioafmnobmgdkaaDoorOpen
namespace Go.Proofs.YtioafmnobmgdkaaDoor.ArgsMatchOrder
open Go.RowKit Go.Proofs.YtioafmnobmgdkaaDoorW.PrintWords Go.Proofs.YtioafmnobmgdkaaDoor.Open Go.Proofs.YtioafmnobmgdkaaDoor.QMid
set_option linter.unusedVariables false
abbrev D25 : Type := (List S30)
abbrev kd25 : Kd D25 := (Kd.slice 30 k30)
def good25 (x : D25) : Prop := (x.length * 24 ≤ 140737488351232 ∧ x.length ≤ maxLen ∧ ∀ y30 ∈ x, (True ∧ y30.f1.size ≤ 140737488351232))
set_option maxRecDepth 10000 in
theorem opens25 : Opens Tryd.prog 25 kd25 good25 := (opens_slice Tryd.underlying25 (by kernel_rfl) (b := 24) (by kernel_rfl) (opens_iso (fun x : S30 => (x.f0, x.f1)) (fun y => ⟨y.1, y.2⟩) (fun _ => rfl) (opens_struct Tryd.underlying30 (by kernel_rfl) (opensF_cons rfl (opens_bool Tryd.underlying4 (by kernel_rfl)) (opensF_one rfl (opens_string Tryd.underlying9 (by kernel_rfl)))))))
end Go.Proofs.YtioafmnobmgdkaaDoor.ArgsMatchOrder
