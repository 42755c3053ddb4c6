/- The arguments of the law PolicyPolite: what each is, and what is good of it; no condition. -/
import Derived.Test.YtdmebkdikminjaaAct0
import Derived.Test.YtdmebkdikminjaaOpen
namespace Go.Proofs.Ytdmebkdikminjaa.ArgsPolicyPolite
open Go.RowKit Go.Proofs.YtdmebkdikminjaaW.PrintWords Go.Proofs.Ytdmebkdikminjaa.Open Go.Proofs.Ytdmebkdikminjaa.Act
set_option linter.unusedVariables false
abbrev D46 : Type := (List S48)
abbrev kd46 : Kd D46 := (Kd.slice 48 k48)
def good46 (x : D46) : Prop := (x.length * 32 ≤ 140737488351232 ∧ x.length ≤ maxLen ∧ ∀ y48 ∈ x, ((Lit.int .i64 y48.f0).wf = true ∧ ((Lit.int .i64 y48.f1).wf = true ∧ ((Lit.int .i64 y48.f2).wf = true ∧ (Lit.int .i64 y48.f3).wf = true))))
set_option maxRecDepth 10000 in
theorem opens46 : Opens Try.prog 46 kd46 good46 := (opens_slice Try.underlying46 (by kernel_rfl) (b := 32) (by kernel_rfl) (opens_iso (fun x : S48 => (x.f0, x.f1, x.f2, x.f3)) (fun y => ⟨y.1, y.2.1, y.2.2.1, y.2.2.2⟩) (fun _ => rfl) (opens_struct Try.underlying48 (by kernel_rfl) (opensF_cons rfl (opens_int Try.underlying3 (by kernel_rfl)) (opensF_cons rfl (opens_int Try.underlying3 (by kernel_rfl)) (opensF_cons rfl (opens_int Try.underlying3 (by kernel_rfl)) (opensF_one rfl (opens_int Try.underlying3 (by kernel_rfl)))))))))
end Go.Proofs.Ytdmebkdikminjaa.ArgsPolicyPolite
