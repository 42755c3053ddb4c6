/- The arguments of the law AuditApart: what each is, and what is good of it; no condition. -/
import Derived.Test.YtaggkdnnnmbblaaQBasex0
import Derived.Test.YtaggkdnnnmbblaaOpen
namespace Go.Proofs.Ytaggkdnnnmbblaa.ArgsAuditApart
open Go.RowKit Go.Proofs.YtaggkdnnnmbblaaW.PrintWords Go.Proofs.Ytaggkdnnnmbblaa.Open Go.Proofs.Ytaggkdnnnmbblaa.QBase
set_option linter.unusedVariables false
abbrev D22 : Type := (List S28)
abbrev kd22 : Kd D22 := (Kd.slice 28 k28)
def good22 (x : D22) : Prop := (x.length * 72 ≤ 140737488351232 ∧ x.length ≤ maxLen ∧ ∀ y28 ∈ x, ((Lit.int .i64 y28.f0).wf = true ∧ ((Lit.int .i64 y28.f1).wf = true ∧ ((Lit.int .i64 y28.f2.f0).wf = true ∧ (y28.f2.f1.size ≤ 140737488351232 ∧ (y28.f2.f2.size ≤ 140737488351232 ∧ ((Lit.int .i64 y28.f2.f3).wf = true ∧ (Lit.int .i64 y28.f2.f4).wf = true)))))))
set_option maxRecDepth 10000 in
theorem opens22 : Opens Try.prog 22 kd22 good22 := (opens_slice Try.underlying22 (by kernel_rfl) (b := 72) (by kernel_rfl) (opens_iso (fun x : S28 => (x.f0, x.f1, x.f2)) (fun y => ⟨y.1, y.2.1, y.2.2⟩) (fun _ => rfl) (opens_struct Try.underlying28 (by kernel_rfl) (opensF_cons rfl (opens_int Try.underlying3 (by kernel_rfl)) (opensF_cons rfl (opens_int Try.underlying3 (by kernel_rfl)) (opensF_one rfl (opens_iso (fun x : S26 => (x.f0, x.f1, x.f2, x.f3, x.f4)) (fun y => ⟨y.1, y.2.1, y.2.2.1, y.2.2.2.1, y.2.2.2.2⟩) (fun _ => rfl) (opens_struct Try.underlying26 (by kernel_rfl) (opensF_cons rfl (opens_int Try.underlying3 (by kernel_rfl)) (opensF_cons rfl (opens_string Try.underlying9 (by kernel_rfl)) (opensF_cons rfl (opens_string Try.underlying9 (by kernel_rfl)) (opensF_cons rfl (opens_int Try.underlying3 (by kernel_rfl)) (opensF_one rfl (opens_int Try.underlying3 (by kernel_rfl)))))))))))))))
end Go.Proofs.Ytaggkdnnnmbblaa.ArgsAuditApart
