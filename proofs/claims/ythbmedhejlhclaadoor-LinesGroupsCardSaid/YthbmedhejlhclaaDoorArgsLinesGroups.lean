/- The arguments of the law LinesGroups: what each is, and what is good of it; no condition. -/
import Derived.Test.YthbmedhejlhclaaDoorQBasex0
import Derived.Test.YthbmedhejlhclaaDoorOpen
namespace Go.Proofs.YthbmedhejlhclaaDoor.ArgsLinesGroups
open Go.RowKit Go.Proofs.YthbmedhejlhclaaDoorW.PrintWords Go.Proofs.YthbmedhejlhclaaDoor.Open Go.Proofs.YthbmedhejlhclaaDoor.QBase
set_option linter.unusedVariables false
abbrev D24 : Type := (List S40)
abbrev kd24 : Kd D24 := (Kd.slice 40 k40)
def good24 (x : D24) : Prop := (x.length * 32 ≤ 140737488351232 ∧ x.length ≤ maxLen ∧ ∀ y40 ∈ x, (y40.f0.size ≤ 140737488351232 ∧ y40.f1.size ≤ 140737488351232))
set_option maxRecDepth 10000 in
theorem opens24 : Opens Tryd.prog 24 kd24 good24 := (opens_slice Tryd.underlying24 (by kernel_rfl) (b := 32) (by kernel_rfl) (opens_iso (fun x : S40 => (x.f0, x.f1)) (fun y => ⟨y.1, y.2⟩) (fun _ => rfl) (opens_struct Tryd.underlying40 (by kernel_rfl) (opensF_cons rfl (opens_string Tryd.underlying9 (by kernel_rfl)) (opensF_one rfl (opens_string Tryd.underlying9 (by kernel_rfl)))))))
end Go.Proofs.YthbmedhejlhclaaDoor.ArgsLinesGroups
