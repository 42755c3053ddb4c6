/- The arguments of policy's laws: what each is, and what is good of it; no condition. -/
import Derived.Test.YtdmebkdikminjaaQMidx0
import Derived.Test.YtdmebkdikminjaaOpen
namespace Go.Proofs.Ytdmebkdikminjaa.ArgsPolicy
open Go.RowKit Go.Proofs.YtdmebkdikminjaaW.PrintWords Go.Proofs.Ytdmebkdikminjaa.Open Go.Proofs.Ytdmebkdikminjaa.QMid
set_option linter.unusedVariables false
abbrev D23 : Type := (Int × Int × Int × Int × Int × Int × Int × Int × Int × Int × Int × Int × Int × ByteArray)
abbrev kd23 : Kd D23 := (Kd.pair (Kd.int .i64) (Kd.pair (Kd.int .i64) (Kd.pair (Kd.int .i64) (Kd.pair (Kd.int .i64) (Kd.pair (Kd.int .i64) (Kd.pair (Kd.int .i64) (Kd.pair (Kd.int .i64) (Kd.pair (Kd.int .i64) (Kd.pair (Kd.int .i64) (Kd.pair (Kd.int .i64) (Kd.pair (Kd.int .i64) (Kd.pair (Kd.int .i64) (Kd.pair (Kd.int .i64) Kd.string)))))))))))))
def good23 (x : D23) : Prop := ((Lit.int .i64 x.1).wf = true ∧ ((Lit.int .i64 x.2.1).wf = true ∧ ((Lit.int .i64 x.2.2.1).wf = true ∧ ((Lit.int .i64 x.2.2.2.1).wf = true ∧ ((Lit.int .i64 x.2.2.2.2.1).wf = true ∧ ((Lit.int .i64 x.2.2.2.2.2.1).wf = true ∧ ((Lit.int .i64 x.2.2.2.2.2.2.1).wf = true ∧ ((Lit.int .i64 x.2.2.2.2.2.2.2.1).wf = true ∧ ((Lit.int .i64 x.2.2.2.2.2.2.2.2.1).wf = true ∧ ((Lit.int .i64 x.2.2.2.2.2.2.2.2.2.1).wf = true ∧ ((Lit.int .i64 x.2.2.2.2.2.2.2.2.2.2.1).wf = true ∧ ((Lit.int .i64 x.2.2.2.2.2.2.2.2.2.2.2.1).wf = true ∧ ((Lit.int .i64 x.2.2.2.2.2.2.2.2.2.2.2.2.1).wf = true ∧ x.2.2.2.2.2.2.2.2.2.2.2.2.2.size ≤ 140737488351232)))))))))))))
set_option maxRecDepth 10000 in
theorem opens23 : Opens Try.prog 23 kd23 good23 := (opens_struct Try.underlying23 (by kernel_rfl) (opensF_cons rfl (opens_int Try.underlying3 (by kernel_rfl)) (opensF_cons rfl (opens_int Try.underlying3 (by kernel_rfl)) (opensF_cons rfl (opens_int Try.underlying3 (by kernel_rfl)) (opensF_cons rfl (opens_int Try.underlying3 (by kernel_rfl)) (opensF_cons rfl (opens_int Try.underlying3 (by kernel_rfl)) (opensF_cons rfl (opens_int Try.underlying3 (by kernel_rfl)) (opensF_cons rfl (opens_int Try.underlying3 (by kernel_rfl)) (opensF_cons rfl (opens_int Try.underlying3 (by kernel_rfl)) (opensF_cons rfl (opens_int Try.underlying3 (by kernel_rfl)) (opensF_cons rfl (opens_int Try.underlying3 (by kernel_rfl)) (opensF_cons rfl (opens_int Try.underlying3 (by kernel_rfl)) (opensF_cons rfl (opens_int Try.underlying3 (by kernel_rfl)) (opensF_cons rfl (opens_int Try.underlying3 (by kernel_rfl)) (opensF_one rfl (opens_string Try.underlying9 (by kernel_rfl)))))))))))))))))
abbrev D24 : Type := (List S55)
abbrev kd24 : Kd D24 := (Kd.slice 55 k55)
def good24 (x : D24) : Prop := (x.length * 24 ≤ 140737488351232 ∧ x.length ≤ maxLen ∧ ∀ y55 ∈ x, (True ∧ y55.f1.size ≤ 140737488351232))
set_option maxRecDepth 10000 in
theorem opens24 : Opens Try.prog 24 kd24 good24 := (opens_slice Try.underlying24 (by kernel_rfl) (b := 24) (by kernel_rfl) (opens_iso (fun x : S55 => (x.f0, x.f1)) (fun y => ⟨y.1, y.2⟩) (fun _ => rfl) (opens_struct Try.underlying55 (by kernel_rfl) (opensF_cons rfl (opens_bool Try.underlying4 (by kernel_rfl)) (opensF_one rfl (opens_string Try.underlying9 (by kernel_rfl)))))))
abbrev D26 : Type := (Bool × Bool × D24 × Int)
abbrev kd26 : Kd D26 := (Kd.pair Kd.bool (Kd.pair Kd.bool (Kd.pair kd24 (Kd.int .i64))))
def good26 (x : D26) : Prop := (True ∧ (True ∧ (good24 x.2.2.1 ∧ (Lit.int .i64 x.2.2.2).wf = true)))
set_option maxRecDepth 10000 in
theorem opens26 : Opens Try.prog 26 kd26 good26 := (opens_struct Try.underlying26 (by kernel_rfl) (opensF_cons rfl (opens_bool Try.underlying4 (by kernel_rfl)) (opensF_cons rfl (opens_bool Try.underlying4 (by kernel_rfl)) (opensF_cons rfl opens24 (opensF_one rfl (opens_int Try.underlying3 (by kernel_rfl)))))))
abbrev D42 : Type := (Int × Int × Int)
abbrev kd42 : Kd D42 := (Kd.pair (Kd.int .i64) (Kd.pair (Kd.int .i64) (Kd.int .i64)))
def good42 (x : D42) : Prop := ((Lit.int .i64 x.1).wf = true ∧ ((Lit.int .i64 x.2.1).wf = true ∧ (Lit.int .i64 x.2.2).wf = true))
set_option maxRecDepth 10000 in
theorem opens42 : Opens Try.prog 42 kd42 good42 := (opens_struct Try.underlying42 (by kernel_rfl) (opensF_cons rfl (opens_int Try.underlying3 (by kernel_rfl)) (opensF_cons rfl (opens_int Try.underlying3 (by kernel_rfl)) (opensF_one rfl (opens_int Try.underlying3 (by kernel_rfl))))))
abbrev D28 : Type := (Int × Int × Int × Int × Int × Int × Int × Int × Int × Int × D26)
abbrev kd28 : Kd D28 := (Kd.pair (Kd.int .i64) (Kd.pair (Kd.int .i64) (Kd.pair (Kd.int .i64) (Kd.pair (Kd.int .i64) (Kd.pair (Kd.int .i64) (Kd.pair (Kd.int .i64) (Kd.pair (Kd.int .i64) (Kd.pair (Kd.int .i64) (Kd.pair (Kd.int .i64) (Kd.pair (Kd.int .i64) kd26))))))))))
def good28 (x : D28) : Prop := (Lit.int .i64 x.1).wf = true ∧ (Lit.int .i64 x.2.1).wf = true ∧ (Lit.int .i64 x.2.2.1).wf = true ∧ (Lit.int .i64 x.2.2.2.1).wf = true ∧ (Lit.int .i64 x.2.2.2.2.1).wf = true ∧ (Lit.int .i64 x.2.2.2.2.2.1).wf = true ∧ (Lit.int .i64 x.2.2.2.2.2.2.1).wf = true ∧ (Lit.int .i64 x.2.2.2.2.2.2.2.1).wf = true ∧ (Lit.int .i64 x.2.2.2.2.2.2.2.2.1).wf = true ∧ (Lit.int .i64 x.2.2.2.2.2.2.2.2.2.1).wf = true ∧ good26 x.2.2.2.2.2.2.2.2.2.2
set_option maxRecDepth 10000 in
theorem opens28 : Opens Try.prog 28 kd28 good28 := (opens_struct Try.underlying28 (by kernel_rfl) (opensF_cons rfl (opens_int Try.underlying3 (by kernel_rfl)) (opensF_cons rfl (opens_int Try.underlying3 (by kernel_rfl)) (opensF_cons rfl (opens_int Try.underlying3 (by kernel_rfl)) (opensF_cons rfl (opens_int Try.underlying3 (by kernel_rfl)) (opensF_cons rfl (opens_int Try.underlying3 (by kernel_rfl)) (opensF_cons rfl (opens_int Try.underlying3 (by kernel_rfl)) (opensF_cons rfl (opens_int Try.underlying3 (by kernel_rfl)) (opensF_cons rfl (opens_int Try.underlying3 (by kernel_rfl)) (opensF_cons rfl (opens_int Try.underlying3 (by kernel_rfl)) (opensF_cons rfl (opens_int Try.underlying3 (by kernel_rfl)) (opensF_one rfl opens26))))))))))))
end Go.Proofs.Ytdmebkdikminjaa.ArgsPolicy
