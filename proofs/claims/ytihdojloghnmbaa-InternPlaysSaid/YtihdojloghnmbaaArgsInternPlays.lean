/- The arguments of the law InternPlays: what each is, and what is good of it; no condition. -/
import Derived.Test.YtihdojloghnmbaaPInternPlaysx0
import Derived.Test.YtihdojloghnmbaaOpen
namespace Go.Proofs.Ytihdojloghnmbaa.ArgsInternPlays
open Go.RowKit Go.Proofs.YtihdojloghnmbaaW.PrintWords Go.Proofs.Ytihdojloghnmbaa.Open Go.Proofs.Ytihdojloghnmbaa.PInternPlays
set_option linter.unusedVariables false
abbrev D22 : Type := (List ByteArray)
abbrev kd22 : Kd D22 := (Kd.slice 9 Kd.string)
def good22 (x : D22) : Prop := (x.length * 16 ≤ 140737488351232 ∧ x.length ≤ maxLen ∧ ∀ y9 ∈ x, y9.size ≤ 140737488351232)
set_option maxRecDepth 10000 in
theorem opens22 : Opens Try.prog 22 kd22 good22 := (opens_slice Try.underlying22 (by kernel_rfl) (b := 16) (by kernel_rfl) (opens_string Try.underlying9 (by kernel_rfl)))
end Go.Proofs.Ytihdojloghnmbaa.ArgsInternPlays
