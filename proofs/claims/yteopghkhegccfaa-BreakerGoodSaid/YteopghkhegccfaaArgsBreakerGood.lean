/- The arguments of the law BreakerGood: what each is, and what is good of it; no condition. -/
import Derived.Test.YteopghkhegccfaaPBreakerGoodx0
import Derived.Test.YteopghkhegccfaaOpen
namespace Go.Proofs.Yteopghkhegccfaa.ArgsBreakerGood
open Go.RowKit Go.Proofs.YteopghkhegccfaaW.PrintWords Go.Proofs.Yteopghkhegccfaa.Open Go.Proofs.Yteopghkhegccfaa.PBreakerGood
set_option linter.unusedVariables false
abbrev D39 : Type := (List Bool)
abbrev kd39 : Kd D39 := (Kd.slice 4 Kd.bool)
def good39 (x : D39) : Prop := (x.length * 1 ≤ 140737488351232 ∧ x.length ≤ maxLen ∧ ∀ y4 ∈ x, True)
set_option maxRecDepth 10000 in
theorem opens39 : Opens Try.prog 39 kd39 good39 := (opens_slice Try.underlying39 (by kernel_rfl) (b := 1) (by kernel_rfl) (opens_bool Try.underlying4 (by kernel_rfl)))
end Go.Proofs.Yteopghkhegccfaa.ArgsBreakerGood
