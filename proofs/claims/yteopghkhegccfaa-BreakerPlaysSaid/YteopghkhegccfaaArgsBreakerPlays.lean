/- The arguments of the law BreakerPlays: what each is, and what is good of it; no condition. -/
import Derived.Test.YteopghkhegccfaaQBreakerPlaysx0
import Derived.Test.YteopghkhegccfaaOpen
namespace Go.Proofs.Yteopghkhegccfaa.ArgsBreakerPlays
open Go.RowKit Go.Proofs.YteopghkhegccfaaW.PrintWords Go.Proofs.Yteopghkhegccfaa.Open Go.Proofs.Yteopghkhegccfaa.QBreakerPlays
set_option linter.unusedVariables false
abbrev D31 : Type := (Int × Int × Int)
abbrev kd31 : Kd D31 := (Kd.pair (Kd.int .i64) (Kd.pair (Kd.int .i64) (Kd.int .i64)))
def good31 (x : D31) : Prop := ((Lit.int .i64 x.1).wf = true ∧ ((Lit.int .i64 x.2.1).wf = true ∧ (Lit.int .i64 x.2.2).wf = true))
set_option maxRecDepth 10000 in
theorem opens31 : Opens Try.prog 31 kd31 good31 := (opens_struct Try.underlying31 (by kernel_rfl) (opensF_cons rfl (opens_int Try.underlying3 (by kernel_rfl)) (opensF_cons rfl (opens_int Try.underlying3 (by kernel_rfl)) (opensF_one rfl (opens_int Try.underlying3 (by kernel_rfl))))))
end Go.Proofs.Yteopghkhegccfaa.ArgsBreakerPlays
