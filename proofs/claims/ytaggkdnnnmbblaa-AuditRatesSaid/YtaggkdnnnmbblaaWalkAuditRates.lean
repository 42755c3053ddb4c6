/- AuditRates, walked, in the row's form of its arguments. -/
import Derived.Test.YtaggkdnnnmbblaaArgsAuditRates
import Derived.Test.YtaggkdnnnmbblaaPureAuditRates
namespace Go.Proofs.Ytaggkdnnnmbblaa.WalkAuditRates
set_option linter.unusedVariables false
open Go.RowKit Go.Proofs.YtaggkdnnnmbblaaW.PrintWords Go.Proofs.Ytaggkdnnnmbblaa.Given Go.Proofs.Ytaggkdnnnmbblaa.QBase Go.Proofs.Ytaggkdnnnmbblaa.QAuditRates
open ArgsAuditRates in
theorem walk (v : Value) (x : D22) (b c' : Int) (w : World) (_s : ∃ A n c, v = .slice A n c) (K : kd22.K w x v.cells.toList) (g : good22 x) (wb : (Lit.int .i64 b).wf = true) (wc : (Lit.int .i64 c').wf = true) :
    Calls Try.prog 4 #[v, .int .i64 b, .int .i64 c'] w fun e w' => e = .returned (.bool true) ∧ Below w.heap.size w w' := by
  obtain ⟨A, n, c, rfl⟩ := _s
  obtain ⟨A', c1, hc, hl, hC⟩ := K
  simp [Value.cells] at hc
  obtain ⟨rfl, rfl, rfl⟩ := hc
  obtain ⟨k, hk⟩ := PureAuditRates.law x b c'
  exact decorumlaw22_AuditRates.calls k A c x b c' true w hC hl rfl hk
end Go.Proofs.Ytaggkdnnnmbblaa.WalkAuditRates
