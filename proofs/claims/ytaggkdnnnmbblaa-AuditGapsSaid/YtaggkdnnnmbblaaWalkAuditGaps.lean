/- AuditGaps, walked, in the row's form of its arguments. -/
import Derived.Test.YtaggkdnnnmbblaaArgsAuditGaps
import Derived.Test.YtaggkdnnnmbblaaPureAuditGaps
namespace Go.Proofs.Ytaggkdnnnmbblaa.WalkAuditGaps
set_option linter.unusedVariables false
open Go.RowKit Go.Proofs.YtaggkdnnnmbblaaW.PrintWords Go.Proofs.Ytaggkdnnnmbblaa.Given Go.Proofs.Ytaggkdnnnmbblaa.QBase Go.Proofs.Ytaggkdnnnmbblaa.QAuditGaps
open ArgsAuditGaps in
theorem ok_of {x : D22} (g : good22 x) : ∀ e ∈ x, okEv e := by
  intro e he
  obtain ⟨h0, h1, h2, h3, h4, h5, h6⟩ := g.2.2 e he
  simp [Lit.wf, IntKind.min, IntKind.max, IntKind.signed, IntKind.bits] at h0 h1 h2 h5 h6
  exact ⟨⟨by omega, by omega⟩, ⟨by omega, by omega⟩, ⟨by omega, by omega⟩, h3, h4, ⟨by omega, by omega⟩, ⟨by omega, by omega⟩⟩
open ArgsAuditGaps in
theorem walk (v : Value) (x : D22) (b : Int) (w : World) (_s : ∃ A n c, v = .slice A n c) (K : kd22.K w x v.cells.toList) (g : good22 x) (wb : (Lit.int .i64 b).wf = true) :
    Calls Try.prog 3 #[v, .int .i64 b] w fun e w' => e = .returned (.bool true) ∧ Below w.heap.size w w' := by
  obtain ⟨A, n, c, rfl⟩ := _s
  obtain ⟨A', c', hc, hl, hC⟩ := K
  simp [Value.cells] at hc
  obtain ⟨rfl, rfl, rfl⟩ := hc
  obtain ⟨k, hk⟩ := PureAuditGaps.law x b (ok_of g)
  exact decorumlaw22_AuditGaps.calls k A c x b true w hC hl rfl hk
end Go.Proofs.Ytaggkdnnnmbblaa.WalkAuditGaps
