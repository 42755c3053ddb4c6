/- AuditCounts, walked, in the row's form of its arguments. -/
import Derived.Test.YtaggkdnnnmbblaaArgsAuditCounts
import Derived.Test.YtaggkdnnnmbblaaGivE
namespace Go.Proofs.Ytaggkdnnnmbblaa.WalkAuditCounts
set_option linter.unusedVariables false
open Go.RowKit Go.Proofs.YtaggkdnnnmbblaaW.PrintWords Go.Proofs.Ytaggkdnnnmbblaa.Given Go.Proofs.Ytaggkdnnnmbblaa.QBase
open ArgsAuditCounts in
theorem ok_of {x : D22} (g : good22 x) : ∀ e ∈ x, okEv e := by
  intro e he
  obtain ⟨h0, h1, h2, h3, h4, h5, h6⟩ := g.2.2 e he
  simp [Lit.wf, IntKind.min, IntKind.max, IntKind.signed, IntKind.bits] at h0 h1 h2 h5 h6
  exact ⟨⟨by omega, by omega⟩, ⟨by omega, by omega⟩, ⟨by omega, by omega⟩, h3, h4, ⟨by omega, by omega⟩, ⟨by omega, by omega⟩⟩
open ArgsAuditCounts in
theorem walk (v : Value) (x : D22) (w : World) (_s : ∃ A n c, v = .slice A n c) (K : kd22.K w x v.cells.toList) (g : good22 x) :
    Calls Try.prog 5 #[v] w fun e w' => e = .returned (.bool true) ∧ Below w.heap.size w w' := by
  obtain ⟨A, n, c, rfl⟩ := _s
  obtain ⟨A', c1, hc, hl, hC⟩ := K
  simp [Value.cells] at hc
  obtain ⟨rfl, rfl, rfl⟩ := hc
  exact counts_law A c x w hC hl (ok_of g)
end Go.Proofs.Ytaggkdnnnmbblaa.WalkAuditCounts
