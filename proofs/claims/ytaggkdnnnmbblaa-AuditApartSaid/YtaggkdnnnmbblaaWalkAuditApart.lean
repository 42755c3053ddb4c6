/- AuditApart, walked, in the row's form of its arguments. -/
import Derived.Test.YtaggkdnnnmbblaaArgsAuditApart
import Derived.Test.YtaggkdnnnmbblaaGivF
namespace Go.Proofs.Ytaggkdnnnmbblaa.WalkAuditApart
set_option linter.unusedVariables false
open Go.RowKit Go.Proofs.YtaggkdnnnmbblaaW.PrintWords Go.Proofs.Ytaggkdnnnmbblaa.Given Go.Proofs.Ytaggkdnnnmbblaa.QBase
open ArgsAuditApart in
theorem ok_of {x : D22} (g : good22 x) : ∀ e ∈ x, e.f2.f1.size ≤ 140737488351232 ∧ okEv e := by
  intro e he
  obtain ⟨h0, h1, h2, h3, h4, h5, h6⟩ := g.2.2 e he
  simp [Lit.wf, IntKind.min, IntKind.max, IntKind.signed, IntKind.bits] at h0 h1 h2 h5 h6
  exact ⟨h3, ⟨by omega, by omega⟩, ⟨by omega, by omega⟩, ⟨by omega, by omega⟩, by omega, h4, ⟨by omega, by omega⟩, ⟨by omega, by omega⟩⟩
open ArgsAuditApart in
theorem walk (v : Value) (x : D22) (u : Value) (y : D22) (f : Int) (w : World) (_s : ∃ A n c, v = .slice A n c) (K : kd22.K w x v.cells.toList) (g : good22 x) (_s2 : ∃ A n c, u = .slice A n c) (K2 : kd22.K w y u.cells.toList) (g2 : good22 y) (wf_ : (Lit.int .i64 f).wf = true) :
    Calls Try.prog 7 #[v, u, .int .i64 f] w fun e w' => e = .returned (.bool true) ∧ Below w.heap.size w w' := by
  obtain ⟨A, n, c, rfl⟩ := _s
  obtain ⟨A', c1, hc, hl, hC⟩ := K
  simp [Value.cells] at hc
  obtain ⟨rfl, rfl, rfl⟩ := hc
  obtain ⟨A2, n2, c2, rfl⟩ := _s2
  obtain ⟨A2', c2', hc2, hl2, hC2⟩ := K2
  simp [Value.cells] at hc2
  obtain ⟨rfl, rfl, rfl⟩ := hc2
  exact apart_law A A2 c c2 x y f w hC hl (ok_of g) hC2 hl2 (ok_of g2)
end Go.Proofs.Ytaggkdnnnmbblaa.WalkAuditApart
