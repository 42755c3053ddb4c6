/- AuditLess, walked, in the row's form of its arguments. -/
import Derived.Test.YtaggkdnnnmbblaaArgsAuditLess
import Derived.Test.YtaggkdnnnmbblaaPureAuditLess
namespace Go.Proofs.Ytaggkdnnnmbblaa.WalkAuditLess
set_option linter.unusedVariables false
open Go.RowKit Go.Proofs.YtaggkdnnnmbblaaW.PrintWords Go.Proofs.Ytaggkdnnnmbblaa.Given Go.Proofs.Ytaggkdnnnmbblaa.QBase Go.Proofs.Ytaggkdnnnmbblaa.QAuditLess
open ArgsAuditLess in
theorem ok_of {x : D22} (g : good22 x) : ∀ e ∈ x, okEv e := by
  intro e he
  obtain ⟨h0, h1, h2, h3, h4, h5, h6⟩ := g.2.2 e he
  simp [Lit.wf, IntKind.min, IntKind.max, IntKind.signed, IntKind.bits] at h0 h1 h2 h5 h6
  exact ⟨⟨by omega, by omega⟩, ⟨by omega, by omega⟩, ⟨by omega, by omega⟩, h3, h4, ⟨by omega, by omega⟩, ⟨by omega, by omega⟩⟩
theorem bd16 {n : Int} (h : (Lit.int .u16 n).wf = true) : 0 ≤ n ∧ n ≤ 65535 := by
  simp [Lit.wf, IntKind.min, IntKind.max, IntKind.signed, IntKind.bits] at h
  omega
theorem bd8 {n : Int} (h : (Lit.int .u8 n).wf = true) : 0 ≤ n ∧ n ≤ 255 := by
  simp [Lit.wf, IntKind.min, IntKind.max, IntKind.signed, IntKind.bits] at h
  omega
open ArgsAuditLess in
theorem walk (v : Value) (x : D22) (a1 a2 a3 a4 : Int) (w : World) (_s : ∃ A n c, v = .slice A n c) (K : kd22.K w x v.cells.toList) (g : good22 x) (w1 : (Lit.int .u16 a1).wf = true) (w2 : (Lit.int .u16 a2).wf = true) (w3 : (Lit.int .u16 a3).wf = true) (w4 : (Lit.int .u8 a4).wf = true) :
    Calls Try.prog 6 #[v, .int .u16 a1, .int .u16 a2, .int .u16 a3, .int .u8 a4] w fun e w' => e = .returned (.bool true) ∧ Below w.heap.size w w' := by
  obtain ⟨A, n, c, rfl⟩ := _s
  obtain ⟨A', c1, hc, hl, hC⟩ := K
  simp [Value.cells] at hc
  obtain ⟨rfl, rfl, rfl⟩ := hc
  obtain ⟨k, hk⟩ := PureAuditLess.law x (ok_of g) a1 a2 a3 a4 (bd16 w1) (bd16 w2) (bd16 w3) (bd8 w4)
  exact decorumlaw22_AuditLess.calls k A c x a1 a2 a3 a4 true w hC hl rfl hk
end Go.Proofs.Ytaggkdnnnmbblaa.WalkAuditLess
