/- InternPlays, walked, in the row's form of its arguments. -/
import Derived.Test.YtihdojloghnmbaaArgsInternPlays
import Derived.Test.YtihdojloghnmbaaWalkP
namespace Go.Proofs.Ytihdojloghnmbaa.WalkInternPlays
open Go.RowKit Go.Proofs.YtihdojloghnmbaaW.PrintWords Go.Proofs.Ytihdojloghnmbaa.Given
theorem came_of {w : World} {A : Option Addr} {x : List ByteArray} (h : Kd.C Kd.string w A x.length x) : Came w A x := by
  intro i hi
  obtain ⟨ad, e, hc⟩ := h.2.2 (by omega)
  obtain ⟨c, hs, hr, hcell⟩ := hc i _ (List.getElem?_eq_getElem hi)
  refine ⟨ad, e, ?_⟩
  have hr' : c = [.string x[i]] := hr
  have := hcell 0 (.string x[i]) (by rw [hr']; rfl)
  simpa [Kd.string, Kd.scalar] using this
theorem bd_i64 {n : Int} (h : (Lit.int .i64 n).wf = true) : -9223372036854775808 ≤ n ∧ n ≤ 9223372036854775807 := by
  simp [Lit.wf, IntKind.min, IntKind.max, IntKind.signed, IntKind.bits] at h
  omega
open ArgsInternPlays in
theorem walk (a : Int) (v : Value) (x : D22) (w : World) (wa : (Lit.int .i64 a).wf = true) (_s : ∃ A n c, v = .slice A n c) (K : kd22.K w x v.cells.toList) (g : good22 x) :
    Calls Try.prog 3 #[.int .i64 a, v] w fun e w' => e = .returned (.bool true) ∧ Below w.heap.size w w' := by
  obtain ⟨A, n, c, rfl⟩ := _s
  obtain ⟨A', c', hc, hl, hC⟩ := K
  simp [Value.cells] at hc
  obtain ⟨rfl, rfl, rfl⟩ := hc
  exact plays_calls a A c x w (bd_i64 wa) (came_of hC) g.2.2
end Go.Proofs.Ytihdojloghnmbaa.WalkInternPlays
