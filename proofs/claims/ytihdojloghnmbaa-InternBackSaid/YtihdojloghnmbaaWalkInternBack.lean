/- InternBack, walked, in the row's form of its argument. -/
import Derived.Test.YtihdojloghnmbaaArgsInternBack
import Derived.Test.YtihdojloghnmbaaWalkB
namespace Go.Proofs.Ytihdojloghnmbaa.WalkInternBack
open Go.RowKit Go.Proofs.YtihdojloghnmbaaW.PrintWords Go.Proofs.Ytihdojloghnmbaa.Given
theorem came_of {w : World} {A : Option Addr} {x : List ByteArray} (h : Kd.C Kd.string w A x.length x) : Came w A x := by
  intro i hi
  obtain ⟨ad, e, hc⟩ := h.2.2 (by omega)
  obtain ⟨c, hs, hr, hcell⟩ := hc i _ (List.getElem?_eq_getElem hi)
  refine ⟨ad, e, ?_⟩
  have hr' : c = [.string x[i]] := hr
  have := hcell 0 (.string x[i]) (by rw [hr']; rfl)
  simpa [Kd.string, Kd.scalar] using this
open ArgsInternBack in
theorem walk (v : Value) (x : D22) (w : World) (_s : ∃ A n c, v = .slice A n c) (K : kd22.K w x v.cells.toList) (g : good22 x) :
    Calls Try.prog 5 #[v] w fun e w' => e = .returned (.bool true) ∧ Below w.heap.size w w' := by
  obtain ⟨A, n, c, rfl⟩ := _s
  obtain ⟨A', c', hc, hl, hC⟩ := K
  simp [Value.cells] at hc
  obtain ⟨rfl, rfl, rfl⟩ := hc
  exact back_calls A c x w (came_of hC) g.2.2
end Go.Proofs.Ytihdojloghnmbaa.WalkInternBack
