/- LinesDelays: the plain law. -/
import Derived.Test.YthbmedhejlhclaaDoorQLawx3
import Derived.Test.YthbmedhejlhclaaDoorPureD
namespace Go.Proofs.YthbmedhejlhclaaDoor.Pure
open Go.RowKit Go.Proofs.YthbmedhejlhclaaDoor.QBase Go.Proofs.YthbmedhejlhclaaDoor.Given Go.Proofs.YthbmedhejlhclaaDoor.QLaw Go.Proofs.YthbmedhejlhclaaDoorW.PrintWords Go.Proofs.YthbmedhejlhclaaDoorW.PrintLast
set_option linter.unusedVariables false

theorem awake_f : decorumlaw09_awake.f = some true := by decide +kernel
theorem ref_delay (x : ByteArray) (hx : x.size < 1099511627776) : ∃ k0, ∀ k, k0 ≤ k → decorumref09_Delay.f k x = some (((refL x.data.toList 0 0 false 0).1 : Int), (refL x.data.toList 0 0 false 0).2) :=
  ⟨4 * x.data.toList.length + 1, fun k hk => refD x hx x.data.toList 0 0 0 false 0 k rfl (Nat.zero_le _) (by omega) (.inl ⟨by decide, rfl, rfl⟩) (by omega) hk⟩
theorem delays_j (x : ByteArray) (hx : x.size ≤ 200) : ∃ k, decorumlaw09_LinesDelays.j0 k x = some true := by
  obtain ⟨k, hk⟩ := ref_delay x (by omega)
  refine ⟨k + 1, ?_⟩
  have h1 : lines_Delay.f x = some (((delayV x.data.toList).1 : Int), (delayV x.data.toList).2) := by rw [lines_Delay.f, if_pos (by omega)]
  rw [decorumlaw09_LinesDelays.j0, h1, hk k (Nat.le_refl _), awake_f]
  simp only [Option.bind_some]
  obtain ⟨e1, e2, e3⟩ := delay_one x.data.toList
  rw [e1]
  cases hd : (delayV x.data.toList).2 with
  | false => simp [e3 hd]
  | true => simp [e2 hd]
theorem LinesDelays : decorumlaw09_LinesDelays.Pure := by
  intro a0 h0
  by_cases h : (a0.size : Int) > 200
  · obtain ⟨k, hk⟩ := delays_j (a0.extract 0 200) (by simp only [ByteArray.size_extract]; omega)
    exact ⟨k, by rw [decorumlaw09_LinesDelays.f, if_pos h, if_pos (by omega), if_pos (by omega), hk]⟩
  · obtain ⟨k, hk⟩ := delays_j a0 (by omega)
    exact ⟨k, by rw [decorumlaw09_LinesDelays.f, if_neg h, hk]⟩
end Go.Proofs.YthbmedhejlhclaaDoor.Pure
