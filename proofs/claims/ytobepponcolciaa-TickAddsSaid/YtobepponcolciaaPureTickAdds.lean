/- TickAdds: for any two ints the program's held sum and difference are the document's; no condition. -/
import Derived.Test.YtobepponcolciaaQTickAddsx2
namespace Go.Proofs.Ytobepponcolciaa.Pure
open Go.RowKit Go.Proofs.Ytobepponcolciaa.QTickAdds Go.Proofs.YtobepponcolciaaW.PrintWords Go.Proofs.YtobepponcolciaaW.PrintLast Go.Proofs.YtobepponcolciaaW.PrintMore
set_option linter.unusedVariables false
namespace TickAdds
def hd (a : Int) : Int := mx (-4611686018427387903) (mn a 4611686018427387903)
def ad (a b : Int) : Int := hd (hd a + hd b)
theorem wrap_in (n : Int) (h : -9223372036854775808 ≤ n) (h' : n ≤ 9223372036854775807) : wrap64 n = n := by
  unfold wrap64; omega
theorem hd_bd (a : Int) : -4611686018427387903 ≤ hd a ∧ hd a ≤ 4611686018427387903 := by
  unfold hd mx mn; omega
theorem hd_id (a : Int) (h : -4611686018427387903 ≤ a) (h' : a ≤ 4611686018427387903) : hd a = a := by
  unfold hd mx mn; omega
theorem ad_bd (a b : Int) : -4611686018427387903 ≤ ad a b ∧ ad a b ≤ 4611686018427387903 := hd_bd _
theorem held_eq (a : Int) : tick_held.f a = some (hd a) := rfl
theorem add_eq (a b : Int) : tick_Add.f a b = some (ad a b) := by
  have ha := hd_bd a
  have hb := hd_bd b
  unfold tick_Add.f
  simp only [held_eq, Option.bind_some]
  rw [wrap_in _ (by omega) (by omega)]
  rfl
theorem rheld_eq (a : Int) : decorumref01_Held.f a = some (hd a) := by
  unfold decorumref01_Held.f hd mx mn
  split
  · exact congrArg some (by omega)
  · split
    · exact congrArg some (by omega)
    · exact congrArg some (by omega)
theorem radd_eq (k : Nat) (a b : Int) (hk : 0 < k) : decorumref01_Add.f k a b = some (ad a b) := by
  obtain ⟨k, rfl⟩ : ∃ m, k = m + 1 := ⟨k - 1, by omega⟩
  have ha := hd_bd a
  have hb := hd_bd b
  unfold decorumref01_Add.f
  simp only [rheld_eq, Option.bind_some, decorumref01_Add.j0]
  unfold ad
  generalize hd a = x at *
  generalize hd b = y at *
  rw [wrap_in (x + y) (by omega) (by omega)]
  by_cases h : y > 0
  · rw [if_pos h, wrap_in _ (by omega) (by omega)]
    by_cases h2 : x > 4611686018427387903 - y
    · rw [if_pos (by simpa using h2)]; congr 1; unfold hd mx mn; omega
    · rw [if_neg (by simpa using h2), if_neg (by omega)]; congr 1; unfold hd mx mn; omega
  · rw [if_neg h, if_neg (by simp)]
    by_cases h2 : y < 0
    · rw [if_pos h2, wrap_in _ (by omega) (by omega)]
      by_cases h3 : x < -4611686018427387903 - y
      · rw [if_pos h3]; congr 1; unfold hd mx mn; omega
      · rw [if_neg h3]; congr 1; unfold hd mx mn; omega
    · rw [if_neg h2]; congr 1; unfold hd mx mn; omega
theorem sub_eq (a b : Int) : tick_Sub.f a b = some (ad a (-(hd b))) := by
  have hb := hd_bd b
  unfold tick_Sub.f
  rw [held_eq]
  simp only [Option.bind_some]
  rw [wrap_in _ (by omega) (by omega), add_eq]
  rfl
theorem awake_ev : ∃ K, ∀ k, K ≤ k → decorumlaw01_awake.f k = some true := Ev.of decorumlaw01_awake.mono (k := 20) (by decide +kernel)
end TickAdds
open TickAdds in
theorem TickAdds : decorumlaw01_TickAdds.Pure := by
  intro a b _ _
  obtain ⟨K, h⟩ := awake_ev
  have hb := hd_bd b
  refine ⟨K + 1, ?_⟩
  unfold decorumlaw01_TickAdds.f
  rw [rheld_eq, h _ (by omega), add_eq, radd_eq _ _ _ (by omega), sub_eq]
  simp only [Option.bind_some, if_true]
  rw [wrap_in _ (by omega) (by omega), radd_eq _ _ _ (by omega)]
  simp

end Go.Proofs.Ytobepponcolciaa.Pure
