/- CivilWeeks: weekdays go round for any int, the first day of 1970 a Thursday; no condition. -/
import Derived.Test.YtgfbodnidghldaaPCivilWeeksx2
namespace Go.Proofs.Ytgfbodnidghldaa.Pure
open Go.RowKit Go.Proofs.Ytgfbodnidghldaa.PCivilWeeks Go.Proofs.YtgfbodnidghldaaW.PrintWords Go.Proofs.YtgfbodnidghldaaW.PrintLast Go.Proofs.YtgfbodnidghldaaW.PrintMore
set_option linter.unusedVariables false
namespace CivilWeeks
theorem wrap_in (n : Int) (h : -9223372036854775808 ≤ n) (h' : n ≤ 9223372036854775807) : wrap64 n = n := by
  unfold wrap64; omega
/-- one in a leap year, else nought. -/
def lp (y : Int) : Int := if y % 4 = 0 ∧ (y % 100 ≠ 0 ∨ y % 400 = 0) then 1 else 0
def len (y m : Int) : Int := if m = 2 then 28 + lp y else if m = 4 ∨ m = 6 ∨ m = 9 ∨ m = 11 then 30 else if 1 ≤ m ∧ m ≤ 12 then 31 else 0
def bef (y : Int) : Int := if y = 0 then 0 else 365 * y + (y - 1) / 4 - (y - 1) / 100 + (y - 1) / 400 + 1
/-- the days of a year ahead of a month. -/
def cum (y m : Int) : Int := if m ≤ 2 then 31 * (m - 1) else (153 * m - 457) / 5 + 59 + lp y
theorem tm0 (a n : Int) : (Int.tmod a n = 0) = (a % n = 0) := by
  rw [← Int.dvd_iff_tmod_eq_zero, ← Int.dvd_iff_emod_eq_zero]
theorem lp_01 (y : Int) : lp y = 0 ∨ lp y = 1 := by unfold lp; split <;> omega
theorem len_bd (y m : Int) : 0 ≤ len y m ∧ len y m ≤ 31 := by
  have := lp_01 y
  unfold len; split
  · omega
  · split
    · omega
    · split <;> omega
theorem len_pos (y m : Int) (h : 1 ≤ len y m) : 1 ≤ m ∧ m ≤ 12 := by
  unfold len at h; split at h
  · omega
  · split at h
    · omega
    · split at h <;> omega
theorem len_ge (y m : Int) (h : 1 ≤ m ∧ m ≤ 12) : 28 ≤ len y m := by
  have := lp_01 y
  unfold len; split
  · omega
  · split
    · omega
    · first | omega | (split <;> omega)
theorem bef_succ (y : Int) (h : 0 ≤ y) : bef (y + 1) = bef y + 365 + lp y := by
  unfold bef lp
  by_cases h0 : y = 0
  · subst h0; rfl
  · rw [if_neg h0, if_neg (by omega)]
    split <;> omega
theorem bef_bd (y : Int) (h : 0 ≤ y) (h' : y ≤ 10000) : 0 ≤ bef y ∧ bef y ≤ 3652425 := by
  unfold bef
  split <;> omega
theorem cum_1 (y : Int) : cum y 1 = 0 := rfl
theorem cum_succ (y m : Int) (h : 1 ≤ m) (h' : m ≤ 12) : cum y (m + 1) = cum y m + len y m := by
  have e : m = 1 ∨ m = 2 ∨ m = 3 ∨ m = 4 ∨ m = 5 ∨ m = 6 ∨ m = 7 ∨ m = 8 ∨ m = 9 ∨ m = 10 ∨ m = 11 ∨ m = 12 := by omega
  rcases e with rfl | rfl | rfl | rfl | rfl | rfl | rfl | rfl | rfl | rfl | rfl | rfl <;> (unfold cum len; simp; try omega)
theorem cum_13 (y : Int) : cum y 13 = 365 + lp y := by unfold cum; simp
theorem cum_bd (y m : Int) (h : 1 ≤ m) (h' : m ≤ 13) : 0 ≤ cum y m ∧ cum y m ≤ 366 := by
  have := lp_01 y
  unfold cum; split <;> omega
/-- the number of a day. -/
def num (y m d : Int) : Int := bef y - 719528 + cum y m + d - 1
theorem awake_ev : ∃ K, ∀ k, K ≤ k → decorumlaw02_awake.f k = some true := Ev.of decorumlaw02_awake.mono (k := 100) (by decide +kernel)
end CivilWeeks
open CivilWeeks in
theorem CivilWeeks : decorumlaw02_CivilWeeks.Pure := by
  intro n _
  obtain ⟨K, h⟩ := awake_ev
  refine ⟨K, ?_⟩
  unfold decorumlaw02_CivilWeeks.f civil_Weekday.f
  rw [h _ (by omega)]
  simp only [Option.bind_some, if_true]
  have hb : -7 < Int.tmod n 7 ∧ Int.tmod n 7 < 7 := ⟨by have := Int.lt_tmod_of_pos n (show (0 : Int) < 7 by omega); omega, Int.tmod_lt_of_pos n (by omega)⟩
  generalize Int.tmod n 7 = r at *
  rw [wrap_in (r + 7) (by omega) (by omega)]
  rw [Int.tmod_eq_emod_of_nonneg (show 0 ≤ r + 7 by omega), wrap_in ((r + 7) % 7 + 3) (by omega) (by omega)]
  by_cases hr : r < 0
  · rw [if_pos hr, wrap_in (r + 7 + 3) (by omega) (by omega)]
    have : (r + 7) % 7 = r + 7 := by omega
    rw [this]; simp
  · rw [if_neg hr, wrap_in (r + 3) (by omega) (by omega)]
    have : (r + 7) % 7 = r := by omega
    rw [this]; simp

end Go.Proofs.Ytgfbodnidghldaa.Pure
