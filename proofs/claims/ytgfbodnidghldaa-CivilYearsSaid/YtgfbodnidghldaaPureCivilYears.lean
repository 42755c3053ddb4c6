/- CivilYears: for any year and day drawn from its small arguments a year has the days of its months, and 400 years on the same weekday; no condition. -/
import Derived.Test.YtgfbodnidghldaaPCivilYearsx2
namespace Go.Proofs.Ytgfbodnidghldaa.Pure
open Go.RowKit Go.Proofs.Ytgfbodnidghldaa.PCivilYears Go.Proofs.YtgfbodnidghldaaW.PrintWords Go.Proofs.YtgfbodnidghldaaW.PrintLast Go.Proofs.YtgfbodnidghldaaW.PrintMore
set_option linter.unusedVariables false
namespace CivilYears
theorem bd_u8 {n : Int} (h : (Lit.int .u8 n).wf = true) : 0 ≤ n ∧ n ≤ 255 := by
  simp [Lit.wf, IntKind.min, IntKind.max, IntKind.signed, IntKind.bits] at h
  omega
theorem bd_u16 {n : Int} (h : (Lit.int .u16 n).wf = true) : 0 ≤ n ∧ n ≤ 65535 := by
  simp [Lit.wf, IntKind.min, IntKind.max, IntKind.signed, IntKind.bits] at h
  omega
theorem bd_u32 {n : Int} (h : (Lit.int .u32 n).wf = true) : 0 ≤ n ∧ n ≤ 4294967295 := by
  simp [Lit.wf, IntKind.min, IntKind.max, IntKind.signed, IntKind.bits] at h
  omega
theorem bd_i64 {n : Int} (h : (Lit.int .i64 n).wf = true) : -9223372036854775808 ≤ n ∧ n ≤ 9223372036854775807 := by
  simp [Lit.wf, IntKind.min, IntKind.max, IntKind.signed, IntKind.bits] at h
  omega
theorem wrap_in (n : Int) (h : -9223372036854775808 ≤ n) (h' : n ≤ 9223372036854775807) : wrap64 n = n := by
  unfold wrap64; omega
/-- one in a leap year, else nought. -/
def lp (y : Int) : Int := if y % 4 = 0 ∧ (y % 100 ≠ 0 ∨ y % 400 = 0) then 1 else 0
def len (y m : Int) : Int := if m = 2 then 28 + lp y else if m = 4 ∨ m = 6 ∨ m = 9 ∨ m = 11 then 30 else if 1 ≤ m ∧ m ≤ 12 then 31 else 0
def bef (y : Int) : Int := if y = 0 then 0 else 365 * y + (y - 1) / 4 - (y - 1) / 100 + (y - 1) / 400 + 1
/-- the days of a year ahead of a month. -/
def cum (y m : Int) : Int := if m ≤ 2 then 31 * (m - 1) else (153 * m - 457) / 5 + 59 + lp y
theorem tm0 (a n : Int) : (Int.tmod a n = 0) = (a % n = 0) := by
  rw [← Int.dvd_iff_tmod_eq_zero, ← Int.dvd_iff_emod_eq_zero]
theorem lp_01 (y : Int) : lp y = 0 ∨ lp y = 1 := by unfold lp; split <;> omega
theorem len_bd (y m : Int) : 0 ≤ len y m ∧ len y m ≤ 31 := by
  have := lp_01 y
  unfold len; split
  · omega
  · split
    · omega
    · split <;> omega
theorem len_pos (y m : Int) (h : 1 ≤ len y m) : 1 ≤ m ∧ m ≤ 12 := by
  unfold len at h; split at h
  · omega
  · split at h
    · omega
    · split at h <;> omega
theorem len_ge (y m : Int) (h : 1 ≤ m ∧ m ≤ 12) : 28 ≤ len y m := by
  have := lp_01 y
  unfold len; split
  · omega
  · split
    · omega
    · first | omega | (split <;> omega)
theorem bef_succ (y : Int) (h : 0 ≤ y) : bef (y + 1) = bef y + 365 + lp y := by
  unfold bef lp
  by_cases h0 : y = 0
  · subst h0; rfl
  · rw [if_neg h0, if_neg (by omega)]
    split <;> omega
theorem bef_bd (y : Int) (h : 0 ≤ y) (h' : y ≤ 10000) : 0 ≤ bef y ∧ bef y ≤ 3652425 := by
  unfold bef
  split <;> omega
theorem cum_1 (y : Int) : cum y 1 = 0 := rfl
theorem cum_succ (y m : Int) (h : 1 ≤ m) (h' : m ≤ 12) : cum y (m + 1) = cum y m + len y m := by
  have e : m = 1 ∨ m = 2 ∨ m = 3 ∨ m = 4 ∨ m = 5 ∨ m = 6 ∨ m = 7 ∨ m = 8 ∨ m = 9 ∨ m = 10 ∨ m = 11 ∨ m = 12 := by omega
  rcases e with rfl | rfl | rfl | rfl | rfl | rfl | rfl | rfl | rfl | rfl | rfl | rfl <;> (unfold cum len; simp; try omega)
theorem cum_13 (y : Int) : cum y 13 = 365 + lp y := by unfold cum; simp
theorem cum_bd (y m : Int) (h : 1 ≤ m) (h' : m ≤ 13) : 0 ≤ cum y m ∧ cum y m ≤ 366 := by
  have := lp_01 y
  unfold cum; split <;> omega
/-- the number of a day. -/
def num (y m d : Int) : Int := bef y - 719528 + cum y m + d - 1
theorem leap_eq (y : Int) : civil_Leap.f y = some (lp y == 1) := by
  unfold civil_Leap.f lp
  simp only [tm0]
  by_cases a : y % 4 = 0
  · rw [if_pos a]
    by_cases b : y % 100 = 0
    · rw [if_pos b]
      by_cases c : y % 400 = 0
      · rw [if_pos ⟨a, Or.inr c⟩]
        have := (tm0 y 400).mpr c
        simp [this]
      · rw [if_neg (by omega)]
        have : ¬ Int.tmod y 400 = 0 := fun h => c ((tm0 y 400).mp h)
        simp [this]
    · rw [if_neg b, if_pos ⟨a, Or.inl b⟩]; rfl
  · rw [if_neg a, if_neg (by omega)]; rfl
theorem length_eq (k : Nat) (y m : Int) (hk : 0 < k) : civil_Length.f k y m = some (len y m) := by
  obtain ⟨k, rfl⟩ : ∃ j, k = j + 1 := ⟨k - 1, by omega⟩
  unfold civil_Length.f
  rw [leap_eq]
  have h01 := lp_01 y
  by_cases hm : 1 ≤ m ∧ m ≤ 12
  · have e : m = 1 ∨ m = 2 ∨ m = 3 ∨ m = 4 ∨ m = 5 ∨ m = 6 ∨ m = 7 ∨ m = 8 ∨ m = 9 ∨ m = 10 ∨ m = 11 ∨ m = 12 := by omega
    unfold len
    rcases e with rfl | rfl | rfl | rfl | rfl | rfl | rfl | rfl | rfl | rfl | rfl | rfl <;> first | rfl | (rcases h01 with h | h <;> rw [h] <;> rfl)
  · have e : len y m = 0 := by unfold len; split <;> first | omega | (split <;> first | omega | (split <;> omega))
    rw [e, if_neg (show ¬ m = 2 by omega), if_neg (show ¬ m = 4 by omega), if_neg (show ¬ m = 6 by omega), if_neg (show ¬ m = 9 by omega)]
    simp only [civil_Length.j0]
    have e11 : (m == 11) = false := beq_eq_false_iff_ne.2 (by omega)
    rw [e11, if_neg (by decide), if_neg (show ¬ m = 1 by omega), if_neg (show ¬ m = 3 by omega), if_neg (show ¬ m = 5 by omega), if_neg (show ¬ m = 7 by omega), if_neg (show ¬ m = 8 by omega), if_neg (show ¬ m = 10 by omega), if_neg (show ¬ m = 12 by omega)]
theorem before_eq (y : Int) (h : 0 ≤ y) (h' : y ≤ 10000) : civil_before.f y = some (bef y) := by
  unfold civil_before.f bef
  by_cases h0 : y = 0
  · rw [if_pos h0, if_pos h0]
  · rw [if_neg h0, if_neg h0, wrap_in (y - 1) (by omega) (by omega)]
    rw [Int.tdiv_eq_ediv_of_nonneg (by omega), Int.tdiv_eq_ediv_of_nonneg (by omega), Int.tdiv_eq_ediv_of_nonneg (by omega)]
    rw [wrap_in (365 * y) (by omega) (by omega), wrap_in ((y - 1) / 4) (by omega) (by omega), wrap_in ((y - 1) / 100) (by omega) (by omega), wrap_in ((y - 1) / 400) (by omega) (by omega)]
    rw [wrap_in (365 * y + (y - 1) / 4) (by omega) (by omega), wrap_in (365 * y + (y - 1) / 4 - (y - 1) / 100) (by omega) (by omega), wrap_in (365 * y + (y - 1) / 4 - (y - 1) / 100 + (y - 1) / 400) (by omega) (by omega), wrap_in _ (by omega) (by omega)]
theorem days_l0 (d : Nat) : ∀ (k : Nat) (y m n i : Int), 1 ≤ i → i ≤ m → m ≤ 12 → (m - i).toNat = d → d < k → -8000000 ≤ n → n ≤ 8000000 + 31 * i → civil_Days.l0 k y m n i = some (n + cum y m - cum y i, true) := by
  induction d with
  | zero =>
    intro k y m n i h1 h2 h3 hd hk _ _
    obtain ⟨k, rfl⟩ : ∃ j, k = j + 1 := ⟨k - 1, by omega⟩
    simp only [civil_Days.l0]
    rw [if_neg (by omega)]
    obtain rfl : i = m := by omega
    exact congrArg some (Prod.ext (by dsimp only; omega) rfl)
  | succ d ih =>
    intro k y m n i h1 h2 h3 hd hk b1 b2
    obtain ⟨k, rfl⟩ : ∃ j, k = j + 1 := ⟨k - 1, by omega⟩
    have hl := len_bd y i
    simp only [civil_Days.l0]
    rw [if_pos (by omega), length_eq k y i (by omega)]
    simp only [Option.bind_some]
    rw [wrap_in _ (by omega) (by omega), wrap_in _ (by omega) (by omega), ih k y m _ (i + 1) (by omega) (by omega) h3 (by omega) (by omega) (by have := len_bd y i; omega) (by omega), cum_succ y i h1 (by omega)]
    exact congrArg some (Prod.ext (by dsimp only; omega) rfl)
/-- is there such a day? -/
def okd (y m d : Int) : Bool := decide (0 ≤ y ∧ y ≤ 9999 ∧ 1 ≤ d ∧ d ≤ len y m)
def dys (y m d : Int) : Int × Bool := if okd y m d = true then (num y m d, true) else (0, false)
theorem okd_mk {y m d : Int} (h : 0 ≤ y ∧ y ≤ 9999 ∧ 1 ≤ d ∧ d ≤ len y m) : okd y m d = true := decide_eq_true h
theorem okd_no {y m d : Int} (h : ¬ (0 ≤ y ∧ y ≤ 9999 ∧ 1 ≤ d ∧ d ≤ len y m)) : okd y m d = false := decide_eq_false h
theorem bef_1970 : bef 1970 = 719528 := by decide
theorem days_eq (k : Nat) (y m d : Int) (hk : 20 ≤ k) : civil_Days.f k y m d = some (dys y m d) := by
  obtain ⟨k, rfl⟩ : ∃ j, k = j + 1 := ⟨k - 1, by omega⟩
  unfold civil_Days.f dys
  rw [length_eq _ y m (by omega)]
  simp only [Option.bind_some, civil_Days.j0, if_true]
  by_cases h0 : y < 0
  · rw [if_pos h0, okd_no (by omega)]; rfl
  rw [if_neg h0]
  by_cases h1 : y > 9999
  · rw [if_pos h1, okd_no (by omega)]; rfl
  rw [if_neg h1]
  by_cases h2 : d < 1
  · rw [if_pos h2, okd_no (by omega)]; rfl
  rw [if_neg h2]
  by_cases h3 : d > len y m
  · rw [if_pos (by simpa using h3), okd_no (by omega)]; rfl
  rw [if_neg (by simpa using h3), okd_mk (by omega), before_eq y (by omega) (by omega), before_eq 1970 (by omega) (by omega), bef_1970]
  simp only [Option.bind_some, if_true]
  have hb := bef_bd y (by omega) (by omega)
  have hl := len_bd y m
  have hm := len_pos y m (by omega)
  rw [wrap_in (bef y - 719528) (by omega) (by omega), wrap_in (bef y - 719528 + d) (by omega) (by omega), wrap_in _ (by omega) (by omega), days_l0 _ k y m _ 1 (by omega) (by omega) hm.2 rfl (by omega) (by omega) (by omega), cum_1]
  exact congrArg some (Prod.ext (by dsimp only [num]; omega) rfl)
theorem awake_ev : ∃ K, ∀ k, K ≤ k → decorumlaw02_awake.f k = some true := Ev.of decorumlaw02_awake.mono (k := 100) (by decide +kernel)
theorem lp_400 (y : Int) : lp (y + 400) = lp y := by unfold lp; split <;> split <;> omega
theorem len_400 (y m : Int) : len (y + 400) m = len y m := by unfold len; rw [lp_400]
theorem cum_400 (y m : Int) : cum (y + 400) m = cum y m := by unfold cum; rw [lp_400]
theorem bef_400 (y : Int) (h : 0 ≤ y) : bef (y + 400) = bef y + 146097 := by
  unfold bef
  rw [if_neg (by omega)]
  split <;> omega
theorem weekday_eq (n : Int) (h : -9000000 ≤ n) (h' : n ≤ 9000000) : civil_Weekday.f n = some ((n + 3) % 7) := by
  unfold civil_Weekday.f
  have hb : -7 < Int.tmod n 7 ∧ Int.tmod n 7 < 7 := ⟨by have := Int.lt_tmod_of_pos n (show (0 : Int) < 7 by omega); omega, Int.tmod_lt_of_pos n (by omega)⟩
  have he : n = 7 * Int.tdiv n 7 + Int.tmod n 7 := (Int.mul_tdiv_add_tmod n 7).symm
  generalize Int.tmod n 7 = r at *
  generalize Int.tdiv n 7 = q at *
  rw [wrap_in (r + 7) (by omega) (by omega), Int.tmod_eq_emod_of_nonneg (show 0 ≤ r + 7 by omega), wrap_in ((r + 7) % 7 + 3) (by omega) (by omega), Int.tmod_eq_emod_of_nonneg (by omega)]
  exact congrArg some (by omega)
theorem j1_eq (k : Nat) (y m d w : Int) (hy : 0 ≤ y) (hy' : y ≤ 9599) (hm : 0 ≤ m) (hm' : m ≤ 255) (hd : 0 ≤ d) (hd' : d ≤ 255) (hk : 20 ≤ k) (h : decorumlaw02_awake.f k = some true) :
    decorumlaw02_CivilYears.j1 (k + 1) m d y w w = some true := by
  have e1 : Int.tmod m 14 = m % 14 := Int.tmod_eq_emod_of_nonneg hm
  have e2 : Int.tmod d 33 = d % 33 := Int.tmod_eq_emod_of_nonneg hd
  simp only [decorumlaw02_CivilYears.j1]
  rw [e1, e2, wrap_in (m % 14) (by omega) (by omega), wrap_in (d % 33) (by omega) (by omega), wrap_in (y + 400) (by omega) (by omega)]
  have hdd : 0 ≤ d % 33 ∧ d % 33 ≤ 32 := by omega
  generalize m % 14 = m1 at *
  generalize d % 33 = d1 at *
  rw [days_eq k y m1 d1 hk, days_eq k (y + 400) m1 d1 hk, h]
  simp only [Option.bind_some, if_true]
  unfold dys
  by_cases ho : 1 ≤ d1 ∧ d1 ≤ len y m1
  · rw [okd_mk ⟨hy, by omega, ho.1, ho.2⟩, okd_mk ⟨by omega, by omega, ho.1, by rw [len_400]; exact ho.2⟩]
    simp only [if_true, beq_self_eq_true]
    have hb := bef_bd y hy (by omega)
    have hmm := len_pos y m1 (by omega)
    have hc := cum_bd y m1 hmm.1 (by omega)
    have en : num (y + 400) m1 d1 = num y m1 d1 + 146097 := by unfold num; rw [bef_400 y hy, cum_400]; omega
    have hbn : -800000 ≤ num y m1 d1 ∧ num y m1 d1 ≤ 8000000 := by unfold num; omega
    rw [en]
    generalize num y m1 d1 = z at *
    have ez : z + 146097 - z = 146097 := by omega
    rw [ez, wrap_in 146097 (by omega) (by omega), if_pos rfl, weekday_eq z (by omega) (by omega), weekday_eq (z + 146097) (by omega) (by omega)]
    simp only [Option.bind_some]
    have e7 : (z + 146097 + 3) % 7 = (z + 3) % 7 := by omega
    rw [e7]; simp
  · rw [okd_no (by omega), okd_no (by rw [len_400]; omega)]
    simp
theorem l0_eq (j : Nat) : ∀ (k : Nat) (y m d i : Int), 0 ≤ y → y ≤ 9599 → 0 ≤ m → m ≤ 255 → 0 ≤ d → d ≤ 255 → 1 ≤ i → i ≤ 13 → (13 - i).toNat = j → (∀ q, k - j - 2 ≤ q → decorumlaw02_awake.f q = some true) → j + 30 < k →
    decorumlaw02_CivilYears.l0 k m d y (cum y i) i = some true := by
  induction j with
  | zero =>
    intro k y m d i hy hy' hm hm' hd hd' h1 h2 hj h hk
    obtain ⟨k, rfl⟩ : ∃ j, k = j + 2 := ⟨k - 2, by omega⟩
    obtain rfl : i = 13 := by omega
    simp only [decorumlaw02_CivilYears.l0]
    rw [if_neg (by omega), leap_eq, cum_13]
    simp only [Option.bind_some]
    rcases lp_01 y with c | c
    · rw [c, if_neg (by decide)]; exact j1_eq k y m d _ hy hy' hm hm' hd hd' (by omega) (h k (by omega))
    · rw [c, if_pos (by decide)]; exact j1_eq k y m d _ hy hy' hm hm' hd hd' (by omega) (h k (by omega))
  | succ j ih =>
    intro k y m d i hy hy' hm hm' hd hd' h1 h2 hj h hk
    obtain ⟨k, rfl⟩ : ∃ j, k = j + 1 := ⟨k - 1, by omega⟩
    have hc := cum_bd y i h1 h2
    have hl := len_bd y i
    simp only [decorumlaw02_CivilYears.l0]
    rw [if_pos (by omega), length_eq k y i (by omega)]
    simp only [Option.bind_some]
    rw [← cum_succ y i h1 (by omega), wrap_in (cum y (i + 1)) (by have := cum_bd y (i + 1) (by omega) (by omega); omega) (by have := cum_bd y (i + 1) (by omega) (by omega); omega), wrap_in (i + 1) (by omega) (by omega)]
    exact ih k y m d (i + 1) hy hy' hm hm' hd hd' (by omega) (by omega) (by omega) (fun q hq => h q (by omega)) (by omega)
end CivilYears
open CivilYears in
theorem CivilYears : decorumlaw02_CivilYears.Pure := by
  intro y m d hy hm hd
  obtain ⟨K, h⟩ := awake_ev
  have by' := bd_u16 hy
  have bm := bd_u8 hm
  have bd := bd_u8 hd
  refine ⟨K + 100, ?_⟩
  unfold decorumlaw02_CivilYears.f
  rw [wrap_in y (by omega) (by omega), Int.tmod_eq_emod_of_nonneg by'.1]
  exact l0_eq _ (K + 100) (y % 9600) m d 1 (by omega) (by omega) (by omega) (by omega) (by omega) (by omega) (by omega) (by omega) rfl (fun q hq => h q (by omega)) (by omega)

end Go.Proofs.Ytgfbodnidghldaa.Pure
