/- CivilDays: for any three ints the program's day number, month length and leap year are the document's; no condition. -/
import Derived.Test.YtgfbodnidghldaaPCivilDaysx3
namespace Go.Proofs.Ytgfbodnidghldaa.Pure
open Go.RowKit Go.Proofs.Ytgfbodnidghldaa.PCivilDays Go.Proofs.YtgfbodnidghldaaW.PrintWords Go.Proofs.YtgfbodnidghldaaW.PrintLast Go.Proofs.YtgfbodnidghldaaW.PrintMore
set_option linter.unusedVariables false
namespace CivilDays
theorem wrap_in (n : Int) (h : -9223372036854775808 ≤ n) (h' : n ≤ 9223372036854775807) : wrap64 n = n := by
  unfold wrap64; omega
/-- one in a leap year, else nought. -/
def lp (y : Int) : Int := if y % 4 = 0 ∧ (y % 100 ≠ 0 ∨ y % 400 = 0) then 1 else 0
def len (y m : Int) : Int := if m = 2 then 28 + lp y else if m = 4 ∨ m = 6 ∨ m = 9 ∨ m = 11 then 30 else if 1 ≤ m ∧ m ≤ 12 then 31 else 0
def bef (y : Int) : Int := if y = 0 then 0 else 365 * y + (y - 1) / 4 - (y - 1) / 100 + (y - 1) / 400 + 1
/-- the days of a year ahead of a month. -/
def cum (y m : Int) : Int := if m ≤ 2 then 31 * (m - 1) else (153 * m - 457) / 5 + 59 + lp y
theorem tm0 (a n : Int) : (Int.tmod a n = 0) = (a % n = 0) := by
  rw [← Int.dvd_iff_tmod_eq_zero, ← Int.dvd_iff_emod_eq_zero]
theorem lp_01 (y : Int) : lp y = 0 ∨ lp y = 1 := by unfold lp; split <;> omega
theorem len_bd (y m : Int) : 0 ≤ len y m ∧ len y m ≤ 31 := by
  have := lp_01 y
  unfold len; split
  · omega
  · split
    · omega
    · split <;> omega
theorem len_pos (y m : Int) (h : 1 ≤ len y m) : 1 ≤ m ∧ m ≤ 12 := by
  unfold len at h; split at h
  · omega
  · split at h
    · omega
    · split at h <;> omega
theorem len_ge (y m : Int) (h : 1 ≤ m ∧ m ≤ 12) : 28 ≤ len y m := by
  have := lp_01 y
  unfold len; split
  · omega
  · split
    · omega
    · first | omega | (split <;> omega)
theorem bef_succ (y : Int) (h : 0 ≤ y) : bef (y + 1) = bef y + 365 + lp y := by
  unfold bef lp
  by_cases h0 : y = 0
  · subst h0; rfl
  · rw [if_neg h0, if_neg (by omega)]
    split <;> omega
theorem bef_bd (y : Int) (h : 0 ≤ y) (h' : y ≤ 10000) : 0 ≤ bef y ∧ bef y ≤ 3652425 := by
  unfold bef
  split <;> omega
theorem cum_1 (y : Int) : cum y 1 = 0 := rfl
theorem cum_succ (y m : Int) (h : 1 ≤ m) (h' : m ≤ 12) : cum y (m + 1) = cum y m + len y m := by
  have e : m = 1 ∨ m = 2 ∨ m = 3 ∨ m = 4 ∨ m = 5 ∨ m = 6 ∨ m = 7 ∨ m = 8 ∨ m = 9 ∨ m = 10 ∨ m = 11 ∨ m = 12 := by omega
  rcases e with rfl | rfl | rfl | rfl | rfl | rfl | rfl | rfl | rfl | rfl | rfl | rfl <;> (unfold cum len; simp; try omega)
theorem cum_13 (y : Int) : cum y 13 = 365 + lp y := by unfold cum; simp
theorem cum_bd (y m : Int) (h : 1 ≤ m) (h' : m ≤ 13) : 0 ≤ cum y m ∧ cum y m ≤ 366 := by
  have := lp_01 y
  unfold cum; split <;> omega
/-- the number of a day. -/
def num (y m d : Int) : Int := bef y - 719528 + cum y m + d - 1
theorem leap_eq (y : Int) : civil_Leap.f y = some (lp y == 1) := by
  unfold civil_Leap.f lp
  simp only [tm0]
  by_cases a : y % 4 = 0
  · rw [if_pos a]
    by_cases b : y % 100 = 0
    · rw [if_pos b]
      by_cases c : y % 400 = 0
      · rw [if_pos ⟨a, Or.inr c⟩]
        have := (tm0 y 400).mpr c
        simp [this]
      · rw [if_neg (by omega)]
        have : ¬ Int.tmod y 400 = 0 := fun h => c ((tm0 y 400).mp h)
        simp [this]
    · rw [if_neg b, if_pos ⟨a, Or.inl b⟩]; rfl
  · rw [if_neg a, if_neg (by omega)]; rfl
theorem length_eq (k : Nat) (y m : Int) (hk : 0 < k) : civil_Length.f k y m = some (len y m) := by
  obtain ⟨k, rfl⟩ : ∃ j, k = j + 1 := ⟨k - 1, by omega⟩
  unfold civil_Length.f
  rw [leap_eq]
  have h01 := lp_01 y
  by_cases hm : 1 ≤ m ∧ m ≤ 12
  · have e : m = 1 ∨ m = 2 ∨ m = 3 ∨ m = 4 ∨ m = 5 ∨ m = 6 ∨ m = 7 ∨ m = 8 ∨ m = 9 ∨ m = 10 ∨ m = 11 ∨ m = 12 := by omega
    unfold len
    rcases e with rfl | rfl | rfl | rfl | rfl | rfl | rfl | rfl | rfl | rfl | rfl | rfl <;> first | rfl | (rcases h01 with h | h <;> rw [h] <;> rfl)
  · have e : len y m = 0 := by unfold len; split <;> first | omega | (split <;> first | omega | (split <;> omega))
    rw [e, if_neg (show ¬ m = 2 by omega), if_neg (show ¬ m = 4 by omega), if_neg (show ¬ m = 6 by omega), if_neg (show ¬ m = 9 by omega)]
    simp only [civil_Length.j0]
    have e11 : (m == 11) = false := beq_eq_false_iff_ne.2 (by omega)
    rw [e11, if_neg (by decide), if_neg (show ¬ m = 1 by omega), if_neg (show ¬ m = 3 by omega), if_neg (show ¬ m = 5 by omega), if_neg (show ¬ m = 7 by omega), if_neg (show ¬ m = 8 by omega), if_neg (show ¬ m = 10 by omega), if_neg (show ¬ m = 12 by omega)]
theorem before_eq (y : Int) (h : 0 ≤ y) (h' : y ≤ 10000) : civil_before.f y = some (bef y) := by
  unfold civil_before.f bef
  by_cases h0 : y = 0
  · rw [if_pos h0, if_pos h0]
  · rw [if_neg h0, if_neg h0, wrap_in (y - 1) (by omega) (by omega)]
    rw [Int.tdiv_eq_ediv_of_nonneg (by omega), Int.tdiv_eq_ediv_of_nonneg (by omega), Int.tdiv_eq_ediv_of_nonneg (by omega)]
    rw [wrap_in (365 * y) (by omega) (by omega), wrap_in ((y - 1) / 4) (by omega) (by omega), wrap_in ((y - 1) / 100) (by omega) (by omega), wrap_in ((y - 1) / 400) (by omega) (by omega)]
    rw [wrap_in (365 * y + (y - 1) / 4) (by omega) (by omega), wrap_in (365 * y + (y - 1) / 4 - (y - 1) / 100) (by omega) (by omega), wrap_in (365 * y + (y - 1) / 4 - (y - 1) / 100 + (y - 1) / 400) (by omega) (by omega), wrap_in _ (by omega) (by omega)]
theorem days_l0 (d : Nat) : ∀ (k : Nat) (y m n i : Int), 1 ≤ i → i ≤ m → m ≤ 12 → (m - i).toNat = d → d < k → -8000000 ≤ n → n ≤ 8000000 + 31 * i → civil_Days.l0 k y m n i = some (n + cum y m - cum y i, true) := by
  induction d with
  | zero =>
    intro k y m n i h1 h2 h3 hd hk _ _
    obtain ⟨k, rfl⟩ : ∃ j, k = j + 1 := ⟨k - 1, by omega⟩
    simp only [civil_Days.l0]
    rw [if_neg (by omega)]
    obtain rfl : i = m := by omega
    exact congrArg some (Prod.ext (by dsimp only; omega) rfl)
  | succ d ih =>
    intro k y m n i h1 h2 h3 hd hk b1 b2
    obtain ⟨k, rfl⟩ : ∃ j, k = j + 1 := ⟨k - 1, by omega⟩
    have hl := len_bd y i
    simp only [civil_Days.l0]
    rw [if_pos (by omega), length_eq k y i (by omega)]
    simp only [Option.bind_some]
    rw [wrap_in _ (by omega) (by omega), wrap_in _ (by omega) (by omega), ih k y m _ (i + 1) (by omega) (by omega) h3 (by omega) (by omega) (by have := len_bd y i; omega) (by omega), cum_succ y i h1 (by omega)]
    exact congrArg some (Prod.ext (by dsimp only; omega) rfl)
/-- is there such a day? -/
def okd (y m d : Int) : Bool := decide (0 ≤ y ∧ y ≤ 9999 ∧ 1 ≤ d ∧ d ≤ len y m)
def dys (y m d : Int) : Int × Bool := if okd y m d = true then (num y m d, true) else (0, false)
theorem okd_mk {y m d : Int} (h : 0 ≤ y ∧ y ≤ 9999 ∧ 1 ≤ d ∧ d ≤ len y m) : okd y m d = true := decide_eq_true h
theorem okd_no {y m d : Int} (h : ¬ (0 ≤ y ∧ y ≤ 9999 ∧ 1 ≤ d ∧ d ≤ len y m)) : okd y m d = false := decide_eq_false h
theorem bef_1970 : bef 1970 = 719528 := by decide
theorem days_eq (k : Nat) (y m d : Int) (hk : 20 ≤ k) : civil_Days.f k y m d = some (dys y m d) := by
  obtain ⟨k, rfl⟩ : ∃ j, k = j + 1 := ⟨k - 1, by omega⟩
  unfold civil_Days.f dys
  rw [length_eq _ y m (by omega)]
  simp only [Option.bind_some, civil_Days.j0, if_true]
  by_cases h0 : y < 0
  · rw [if_pos h0, okd_no (by omega)]; rfl
  rw [if_neg h0]
  by_cases h1 : y > 9999
  · rw [if_pos h1, okd_no (by omega)]; rfl
  rw [if_neg h1]
  by_cases h2 : d < 1
  · rw [if_pos h2, okd_no (by omega)]; rfl
  rw [if_neg h2]
  by_cases h3 : d > len y m
  · rw [if_pos (by simpa using h3), okd_no (by omega)]; rfl
  rw [if_neg (by simpa using h3), okd_mk (by omega), before_eq y (by omega) (by omega), before_eq 1970 (by omega) (by omega), bef_1970]
  simp only [Option.bind_some, if_true]
  have hb := bef_bd y (by omega) (by omega)
  have hl := len_bd y m
  have hm := len_pos y m (by omega)
  rw [wrap_in (bef y - 719528) (by omega) (by omega), wrap_in (bef y - 719528 + d) (by omega) (by omega), wrap_in _ (by omega) (by omega), days_l0 _ k y m _ 1 (by omega) (by omega) hm.2 rfl (by omega) (by omega) (by omega), cum_1]
  exact congrArg some (Prod.ext (by dsimp only [num]; omega) rfl)
theorem rleap_eq (y : Int) : decorumref01_Leap.f y = some (lp y == 1) := by
  unfold decorumref01_Leap.f lp
  simp only [tm0]
  by_cases c : y % 400 = 0
  · rw [if_pos c, if_pos ⟨by omega, Or.inr c⟩]; rfl
  · rw [if_neg c]
    by_cases a : y % 4 = 0
    · rw [if_pos a]
      by_cases b : y % 100 = 0
      · rw [if_neg (by omega)]
        have := (tm0 y 100).mpr b
        simp [this]
      · rw [if_pos ⟨a, Or.inl b⟩]
        have : ¬ Int.tmod y 100 = 0 := fun h => b ((tm0 y 100).mp h)
        simp [this]
    · rw [if_neg a, if_neg (by omega)]; rfl
theorem rlength_eq (k : Nat) (y m : Int) (hk : 0 < k) : decorumref01_Length.f k y m = some (len y m) := by
  obtain ⟨k, rfl⟩ : ∃ j, k = j + 1 := ⟨k - 1, by omega⟩
  unfold decorumref01_Length.f
  simp only [Option.bind_some, decorumref01_Length.j0]
  have h01 := lp_01 y
  unfold len
  by_cases h1 : m < 1
  · rw [if_pos h1]; simp only [if_true]; rw [if_neg (show ¬ m = 2 by omega), if_neg (show ¬ (m = 4 ∨ m = 6 ∨ m = 9 ∨ m = 11) by omega), if_neg (show ¬ (1 ≤ m ∧ m ≤ 12) by omega)]
  rw [if_neg h1]
  by_cases h2 : m > 12
  · rw [if_pos (by simpa using h2), if_neg (show ¬ m = 2 by omega), if_neg (show ¬ (m = 4 ∨ m = 6 ∨ m = 9 ∨ m = 11) by omega), if_neg (show ¬ (1 ≤ m ∧ m ≤ 12) by omega)]
  rw [if_neg (by simpa using h2), rleap_eq]
  simp only [Option.bind_some]
  have e : m = 1 ∨ m = 2 ∨ m = 3 ∨ m = 4 ∨ m = 5 ∨ m = 6 ∨ m = 7 ∨ m = 8 ∨ m = 9 ∨ m = 10 ∨ m = 11 ∨ m = 12 := by omega
  rcases e with rfl | rfl | rfl | rfl | rfl | rfl | rfl | rfl | rfl | rfl | rfl | rfl <;> first | rfl | (rcases h01 with h | h <;> rw [h] <;> rfl)
theorem rdays_l2 (d : Nat) : ∀ (k : Nat) (y m e n i : Int), 1 ≤ i → i ≤ m → m ≤ 12 → 0 ≤ e → e ≤ 31 → (m - i).toNat = d → d < k → -8000000 ≤ n → n ≤ 8000000 + 31 * i → decorumref01_Days.l2 k y m e n i = some (n + cum y m - cum y i + e - 1, true) := by
  induction d with
  | zero =>
    intro k y m e n i h1 h2 h3 e1 e2 hd hk _ _
    obtain ⟨k, rfl⟩ : ∃ j, k = j + 1 := ⟨k - 1, by omega⟩
    simp only [decorumref01_Days.l2]
    rw [if_neg (by omega), wrap_in (n + e) (by omega) (by omega), wrap_in _ (by omega) (by omega)]
    obtain rfl : i = m := by omega
    exact congrArg some (Prod.ext (by dsimp only; omega) rfl)
  | succ d ih =>
    intro k y m e n i h1 h2 h3 e1 e2 hd hk b1 b2
    obtain ⟨k, rfl⟩ : ∃ j, k = j + 1 := ⟨k - 1, by omega⟩
    have hl := len_bd y i
    simp only [decorumref01_Days.l2]
    rw [if_pos (by omega), rlength_eq k y i (by omega)]
    simp only [Option.bind_some]
    rw [wrap_in _ (by omega) (by omega), wrap_in _ (by omega) (by omega), ih k y m e _ (i + 1) (by omega) (by omega) h3 e1 e2 (by omega) (by omega) (by omega) (by omega), cum_succ y i h1 (by omega)]
    exact congrArg some (Prod.ext (by dsimp only; omega) rfl)
theorem rdays_l1 (d : Nat) : ∀ (k : Nat) (y m e n i : Int), 0 ≤ i → i ≤ 10000 → (1970 - i).toNat = d → d + 20 < k → 1 ≤ m → m ≤ 12 → 0 ≤ e → e ≤ 31 → n ≤ 7000000 → -4000000 ≤ n - (bef 1970 - bef i) →
    decorumref01_Days.l1 k y m e n i = some (n - (if i < 1970 then bef 1970 - bef i else 0) + cum y m + e - 1, true) := by
  induction d with
  | zero =>
    intro k y m e n i h0 h1 hd hk m1 m2 e1 e2 _ n3
    have hb := bef_bd i h0 h1
    rw [bef_1970] at n3
    obtain ⟨k, rfl⟩ : ∃ j, k = j + 1 := ⟨k - 1, by omega⟩
    simp only [decorumref01_Days.l1]
    rw [if_neg (by omega), rdays_l2 _ k y m e n 1 (by omega) m1 m2 e1 e2 rfl (by omega) (by omega) (by omega), cum_1, if_neg (by omega)]
    exact congrArg some (Prod.ext (by dsimp only; omega) rfl)
  | succ d ih =>
    intro k y m e n i h0 h1 hd hk m1 m2 e1 e2 n2 n3
    obtain ⟨k, rfl⟩ : ∃ j, k = j + 1 := ⟨k - 1, by omega⟩
    have hs := bef_succ i h0
    have h01 := lp_01 i
    have hb := bef_bd i h0 h1
    rw [bef_1970] at n3 ⊢
    simp only [decorumref01_Days.l1]
    have key : ∀ z, z = n - 365 - lp i → decorumref01_Days.l1 k y m e z (wrap64 (i + 1)) = some (n - (if i < 1970 then 719528 - bef i else 0) + cum y m + e - 1, true) := by
      intro z hz
      rw [wrap_in _ (by omega) (by omega), ih k y m e z (i + 1) (by omega) (by omega) (by omega) (by omega) m1 m2 e1 e2 (by omega) (by rw [bef_1970]; omega), bef_1970, if_pos (show i < 1970 by omega)]
      refine congrArg some (Prod.ext ?_ rfl)
      simp only
      by_cases hi : i + 1 < 1970
      · rw [if_pos hi]; omega
      · rw [if_neg hi]
        have : i = 1969 := by omega
        subst this
        have : bef (1969 + 1) = 719528 := bef_1970
        omega
    rw [if_pos (by omega), rleap_eq]
    simp only [Option.bind_some]
    rcases h01 with h | h
    · rw [if_neg (by rw [h]; decide)]
      exact key _ (by rw [wrap_in _ (by omega) (by omega)]; omega)
    · rw [if_pos (by rw [h]; decide)]
      exact key _ (by rw [wrap_in (n - 365) (by omega) (by omega), wrap_in _ (by omega) (by omega)]; omega)
theorem rdays_l0 (d : Nat) : ∀ (k : Nat) (y m e n i : Int), 1970 ≤ i → i ≤ y → y ≤ 9999 → (y - i).toNat = d → d + 30 < k → 1 ≤ m → m ≤ 12 → 0 ≤ e → e ≤ 31 → 0 ≤ n → n ≤ bef i - 719528 →
    decorumref01_Days.l0 k y m e n i = some (n + (bef y - bef i) + cum y m + e - 1, true) := by
  induction d with
  | zero =>
    intro k y m e n i h0 h1 h2 hd hk m1 m2 e1 e2 n1 n2
    obtain ⟨k, rfl⟩ : ∃ j, k = j + 1 := ⟨k - 1, by omega⟩
    obtain rfl : i = y := by omega
    have hb := bef_bd i (by omega) (by omega)
    simp only [decorumref01_Days.l0]
    rw [if_neg (by omega), rdays_l1 _ k i m e n i (by omega) (by omega) rfl (by omega) m1 m2 e1 e2 (by omega) (by rw [bef_1970]; omega), if_neg (by omega)]
    exact congrArg some (Prod.ext (by dsimp only; omega) rfl)
  | succ d ih =>
    intro k y m e n i h0 h1 h2 hd hk m1 m2 e1 e2 n1 n2
    obtain ⟨k, rfl⟩ : ∃ j, k = j + 1 := ⟨k - 1, by omega⟩
    have hs := bef_succ i (by omega)
    have h01 := lp_01 i
    have hb := bef_bd i (by omega) (by omega)
    simp only [decorumref01_Days.l0]
    have key : ∀ z, z = n + 365 + lp i → decorumref01_Days.l0 k y m e z (wrap64 (i + 1)) = some (n + (bef y - bef i) + cum y m + e - 1, true) := by
      intro z hz
      rw [wrap_in _ (by omega) (by omega), ih k y m e z (i + 1) (by omega) (by omega) (by omega) (by omega) (by omega) m1 m2 e1 e2 (by omega) (by omega)]
      exact congrArg some (Prod.ext (by dsimp only; omega) rfl)
    rw [if_pos (by omega), rleap_eq]
    simp only [Option.bind_some]
    rcases h01 with h | h
    · rw [if_neg (by rw [h]; decide)]
      exact key _ (by rw [wrap_in _ (by omega) (by omega)]; omega)
    · rw [if_pos (by rw [h]; decide)]
      exact key _ (by rw [wrap_in (n + 365) (by omega) (by omega), wrap_in _ (by omega) (by omega)]; omega)
theorem rdays_eq (k : Nat) (y m d : Int) (hk : 10100 ≤ k) : decorumref01_Days.f k y m d = some (dys y m d) := by
  obtain ⟨k, rfl⟩ : ∃ j, k = j + 2 := ⟨k - 2, by omega⟩
  unfold decorumref01_Days.f dys
  rw [rlength_eq _ y m (by omega)]
  simp only [Option.bind_some, decorumref01_Days.j0, if_true]
  by_cases h0 : y < 0
  · rw [if_pos h0, okd_no (by omega)]; rfl
  rw [if_neg h0]
  by_cases h1 : y > 9999
  · rw [if_pos h1, okd_no (by omega)]; rfl
  rw [if_neg h1]
  by_cases h2 : d < 1
  · rw [if_pos h2, okd_no (by omega)]; rfl
  rw [if_neg h2]
  by_cases h3 : d > len y m
  · rw [if_pos (by simpa using h3), okd_no (by omega)]; rfl
  have hl := len_bd y m
  have hm := len_pos y m (by omega)
  have hb := bef_bd y (by omega) (by omega)
  rw [if_neg (by simpa using h3), okd_mk (by omega), if_pos rfl]
  by_cases h4 : 1970 ≤ y
  · rw [rdays_l0 _ (k + 1) y m d 0 1970 (by omega) h4 (by omega) rfl (by omega) hm.1 hm.2 (by omega) (by omega) (by omega) (by rw [bef_1970]; omega), bef_1970]
    exact congrArg some (Prod.ext (by dsimp only [num]; omega) rfl)
  · simp only [decorumref01_Days.l0]
    rw [if_neg (by omega), rdays_l1 _ k y m d 0 y (by omega) (by omega) rfl (by omega) hm.1 hm.2 (by omega) (by omega) (by omega) (by rw [bef_1970]; omega), if_pos (by omega), bef_1970]
    exact congrArg some (Prod.ext (by dsimp only [num]; omega) rfl)
theorem awake_ev : ∃ K, ∀ k, K ≤ k → decorumlaw02_awake.f k = some true := Ev.of decorumlaw02_awake.mono (k := 100) (by decide +kernel)
end CivilDays
open CivilDays in
theorem CivilDays : decorumlaw02_CivilDays.Pure := by
  intro y m d _ _ _
  obtain ⟨K, h⟩ := awake_ev
  refine ⟨K + 10100, ?_⟩
  unfold decorumlaw02_CivilDays.f
  rw [h _ (by omega), days_eq _ y m d (by omega), rdays_eq _ y m d (by omega), length_eq _ y m (by omega), rlength_eq _ y m (by omega), leap_eq, rleap_eq]
  simp

end Go.Proofs.Ytgfbodnidghldaa.Pure
