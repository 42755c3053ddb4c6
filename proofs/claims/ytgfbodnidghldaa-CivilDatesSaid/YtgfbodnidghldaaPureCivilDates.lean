/- CivilDates: Date is the inverse of the document's Days for any int; no condition. -/
import Derived.Test.YtgfbodnidghldaaPCivilDatesx3
namespace Go.Proofs.Ytgfbodnidghldaa.Pure
open Go.RowKit Go.Proofs.Ytgfbodnidghldaa.PCivilDates Go.Proofs.YtgfbodnidghldaaW.PrintWords Go.Proofs.YtgfbodnidghldaaW.PrintLast Go.Proofs.YtgfbodnidghldaaW.PrintMore
set_option linter.unusedVariables false
namespace CivilDates
theorem wrap_in (n : Int) (h : -9223372036854775808 ≤ n) (h' : n ≤ 9223372036854775807) : wrap64 n = n := by
  unfold wrap64; omega
/-- one in a leap year, else nought. -/
def lp (y : Int) : Int := if y % 4 = 0 ∧ (y % 100 ≠ 0 ∨ y % 400 = 0) then 1 else 0
def len (y m : Int) : Int := if m = 2 then 28 + lp y else if m = 4 ∨ m = 6 ∨ m = 9 ∨ m = 11 then 30 else if 1 ≤ m ∧ m ≤ 12 then 31 else 0
def bef (y : Int) : Int := if y = 0 then 0 else 365 * y + (y - 1) / 4 - (y - 1) / 100 + (y - 1) / 400 + 1
/-- the days of a year ahead of a month. -/
def cum (y m : Int) : Int := if m ≤ 2 then 31 * (m - 1) else (153 * m - 457) / 5 + 59 + lp y
theorem tm0 (a n : Int) : (Int.tmod a n = 0) = (a % n = 0) := by
  rw [← Int.dvd_iff_tmod_eq_zero, ← Int.dvd_iff_emod_eq_zero]
theorem lp_01 (y : Int) : lp y = 0 ∨ lp y = 1 := by unfold lp; split <;> omega
theorem len_bd (y m : Int) : 0 ≤ len y m ∧ len y m ≤ 31 := by
  have := lp_01 y
  unfold len; split
  · omega
  · split
    · omega
    · split <;> omega
theorem len_pos (y m : Int) (h : 1 ≤ len y m) : 1 ≤ m ∧ m ≤ 12 := by
  unfold len at h; split at h
  · omega
  · split at h
    · omega
    · split at h <;> omega
theorem len_ge (y m : Int) (h : 1 ≤ m ∧ m ≤ 12) : 28 ≤ len y m := by
  have := lp_01 y
  unfold len; split
  · omega
  · split
    · omega
    · first | omega | (split <;> omega)
theorem bef_succ (y : Int) (h : 0 ≤ y) : bef (y + 1) = bef y + 365 + lp y := by
  unfold bef lp
  by_cases h0 : y = 0
  · subst h0; rfl
  · rw [if_neg h0, if_neg (by omega)]
    split <;> omega
theorem bef_bd (y : Int) (h : 0 ≤ y) (h' : y ≤ 10000) : 0 ≤ bef y ∧ bef y ≤ 3652425 := by
  unfold bef
  split <;> omega
theorem cum_1 (y : Int) : cum y 1 = 0 := rfl
theorem cum_succ (y m : Int) (h : 1 ≤ m) (h' : m ≤ 12) : cum y (m + 1) = cum y m + len y m := by
  have e : m = 1 ∨ m = 2 ∨ m = 3 ∨ m = 4 ∨ m = 5 ∨ m = 6 ∨ m = 7 ∨ m = 8 ∨ m = 9 ∨ m = 10 ∨ m = 11 ∨ m = 12 := by omega
  rcases e with rfl | rfl | rfl | rfl | rfl | rfl | rfl | rfl | rfl | rfl | rfl | rfl <;> (unfold cum len; simp; try omega)
theorem cum_13 (y : Int) : cum y 13 = 365 + lp y := by unfold cum; simp
theorem cum_bd (y m : Int) (h : 1 ≤ m) (h' : m ≤ 13) : 0 ≤ cum y m ∧ cum y m ≤ 366 := by
  have := lp_01 y
  unfold cum; split <;> omega
/-- the number of a day. -/
def num (y m d : Int) : Int := bef y - 719528 + cum y m + d - 1
theorem leap_eq (y : Int) : civil_Leap.f y = some (lp y == 1) := by
  unfold civil_Leap.f lp
  simp only [tm0]
  by_cases a : y % 4 = 0
  · rw [if_pos a]
    by_cases b : y % 100 = 0
    · rw [if_pos b]
      by_cases c : y % 400 = 0
      · rw [if_pos ⟨a, Or.inr c⟩]
        have := (tm0 y 400).mpr c
        simp [this]
      · rw [if_neg (by omega)]
        have : ¬ Int.tmod y 400 = 0 := fun h => c ((tm0 y 400).mp h)
        simp [this]
    · rw [if_neg b, if_pos ⟨a, Or.inl b⟩]; rfl
  · rw [if_neg a, if_neg (by omega)]; rfl
theorem length_eq (k : Nat) (y m : Int) (hk : 0 < k) : civil_Length.f k y m = some (len y m) := by
  obtain ⟨k, rfl⟩ : ∃ j, k = j + 1 := ⟨k - 1, by omega⟩
  unfold civil_Length.f
  rw [leap_eq]
  have h01 := lp_01 y
  by_cases hm : 1 ≤ m ∧ m ≤ 12
  · have e : m = 1 ∨ m = 2 ∨ m = 3 ∨ m = 4 ∨ m = 5 ∨ m = 6 ∨ m = 7 ∨ m = 8 ∨ m = 9 ∨ m = 10 ∨ m = 11 ∨ m = 12 := by omega
    unfold len
    rcases e with rfl | rfl | rfl | rfl | rfl | rfl | rfl | rfl | rfl | rfl | rfl | rfl <;> first | rfl | (rcases h01 with h | h <;> rw [h] <;> rfl)
  · have e : len y m = 0 := by unfold len; split <;> first | omega | (split <;> first | omega | (split <;> omega))
    rw [e, if_neg (show ¬ m = 2 by omega), if_neg (show ¬ m = 4 by omega), if_neg (show ¬ m = 6 by omega), if_neg (show ¬ m = 9 by omega)]
    simp only [civil_Length.j0]
    have e11 : (m == 11) = false := beq_eq_false_iff_ne.2 (by omega)
    rw [e11, if_neg (by decide), if_neg (show ¬ m = 1 by omega), if_neg (show ¬ m = 3 by omega), if_neg (show ¬ m = 5 by omega), if_neg (show ¬ m = 7 by omega), if_neg (show ¬ m = 8 by omega), if_neg (show ¬ m = 10 by omega), if_neg (show ¬ m = 12 by omega)]
theorem before_eq (y : Int) (h : 0 ≤ y) (h' : y ≤ 10000) : civil_before.f y = some (bef y) := by
  unfold civil_before.f bef
  by_cases h0 : y = 0
  · rw [if_pos h0, if_pos h0]
  · rw [if_neg h0, if_neg h0, wrap_in (y - 1) (by omega) (by omega)]
    rw [Int.tdiv_eq_ediv_of_nonneg (by omega), Int.tdiv_eq_ediv_of_nonneg (by omega), Int.tdiv_eq_ediv_of_nonneg (by omega)]
    rw [wrap_in (365 * y) (by omega) (by omega), wrap_in ((y - 1) / 4) (by omega) (by omega), wrap_in ((y - 1) / 100) (by omega) (by omega), wrap_in ((y - 1) / 400) (by omega) (by omega)]
    rw [wrap_in (365 * y + (y - 1) / 4) (by omega) (by omega), wrap_in (365 * y + (y - 1) / 4 - (y - 1) / 100) (by omega) (by omega), wrap_in (365 * y + (y - 1) / 4 - (y - 1) / 100 + (y - 1) / 400) (by omega) (by omega), wrap_in _ (by omega) (by omega)]
theorem days_l0 (d : Nat) : ∀ (k : Nat) (y m n i : Int), 1 ≤ i → i ≤ m → m ≤ 12 → (m - i).toNat = d → d < k → -8000000 ≤ n → n ≤ 8000000 + 31 * i → civil_Days.l0 k y m n i = some (n + cum y m - cum y i, true) := by
  induction d with
  | zero =>
    intro k y m n i h1 h2 h3 hd hk _ _
    obtain ⟨k, rfl⟩ : ∃ j, k = j + 1 := ⟨k - 1, by omega⟩
    simp only [civil_Days.l0]
    rw [if_neg (by omega)]
    obtain rfl : i = m := by omega
    exact congrArg some (Prod.ext (by dsimp only; omega) rfl)
  | succ d ih =>
    intro k y m n i h1 h2 h3 hd hk b1 b2
    obtain ⟨k, rfl⟩ : ∃ j, k = j + 1 := ⟨k - 1, by omega⟩
    have hl := len_bd y i
    simp only [civil_Days.l0]
    rw [if_pos (by omega), length_eq k y i (by omega)]
    simp only [Option.bind_some]
    rw [wrap_in _ (by omega) (by omega), wrap_in _ (by omega) (by omega), ih k y m _ (i + 1) (by omega) (by omega) h3 (by omega) (by omega) (by have := len_bd y i; omega) (by omega), cum_succ y i h1 (by omega)]
    exact congrArg some (Prod.ext (by dsimp only; omega) rfl)
/-- is there such a day? -/
def okd (y m d : Int) : Bool := decide (0 ≤ y ∧ y ≤ 9999 ∧ 1 ≤ d ∧ d ≤ len y m)
def dys (y m d : Int) : Int × Bool := if okd y m d = true then (num y m d, true) else (0, false)
theorem okd_mk {y m d : Int} (h : 0 ≤ y ∧ y ≤ 9999 ∧ 1 ≤ d ∧ d ≤ len y m) : okd y m d = true := decide_eq_true h
theorem okd_no {y m d : Int} (h : ¬ (0 ≤ y ∧ y ≤ 9999 ∧ 1 ≤ d ∧ d ≤ len y m)) : okd y m d = false := decide_eq_false h
theorem bef_1970 : bef 1970 = 719528 := by decide
theorem days_eq (k : Nat) (y m d : Int) (hk : 20 ≤ k) : civil_Days.f k y m d = some (dys y m d) := by
  obtain ⟨k, rfl⟩ : ∃ j, k = j + 1 := ⟨k - 1, by omega⟩
  unfold civil_Days.f dys
  rw [length_eq _ y m (by omega)]
  simp only [Option.bind_some, civil_Days.j0, if_true]
  by_cases h0 : y < 0
  · rw [if_pos h0, okd_no (by omega)]; rfl
  rw [if_neg h0]
  by_cases h1 : y > 9999
  · rw [if_pos h1, okd_no (by omega)]; rfl
  rw [if_neg h1]
  by_cases h2 : d < 1
  · rw [if_pos h2, okd_no (by omega)]; rfl
  rw [if_neg h2]
  by_cases h3 : d > len y m
  · rw [if_pos (by simpa using h3), okd_no (by omega)]; rfl
  rw [if_neg (by simpa using h3), okd_mk (by omega), before_eq y (by omega) (by omega), before_eq 1970 (by omega) (by omega), bef_1970]
  simp only [Option.bind_some, if_true]
  have hb := bef_bd y (by omega) (by omega)
  have hl := len_bd y m
  have hm := len_pos y m (by omega)
  rw [wrap_in (bef y - 719528) (by omega) (by omega), wrap_in (bef y - 719528 + d) (by omega) (by omega), wrap_in _ (by omega) (by omega), days_l0 _ k y m _ 1 (by omega) (by omega) hm.2 rfl (by omega) (by omega) (by omega), cum_1]
  exact congrArg some (Prod.ext (by dsimp only [num]; omega) rfl)
theorem rleap_eq (y : Int) : decorumref01_Leap.f y = some (lp y == 1) := by
  unfold decorumref01_Leap.f lp
  simp only [tm0]
  by_cases c : y % 400 = 0
  · rw [if_pos c, if_pos ⟨by omega, Or.inr c⟩]; rfl
  · rw [if_neg c]
    by_cases a : y % 4 = 0
    · rw [if_pos a]
      by_cases b : y % 100 = 0
      · rw [if_neg (by omega)]
        have := (tm0 y 100).mpr b
        simp [this]
      · rw [if_pos ⟨a, Or.inl b⟩]
        have : ¬ Int.tmod y 100 = 0 := fun h => b ((tm0 y 100).mp h)
        simp [this]
    · rw [if_neg a, if_neg (by omega)]; rfl
theorem rlength_eq (k : Nat) (y m : Int) (hk : 0 < k) : decorumref01_Length.f k y m = some (len y m) := by
  obtain ⟨k, rfl⟩ : ∃ j, k = j + 1 := ⟨k - 1, by omega⟩
  unfold decorumref01_Length.f
  simp only [Option.bind_some, decorumref01_Length.j0]
  have h01 := lp_01 y
  unfold len
  by_cases h1 : m < 1
  · rw [if_pos h1]; simp only [if_true]; rw [if_neg (show ¬ m = 2 by omega), if_neg (show ¬ (m = 4 ∨ m = 6 ∨ m = 9 ∨ m = 11) by omega), if_neg (show ¬ (1 ≤ m ∧ m ≤ 12) by omega)]
  rw [if_neg h1]
  by_cases h2 : m > 12
  · rw [if_pos (by simpa using h2), if_neg (show ¬ m = 2 by omega), if_neg (show ¬ (m = 4 ∨ m = 6 ∨ m = 9 ∨ m = 11) by omega), if_neg (show ¬ (1 ≤ m ∧ m ≤ 12) by omega)]
  rw [if_neg (by simpa using h2), rleap_eq]
  simp only [Option.bind_some]
  have e : m = 1 ∨ m = 2 ∨ m = 3 ∨ m = 4 ∨ m = 5 ∨ m = 6 ∨ m = 7 ∨ m = 8 ∨ m = 9 ∨ m = 10 ∨ m = 11 ∨ m = 12 := by omega
  rcases e with rfl | rfl | rfl | rfl | rfl | rfl | rfl | rfl | rfl | rfl | rfl | rfl <;> first | rfl | (rcases h01 with h | h <;> rw [h] <;> rfl)
theorem rdays_l2 (d : Nat) : ∀ (k : Nat) (y m e n i : Int), 1 ≤ i → i ≤ m → m ≤ 12 → 0 ≤ e → e ≤ 31 → (m - i).toNat = d → d < k → -8000000 ≤ n → n ≤ 8000000 + 31 * i → decorumref01_Days.l2 k y m e n i = some (n + cum y m - cum y i + e - 1, true) := by
  induction d with
  | zero =>
    intro k y m e n i h1 h2 h3 e1 e2 hd hk _ _
    obtain ⟨k, rfl⟩ : ∃ j, k = j + 1 := ⟨k - 1, by omega⟩
    simp only [decorumref01_Days.l2]
    rw [if_neg (by omega), wrap_in (n + e) (by omega) (by omega), wrap_in _ (by omega) (by omega)]
    obtain rfl : i = m := by omega
    exact congrArg some (Prod.ext (by dsimp only; omega) rfl)
  | succ d ih =>
    intro k y m e n i h1 h2 h3 e1 e2 hd hk b1 b2
    obtain ⟨k, rfl⟩ : ∃ j, k = j + 1 := ⟨k - 1, by omega⟩
    have hl := len_bd y i
    simp only [decorumref01_Days.l2]
    rw [if_pos (by omega), rlength_eq k y i (by omega)]
    simp only [Option.bind_some]
    rw [wrap_in _ (by omega) (by omega), wrap_in _ (by omega) (by omega), ih k y m e _ (i + 1) (by omega) (by omega) h3 e1 e2 (by omega) (by omega) (by omega) (by omega), cum_succ y i h1 (by omega)]
    exact congrArg some (Prod.ext (by dsimp only; omega) rfl)
theorem rdays_l1 (d : Nat) : ∀ (k : Nat) (y m e n i : Int), 0 ≤ i → i ≤ 10000 → (1970 - i).toNat = d → d + 20 < k → 1 ≤ m → m ≤ 12 → 0 ≤ e → e ≤ 31 → n ≤ 7000000 → -4000000 ≤ n - (bef 1970 - bef i) →
    decorumref01_Days.l1 k y m e n i = some (n - (if i < 1970 then bef 1970 - bef i else 0) + cum y m + e - 1, true) := by
  induction d with
  | zero =>
    intro k y m e n i h0 h1 hd hk m1 m2 e1 e2 _ n3
    have hb := bef_bd i h0 h1
    rw [bef_1970] at n3
    obtain ⟨k, rfl⟩ : ∃ j, k = j + 1 := ⟨k - 1, by omega⟩
    simp only [decorumref01_Days.l1]
    rw [if_neg (by omega), rdays_l2 _ k y m e n 1 (by omega) m1 m2 e1 e2 rfl (by omega) (by omega) (by omega), cum_1, if_neg (by omega)]
    exact congrArg some (Prod.ext (by dsimp only; omega) rfl)
  | succ d ih =>
    intro k y m e n i h0 h1 hd hk m1 m2 e1 e2 n2 n3
    obtain ⟨k, rfl⟩ : ∃ j, k = j + 1 := ⟨k - 1, by omega⟩
    have hs := bef_succ i h0
    have h01 := lp_01 i
    have hb := bef_bd i h0 h1
    rw [bef_1970] at n3 ⊢
    simp only [decorumref01_Days.l1]
    have key : ∀ z, z = n - 365 - lp i → decorumref01_Days.l1 k y m e z (wrap64 (i + 1)) = some (n - (if i < 1970 then 719528 - bef i else 0) + cum y m + e - 1, true) := by
      intro z hz
      rw [wrap_in _ (by omega) (by omega), ih k y m e z (i + 1) (by omega) (by omega) (by omega) (by omega) m1 m2 e1 e2 (by omega) (by rw [bef_1970]; omega), bef_1970, if_pos (show i < 1970 by omega)]
      refine congrArg some (Prod.ext ?_ rfl)
      simp only
      by_cases hi : i + 1 < 1970
      · rw [if_pos hi]; omega
      · rw [if_neg hi]
        have : i = 1969 := by omega
        subst this
        have : bef (1969 + 1) = 719528 := bef_1970
        omega
    rw [if_pos (by omega), rleap_eq]
    simp only [Option.bind_some]
    rcases h01 with h | h
    · rw [if_neg (by rw [h]; decide)]
      exact key _ (by rw [wrap_in _ (by omega) (by omega)]; omega)
    · rw [if_pos (by rw [h]; decide)]
      exact key _ (by rw [wrap_in (n - 365) (by omega) (by omega), wrap_in _ (by omega) (by omega)]; omega)
theorem rdays_l0 (d : Nat) : ∀ (k : Nat) (y m e n i : Int), 1970 ≤ i → i ≤ y → y ≤ 9999 → (y - i).toNat = d → d + 30 < k → 1 ≤ m → m ≤ 12 → 0 ≤ e → e ≤ 31 → 0 ≤ n → n ≤ bef i - 719528 →
    decorumref01_Days.l0 k y m e n i = some (n + (bef y - bef i) + cum y m + e - 1, true) := by
  induction d with
  | zero =>
    intro k y m e n i h0 h1 h2 hd hk m1 m2 e1 e2 n1 n2
    obtain ⟨k, rfl⟩ : ∃ j, k = j + 1 := ⟨k - 1, by omega⟩
    obtain rfl : i = y := by omega
    have hb := bef_bd i (by omega) (by omega)
    simp only [decorumref01_Days.l0]
    rw [if_neg (by omega), rdays_l1 _ k i m e n i (by omega) (by omega) rfl (by omega) m1 m2 e1 e2 (by omega) (by rw [bef_1970]; omega), if_neg (by omega)]
    exact congrArg some (Prod.ext (by dsimp only; omega) rfl)
  | succ d ih =>
    intro k y m e n i h0 h1 h2 hd hk m1 m2 e1 e2 n1 n2
    obtain ⟨k, rfl⟩ : ∃ j, k = j + 1 := ⟨k - 1, by omega⟩
    have hs := bef_succ i (by omega)
    have h01 := lp_01 i
    have hb := bef_bd i (by omega) (by omega)
    simp only [decorumref01_Days.l0]
    have key : ∀ z, z = n + 365 + lp i → decorumref01_Days.l0 k y m e z (wrap64 (i + 1)) = some (n + (bef y - bef i) + cum y m + e - 1, true) := by
      intro z hz
      rw [wrap_in _ (by omega) (by omega), ih k y m e z (i + 1) (by omega) (by omega) (by omega) (by omega) (by omega) m1 m2 e1 e2 (by omega) (by omega)]
      exact congrArg some (Prod.ext (by dsimp only; omega) rfl)
    rw [if_pos (by omega), rleap_eq]
    simp only [Option.bind_some]
    rcases h01 with h | h
    · rw [if_neg (by rw [h]; decide)]
      exact key _ (by rw [wrap_in _ (by omega) (by omega)]; omega)
    · rw [if_pos (by rw [h]; decide)]
      exact key _ (by rw [wrap_in (n + 365) (by omega) (by omega), wrap_in _ (by omega) (by omega)]; omega)
theorem rdays_eq (k : Nat) (y m d : Int) (hk : 10100 ≤ k) : decorumref01_Days.f k y m d = some (dys y m d) := by
  obtain ⟨k, rfl⟩ : ∃ j, k = j + 2 := ⟨k - 2, by omega⟩
  unfold decorumref01_Days.f dys
  rw [rlength_eq _ y m (by omega)]
  simp only [Option.bind_some, decorumref01_Days.j0, if_true]
  by_cases h0 : y < 0
  · rw [if_pos h0, okd_no (by omega)]; rfl
  rw [if_neg h0]
  by_cases h1 : y > 9999
  · rw [if_pos h1, okd_no (by omega)]; rfl
  rw [if_neg h1]
  by_cases h2 : d < 1
  · rw [if_pos h2, okd_no (by omega)]; rfl
  rw [if_neg h2]
  by_cases h3 : d > len y m
  · rw [if_pos (by simpa using h3), okd_no (by omega)]; rfl
  have hl := len_bd y m
  have hm := len_pos y m (by omega)
  have hb := bef_bd y (by omega) (by omega)
  rw [if_neg (by simpa using h3), okd_mk (by omega), if_pos rfl]
  by_cases h4 : 1970 ≤ y
  · rw [rdays_l0 _ (k + 1) y m d 0 1970 (by omega) h4 (by omega) rfl (by omega) hm.1 hm.2 (by omega) (by omega) (by omega) (by rw [bef_1970]; omega), bef_1970]
    exact congrArg some (Prod.ext (by dsimp only [num]; omega) rfl)
  · simp only [decorumref01_Days.l0]
    rw [if_neg (by omega), rdays_l1 _ k y m d 0 y (by omega) (by omega) rfl (by omega) hm.1 hm.2 (by omega) (by omega) (by omega) (by rw [bef_1970]; omega), if_pos (by omega), bef_1970]
    exact congrArg some (Prod.ext (by dsimp only [num]; omega) rfl)
theorem date_l1 (d : Nat) : ∀ (k : Nat) (y m r : Int), 1 ≤ m → m ≤ 12 → 0 ≤ r → r < 365 + lp y - cum y m → (12 - m).toNat = d → d < k → 0 < k - d - 1 →
    ∃ m' e, civil_Date.l1 k y m r = some (y, m', e, true) ∧ 1 ≤ m' ∧ m' ≤ 12 ∧ 1 ≤ e ∧ e ≤ len y m' ∧ cum y m' + e - 1 = cum y m + r := by
  induction d with
  | zero =>
    intro k y m r h1 h2 h3 h4 hd hk hk2
    obtain ⟨k, rfl⟩ : ∃ j, k = j + 1 := ⟨k - 1, by omega⟩
    obtain rfl : m = 12 := by omega
    have hs := cum_succ y 12 (by omega) (by omega)
    have h13 := cum_13 y
    have e13 : cum y (12 + 1) = cum y 13 := rfl
    have hl := len_bd y 12
    refine ⟨12, r + 1, ?_, by omega, by omega, by omega, by omega, by omega⟩
    simp only [civil_Date.l1]
    rw [length_eq k y 12 (by omega)]
    simp only [Option.bind_some]
    rw [if_neg (by omega), wrap_in _ (by omega) (by omega)]
  | succ d ih =>
    intro k y m r h1 h2 h3 h4 hd hk hk2
    obtain ⟨k, rfl⟩ : ∃ j, k = j + 1 := ⟨k - 1, by omega⟩
    have hs := cum_succ y m (by omega) (by omega)
    have hl := len_bd y m
    have hb := cum_bd y m (by omega) (by omega)
    have h01 := lp_01 y
    by_cases h : r ≥ len y m
    · obtain ⟨m', e, he, g⟩ := ih k y (m + 1) (r - len y m) (by omega) (by omega) (by omega) (by omega) (by omega) (by omega) (by omega)
      refine ⟨m', e, ?_, by omega⟩
      simp only [civil_Date.l1]
      rw [length_eq k y m (by omega)]
      simp only [Option.bind_some]
      rw [if_pos h, wrap_in _ (by omega) (by omega), wrap_in _ (by omega) (by omega)]
      exact he
    · refine ⟨m, r + 1, ?_, by omega, by omega, by omega, by omega, by omega⟩
      simp only [civil_Date.l1]
      rw [length_eq k y m (by omega)]
      simp only [Option.bind_some]
      rw [if_neg h, wrap_in _ (by omega) (by omega)]
theorem bef_10000 : bef 10000 = 3652425 := by decide
theorem date_l0 (d : Nat) : ∀ (k : Nat) (y t : Int), 0 ≤ y → y ≤ 9999 → bef y ≤ t → t < 3652425 → (9999 - y).toNat = d → d + 20 < k →
    ∃ y' m e, civil_Date.l0 k y t = some (y', m, e, true) ∧ 0 ≤ y' ∧ y' ≤ 9999 ∧ 1 ≤ m ∧ m ≤ 12 ∧ 1 ≤ e ∧ e ≤ len y' m ∧ bef y' + cum y' m + e - 1 = t := by
  have fin : ∀ (k : Nat) (y t : Int), 0 ≤ y → y ≤ 9999 → bef y ≤ t → t < bef (y + 1) → 15 < k →
      ∃ y' m e, civil_Date.l0 (k + 1) y t = some (y', m, e, true) ∧ 0 ≤ y' ∧ y' ≤ 9999 ∧ 1 ≤ m ∧ m ≤ 12 ∧ 1 ≤ e ∧ e ≤ len y' m ∧ bef y' + cum y' m + e - 1 = t := by
    intro k y t h0 h1 h2 h3 hk
    have hs := bef_succ y h0
    have hb := bef_bd y h0 (by omega)
    have h01 := lp_01 y
    obtain ⟨m, e, he, g1, g2, g3, g4, g5⟩ := date_l1 _ k y 1 (t - bef y) (by omega) (by omega) (by omega) (by rw [cum_1]; omega) rfl (by omega) (by omega)
    rw [cum_1] at g5
    refine ⟨y, m, e, ?_, h0, h1, g1, g2, g3, g4, by omega⟩
    simp only [civil_Date.l0]
    rw [wrap_in (y + 1) (by omega) (by omega), before_eq (y + 1) (by omega) (by omega)]
    simp only [Option.bind_some]
    rw [if_neg (by omega), before_eq y (by omega) (by omega)]
    simp only [Option.bind_some]
    rw [wrap_in _ (by omega) (by omega)]
    exact he
  induction d with
  | zero =>
    intro k y t h0 h1 h2 h3 hd hk
    obtain ⟨k, rfl⟩ : ∃ j, k = j + 1 := ⟨k - 1, by omega⟩
    obtain rfl : y = 9999 := by omega
    exact fin k 9999 t h0 h1 h2 (by have e : bef (9999 + 1) = 3652425 := bef_10000; rw [e]; exact h3) (by omega)
  | succ d ih =>
    intro k y t h0 h1 h2 h3 hd hk
    obtain ⟨k, rfl⟩ : ∃ j, k = j + 1 := ⟨k - 1, by omega⟩
    by_cases h : bef (y + 1) ≤ t
    · obtain ⟨y', m, e, he, g⟩ := ih k (y + 1) t (by omega) (by omega) h h3 (by omega) (by omega)
      refine ⟨y', m, e, ?_, g⟩
      simp only [civil_Date.l0]
      rw [wrap_in (y + 1) (by omega) (by omega), before_eq (y + 1) (by omega) (by omega)]
      simp only [Option.bind_some]
      rw [if_pos h]
      exact he
    · exact fin k y t h0 h1 h2 (by omega) (by omega)
theorem bef_le (y : Int) (h : 0 ≤ y) : bef y ≤ 366 * y := by unfold bef; split <;> omega
theorem date_f (k : Nat) (n : Int) (hn : (Lit.int .i64 n).wf = true) : civil_Date.f k n = civil_Date.j0 k n (-719528) (decide (n < -719528 ∨ n > 2932896)) := by
  unfold civil_Date.f
  rw [before_eq 1970 (by omega) (by omega), before_eq 10000 (by omega) (by omega), bef_1970, bef_10000]
  simp only [Option.bind_some]
  rw [wrap_in (-719528) (by omega) (by omega), wrap_in (3652425 - 719528) (by omega) (by omega), wrap_in (3652425 - 719528 - 1) (by omega) (by omega)]
  by_cases h : n < -719528
  · rw [if_pos h, decide_eq_true (Or.inl h)]
  · rw [if_neg h]
    congr 1
    by_cases h2 : n > 2932896
    · rw [decide_eq_true (Or.inr h2), decide_eq_true (by omega)]
    · rw [decide_eq_false (by omega), decide_eq_false (by omega)]
theorem date_no (k : Nat) (n : Int) (hn : (Lit.int .i64 n).wf = true) (h : n < -719528 ∨ n > 2932896) (hk : 0 < k) : civil_Date.f k n = some (0, 0, 0, false) := by
  obtain ⟨k, rfl⟩ : ∃ j, k = j + 1 := ⟨k - 1, by omega⟩
  rw [date_f _ n hn, decide_eq_true h]
  rfl
theorem date_yes (k : Nat) (n : Int) (hn : (Lit.int .i64 n).wf = true) (h : -719528 ≤ n) (h' : n ≤ 2932896) (hk : 10100 ≤ k) :
    ∃ y m d, civil_Date.f k n = some (y, m, d, true) ∧ 0 ≤ y ∧ y ≤ 9999 ∧ 1 ≤ m ∧ m ≤ 12 ∧ 1 ≤ d ∧ d ≤ len y m ∧ num y m d = n := by
  obtain ⟨k, rfl⟩ : ∃ j, k = j + 1 := ⟨k - 1, by omega⟩
  rw [date_f _ n hn, decide_eq_false (by omega)]
  have hle := bef_le ((n + 719528) / 366) (by omega)
  obtain ⟨y, m, d, he, g1, g2, g3, g4, g5, g6, g7⟩ := date_l0 _ k ((n + 719528) / 366) (n + 719528) (by omega) (by omega) (by omega) (by omega) rfl (by omega)
  refine ⟨y, m, d, ?_, g1, g2, g3, g4, g5, g6, by unfold num; omega⟩
  simp only [civil_Date.j0]
  rw [if_neg (by decide)]
  have e : n - -719528 = n + 719528 := by omega
  rw [e, wrap_in (n + 719528) (by omega) (by omega), Int.tdiv_eq_ediv_of_nonneg (by omega), wrap_in _ (by omega) (by omega)]
  exact he
theorem awake_ev : ∃ K, ∀ k, K ≤ k → decorumlaw02_awake.f k = some true := Ev.of decorumlaw02_awake.mono (k := 100) (by decide +kernel)
theorem first_day : dys 0 1 1 = (-719528, true) := by decide
theorem last_day : dys 9999 12 31 = (2932896, true) := by decide
end CivilDates
open CivilDates in
theorem CivilDates : decorumlaw02_CivilDates.Pure := by
  intro n hn
  obtain ⟨K, h⟩ := awake_ev
  refine ⟨K + 10101, ?_⟩
  unfold decorumlaw02_CivilDates.f
  rw [rdays_eq _ 0 1 1 (by omega), rdays_eq _ 9999 12 31 (by omega), first_day, last_day]
  by_cases hr : n < -719528 ∨ n > 2932896
  · rw [date_no _ n hn hr (by omega)]
    simp only [Option.bind_some]
    have key : decorumlaw02_CivilDates.j0 (K + 10101) n 0 0 0 false true = some true := by
      simp only [decorumlaw02_CivilDates.j0]
      rw [h _ (by omega)]
      simp
    by_cases h1 : n < -719528
    · rw [if_pos h1]; exact key
    · rw [if_neg h1, decide_eq_true (by omega)]; exact key
  · obtain ⟨y, m, d, he, g1, g2, g3, g4, g5, g6, g7⟩ := date_yes (K + 10101) n hn (by omega) (by omega) (by omega)
    rw [he]
    simp only [Option.bind_some]
    rw [if_neg (by omega), decide_eq_false (by omega)]
    simp only [decorumlaw02_CivilDates.j0]
    rw [if_neg (by decide), rdays_eq _ y m d (by omega), h _ (by omega)]
    have e : dys y m d = (n, true) := by unfold dys; rw [okd_mk ⟨g1, g2, g5, g6⟩, if_pos rfl, g7]
    rw [e]
    simp

end Go.Proofs.Ytgfbodnidghldaa.Pure
