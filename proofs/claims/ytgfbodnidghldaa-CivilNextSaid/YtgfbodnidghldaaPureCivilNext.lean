/- CivilNext: for any uint32 the day behind a day is the next one of its month or the first of the next month; no condition. -/
import Derived.Test.YtgfbodnidghldaaPCivilNextx2
namespace Go.Proofs.Ytgfbodnidghldaa.Pure
open Go.RowKit Go.Proofs.Ytgfbodnidghldaa.PCivilNext Go.Proofs.YtgfbodnidghldaaW.PrintWords Go.Proofs.YtgfbodnidghldaaW.PrintLast Go.Proofs.YtgfbodnidghldaaW.PrintMore
set_option linter.unusedVariables false
namespace CivilNext
theorem bd_u8 {n : Int} (h : (Lit.int .u8 n).wf = true) : 0 ≤ n ∧ n ≤ 255 := by
  simp [Lit.wf, IntKind.min, IntKind.max, IntKind.signed, IntKind.bits] at h
  omega
theorem bd_u16 {n : Int} (h : (Lit.int .u16 n).wf = true) : 0 ≤ n ∧ n ≤ 65535 := by
  simp [Lit.wf, IntKind.min, IntKind.max, IntKind.signed, IntKind.bits] at h
  omega
theorem bd_u32 {n : Int} (h : (Lit.int .u32 n).wf = true) : 0 ≤ n ∧ n ≤ 4294967295 := by
  simp [Lit.wf, IntKind.min, IntKind.max, IntKind.signed, IntKind.bits] at h
  omega
theorem bd_i64 {n : Int} (h : (Lit.int .i64 n).wf = true) : -9223372036854775808 ≤ n ∧ n ≤ 9223372036854775807 := by
  simp [Lit.wf, IntKind.min, IntKind.max, IntKind.signed, IntKind.bits] at h
  omega
theorem wrap_in (n : Int) (h : -9223372036854775808 ≤ n) (h' : n ≤ 9223372036854775807) : wrap64 n = n := by
  unfold wrap64; omega
/-- one in a leap year, else nought. -/
def lp (y : Int) : Int := if y % 4 = 0 ∧ (y % 100 ≠ 0 ∨ y % 400 = 0) then 1 else 0
def len (y m : Int) : Int := if m = 2 then 28 + lp y else if m = 4 ∨ m = 6 ∨ m = 9 ∨ m = 11 then 30 else if 1 ≤ m ∧ m ≤ 12 then 31 else 0
def bef (y : Int) : Int := if y = 0 then 0 else 365 * y + (y - 1) / 4 - (y - 1) / 100 + (y - 1) / 400 + 1
/-- the days of a year ahead of a month. -/
def cum (y m : Int) : Int := if m ≤ 2 then 31 * (m - 1) else (153 * m - 457) / 5 + 59 + lp y
theorem tm0 (a n : Int) : (Int.tmod a n = 0) = (a % n = 0) := by
  rw [← Int.dvd_iff_tmod_eq_zero, ← Int.dvd_iff_emod_eq_zero]
theorem lp_01 (y : Int) : lp y = 0 ∨ lp y = 1 := by unfold lp; split <;> omega
theorem len_bd (y m : Int) : 0 ≤ len y m ∧ len y m ≤ 31 := by
  have := lp_01 y
  unfold len; split
  · omega
  · split
    · omega
    · split <;> omega
theorem len_pos (y m : Int) (h : 1 ≤ len y m) : 1 ≤ m ∧ m ≤ 12 := by
  unfold len at h; split at h
  · omega
  · split at h
    · omega
    · split at h <;> omega
theorem len_ge (y m : Int) (h : 1 ≤ m ∧ m ≤ 12) : 28 ≤ len y m := by
  have := lp_01 y
  unfold len; split
  · omega
  · split
    · omega
    · first | omega | (split <;> omega)
theorem bef_succ (y : Int) (h : 0 ≤ y) : bef (y + 1) = bef y + 365 + lp y := by
  unfold bef lp
  by_cases h0 : y = 0
  · subst h0; rfl
  · rw [if_neg h0, if_neg (by omega)]
    split <;> omega
theorem bef_bd (y : Int) (h : 0 ≤ y) (h' : y ≤ 10000) : 0 ≤ bef y ∧ bef y ≤ 3652425 := by
  unfold bef
  split <;> omega
theorem cum_1 (y : Int) : cum y 1 = 0 := rfl
theorem cum_succ (y m : Int) (h : 1 ≤ m) (h' : m ≤ 12) : cum y (m + 1) = cum y m + len y m := by
  have e : m = 1 ∨ m = 2 ∨ m = 3 ∨ m = 4 ∨ m = 5 ∨ m = 6 ∨ m = 7 ∨ m = 8 ∨ m = 9 ∨ m = 10 ∨ m = 11 ∨ m = 12 := by omega
  rcases e with rfl | rfl | rfl | rfl | rfl | rfl | rfl | rfl | rfl | rfl | rfl | rfl <;> (unfold cum len; simp; try omega)
theorem cum_13 (y : Int) : cum y 13 = 365 + lp y := by unfold cum; simp
theorem cum_bd (y m : Int) (h : 1 ≤ m) (h' : m ≤ 13) : 0 ≤ cum y m ∧ cum y m ≤ 366 := by
  have := lp_01 y
  unfold cum; split <;> omega
/-- the number of a day. -/
def num (y m d : Int) : Int := bef y - 719528 + cum y m + d - 1
theorem leap_eq (y : Int) : civil_Leap.f y = some (lp y == 1) := by
  unfold civil_Leap.f lp
  simp only [tm0]
  by_cases a : y % 4 = 0
  · rw [if_pos a]
    by_cases b : y % 100 = 0
    · rw [if_pos b]
      by_cases c : y % 400 = 0
      · rw [if_pos ⟨a, Or.inr c⟩]
        have := (tm0 y 400).mpr c
        simp [this]
      · rw [if_neg (by omega)]
        have : ¬ Int.tmod y 400 = 0 := fun h => c ((tm0 y 400).mp h)
        simp [this]
    · rw [if_neg b, if_pos ⟨a, Or.inl b⟩]; rfl
  · rw [if_neg a, if_neg (by omega)]; rfl
theorem length_eq (k : Nat) (y m : Int) (hk : 0 < k) : civil_Length.f k y m = some (len y m) := by
  obtain ⟨k, rfl⟩ : ∃ j, k = j + 1 := ⟨k - 1, by omega⟩
  unfold civil_Length.f
  rw [leap_eq]
  have h01 := lp_01 y
  by_cases hm : 1 ≤ m ∧ m ≤ 12
  · have e : m = 1 ∨ m = 2 ∨ m = 3 ∨ m = 4 ∨ m = 5 ∨ m = 6 ∨ m = 7 ∨ m = 8 ∨ m = 9 ∨ m = 10 ∨ m = 11 ∨ m = 12 := by omega
    unfold len
    rcases e with rfl | rfl | rfl | rfl | rfl | rfl | rfl | rfl | rfl | rfl | rfl | rfl <;> first | rfl | (rcases h01 with h | h <;> rw [h] <;> rfl)
  · have e : len y m = 0 := by unfold len; split <;> first | omega | (split <;> first | omega | (split <;> omega))
    rw [e, if_neg (show ¬ m = 2 by omega), if_neg (show ¬ m = 4 by omega), if_neg (show ¬ m = 6 by omega), if_neg (show ¬ m = 9 by omega)]
    simp only [civil_Length.j0]
    have e11 : (m == 11) = false := beq_eq_false_iff_ne.2 (by omega)
    rw [e11, if_neg (by decide), if_neg (show ¬ m = 1 by omega), if_neg (show ¬ m = 3 by omega), if_neg (show ¬ m = 5 by omega), if_neg (show ¬ m = 7 by omega), if_neg (show ¬ m = 8 by omega), if_neg (show ¬ m = 10 by omega), if_neg (show ¬ m = 12 by omega)]
theorem before_eq (y : Int) (h : 0 ≤ y) (h' : y ≤ 10000) : civil_before.f y = some (bef y) := by
  unfold civil_before.f bef
  by_cases h0 : y = 0
  · rw [if_pos h0, if_pos h0]
  · rw [if_neg h0, if_neg h0, wrap_in (y - 1) (by omega) (by omega)]
    rw [Int.tdiv_eq_ediv_of_nonneg (by omega), Int.tdiv_eq_ediv_of_nonneg (by omega), Int.tdiv_eq_ediv_of_nonneg (by omega)]
    rw [wrap_in (365 * y) (by omega) (by omega), wrap_in ((y - 1) / 4) (by omega) (by omega), wrap_in ((y - 1) / 100) (by omega) (by omega), wrap_in ((y - 1) / 400) (by omega) (by omega)]
    rw [wrap_in (365 * y + (y - 1) / 4) (by omega) (by omega), wrap_in (365 * y + (y - 1) / 4 - (y - 1) / 100) (by omega) (by omega), wrap_in (365 * y + (y - 1) / 4 - (y - 1) / 100 + (y - 1) / 400) (by omega) (by omega), wrap_in _ (by omega) (by omega)]
theorem days_l0 (d : Nat) : ∀ (k : Nat) (y m n i : Int), 1 ≤ i → i ≤ m → m ≤ 12 → (m - i).toNat = d → d < k → -8000000 ≤ n → n ≤ 8000000 + 31 * i → civil_Days.l0 k y m n i = some (n + cum y m - cum y i, true) := by
  induction d with
  | zero =>
    intro k y m n i h1 h2 h3 hd hk _ _
    obtain ⟨k, rfl⟩ : ∃ j, k = j + 1 := ⟨k - 1, by omega⟩
    simp only [civil_Days.l0]
    rw [if_neg (by omega)]
    obtain rfl : i = m := by omega
    exact congrArg some (Prod.ext (by dsimp only; omega) rfl)
  | succ d ih =>
    intro k y m n i h1 h2 h3 hd hk b1 b2
    obtain ⟨k, rfl⟩ : ∃ j, k = j + 1 := ⟨k - 1, by omega⟩
    have hl := len_bd y i
    simp only [civil_Days.l0]
    rw [if_pos (by omega), length_eq k y i (by omega)]
    simp only [Option.bind_some]
    rw [wrap_in _ (by omega) (by omega), wrap_in _ (by omega) (by omega), ih k y m _ (i + 1) (by omega) (by omega) h3 (by omega) (by omega) (by have := len_bd y i; omega) (by omega), cum_succ y i h1 (by omega)]
    exact congrArg some (Prod.ext (by dsimp only; omega) rfl)
/-- is there such a day? -/
def okd (y m d : Int) : Bool := decide (0 ≤ y ∧ y ≤ 9999 ∧ 1 ≤ d ∧ d ≤ len y m)
def dys (y m d : Int) : Int × Bool := if okd y m d = true then (num y m d, true) else (0, false)
theorem okd_mk {y m d : Int} (h : 0 ≤ y ∧ y ≤ 9999 ∧ 1 ≤ d ∧ d ≤ len y m) : okd y m d = true := decide_eq_true h
theorem okd_no {y m d : Int} (h : ¬ (0 ≤ y ∧ y ≤ 9999 ∧ 1 ≤ d ∧ d ≤ len y m)) : okd y m d = false := decide_eq_false h
theorem bef_1970 : bef 1970 = 719528 := by decide
theorem days_eq (k : Nat) (y m d : Int) (hk : 20 ≤ k) : civil_Days.f k y m d = some (dys y m d) := by
  obtain ⟨k, rfl⟩ : ∃ j, k = j + 1 := ⟨k - 1, by omega⟩
  unfold civil_Days.f dys
  rw [length_eq _ y m (by omega)]
  simp only [Option.bind_some, civil_Days.j0, if_true]
  by_cases h0 : y < 0
  · rw [if_pos h0, okd_no (by omega)]; rfl
  rw [if_neg h0]
  by_cases h1 : y > 9999
  · rw [if_pos h1, okd_no (by omega)]; rfl
  rw [if_neg h1]
  by_cases h2 : d < 1
  · rw [if_pos h2, okd_no (by omega)]; rfl
  rw [if_neg h2]
  by_cases h3 : d > len y m
  · rw [if_pos (by simpa using h3), okd_no (by omega)]; rfl
  rw [if_neg (by simpa using h3), okd_mk (by omega), before_eq y (by omega) (by omega), before_eq 1970 (by omega) (by omega), bef_1970]
  simp only [Option.bind_some, if_true]
  have hb := bef_bd y (by omega) (by omega)
  have hl := len_bd y m
  have hm := len_pos y m (by omega)
  rw [wrap_in (bef y - 719528) (by omega) (by omega), wrap_in (bef y - 719528 + d) (by omega) (by omega), wrap_in _ (by omega) (by omega), days_l0 _ k y m _ 1 (by omega) (by omega) hm.2 rfl (by omega) (by omega) (by omega), cum_1]
  exact congrArg some (Prod.ext (by dsimp only [num]; omega) rfl)
theorem date_l1 (d : Nat) : ∀ (k : Nat) (y m r : Int), 1 ≤ m → m ≤ 12 → 0 ≤ r → r < 365 + lp y - cum y m → (12 - m).toNat = d → d < k → 0 < k - d - 1 →
    ∃ m' e, civil_Date.l1 k y m r = some (y, m', e, true) ∧ 1 ≤ m' ∧ m' ≤ 12 ∧ 1 ≤ e ∧ e ≤ len y m' ∧ cum y m' + e - 1 = cum y m + r := by
  induction d with
  | zero =>
    intro k y m r h1 h2 h3 h4 hd hk hk2
    obtain ⟨k, rfl⟩ : ∃ j, k = j + 1 := ⟨k - 1, by omega⟩
    obtain rfl : m = 12 := by omega
    have hs := cum_succ y 12 (by omega) (by omega)
    have h13 := cum_13 y
    have e13 : cum y (12 + 1) = cum y 13 := rfl
    have hl := len_bd y 12
    refine ⟨12, r + 1, ?_, by omega, by omega, by omega, by omega, by omega⟩
    simp only [civil_Date.l1]
    rw [length_eq k y 12 (by omega)]
    simp only [Option.bind_some]
    rw [if_neg (by omega), wrap_in _ (by omega) (by omega)]
  | succ d ih =>
    intro k y m r h1 h2 h3 h4 hd hk hk2
    obtain ⟨k, rfl⟩ : ∃ j, k = j + 1 := ⟨k - 1, by omega⟩
    have hs := cum_succ y m (by omega) (by omega)
    have hl := len_bd y m
    have hb := cum_bd y m (by omega) (by omega)
    have h01 := lp_01 y
    by_cases h : r ≥ len y m
    · obtain ⟨m', e, he, g⟩ := ih k y (m + 1) (r - len y m) (by omega) (by omega) (by omega) (by omega) (by omega) (by omega) (by omega)
      refine ⟨m', e, ?_, by omega⟩
      simp only [civil_Date.l1]
      rw [length_eq k y m (by omega)]
      simp only [Option.bind_some]
      rw [if_pos h, wrap_in _ (by omega) (by omega), wrap_in _ (by omega) (by omega)]
      exact he
    · refine ⟨m, r + 1, ?_, by omega, by omega, by omega, by omega, by omega⟩
      simp only [civil_Date.l1]
      rw [length_eq k y m (by omega)]
      simp only [Option.bind_some]
      rw [if_neg h, wrap_in _ (by omega) (by omega)]
theorem bef_10000 : bef 10000 = 3652425 := by decide
theorem date_l0 (d : Nat) : ∀ (k : Nat) (y t : Int), 0 ≤ y → y ≤ 9999 → bef y ≤ t → t < 3652425 → (9999 - y).toNat = d → d + 20 < k →
    ∃ y' m e, civil_Date.l0 k y t = some (y', m, e, true) ∧ 0 ≤ y' ∧ y' ≤ 9999 ∧ 1 ≤ m ∧ m ≤ 12 ∧ 1 ≤ e ∧ e ≤ len y' m ∧ bef y' + cum y' m + e - 1 = t := by
  have fin : ∀ (k : Nat) (y t : Int), 0 ≤ y → y ≤ 9999 → bef y ≤ t → t < bef (y + 1) → 15 < k →
      ∃ y' m e, civil_Date.l0 (k + 1) y t = some (y', m, e, true) ∧ 0 ≤ y' ∧ y' ≤ 9999 ∧ 1 ≤ m ∧ m ≤ 12 ∧ 1 ≤ e ∧ e ≤ len y' m ∧ bef y' + cum y' m + e - 1 = t := by
    intro k y t h0 h1 h2 h3 hk
    have hs := bef_succ y h0
    have hb := bef_bd y h0 (by omega)
    have h01 := lp_01 y
    obtain ⟨m, e, he, g1, g2, g3, g4, g5⟩ := date_l1 _ k y 1 (t - bef y) (by omega) (by omega) (by omega) (by rw [cum_1]; omega) rfl (by omega) (by omega)
    rw [cum_1] at g5
    refine ⟨y, m, e, ?_, h0, h1, g1, g2, g3, g4, by omega⟩
    simp only [civil_Date.l0]
    rw [wrap_in (y + 1) (by omega) (by omega), before_eq (y + 1) (by omega) (by omega)]
    simp only [Option.bind_some]
    rw [if_neg (by omega), before_eq y (by omega) (by omega)]
    simp only [Option.bind_some]
    rw [wrap_in _ (by omega) (by omega)]
    exact he
  induction d with
  | zero =>
    intro k y t h0 h1 h2 h3 hd hk
    obtain ⟨k, rfl⟩ : ∃ j, k = j + 1 := ⟨k - 1, by omega⟩
    obtain rfl : y = 9999 := by omega
    exact fin k 9999 t h0 h1 h2 (by have e : bef (9999 + 1) = 3652425 := bef_10000; rw [e]; exact h3) (by omega)
  | succ d ih =>
    intro k y t h0 h1 h2 h3 hd hk
    obtain ⟨k, rfl⟩ : ∃ j, k = j + 1 := ⟨k - 1, by omega⟩
    by_cases h : bef (y + 1) ≤ t
    · obtain ⟨y', m, e, he, g⟩ := ih k (y + 1) t (by omega) (by omega) h h3 (by omega) (by omega)
      refine ⟨y', m, e, ?_, g⟩
      simp only [civil_Date.l0]
      rw [wrap_in (y + 1) (by omega) (by omega), before_eq (y + 1) (by omega) (by omega)]
      simp only [Option.bind_some]
      rw [if_pos h]
      exact he
    · exact fin k y t h0 h1 h2 (by omega) (by omega)
theorem bef_le (y : Int) (h : 0 ≤ y) : bef y ≤ 366 * y := by unfold bef; split <;> omega
theorem date_f (k : Nat) (n : Int) (hn : (Lit.int .i64 n).wf = true) : civil_Date.f k n = civil_Date.j0 k n (-719528) (decide (n < -719528 ∨ n > 2932896)) := by
  unfold civil_Date.f
  rw [before_eq 1970 (by omega) (by omega), before_eq 10000 (by omega) (by omega), bef_1970, bef_10000]
  simp only [Option.bind_some]
  rw [wrap_in (-719528) (by omega) (by omega), wrap_in (3652425 - 719528) (by omega) (by omega), wrap_in (3652425 - 719528 - 1) (by omega) (by omega)]
  by_cases h : n < -719528
  · rw [if_pos h, decide_eq_true (Or.inl h)]
  · rw [if_neg h]
    congr 1
    by_cases h2 : n > 2932896
    · rw [decide_eq_true (Or.inr h2), decide_eq_true (by omega)]
    · rw [decide_eq_false (by omega), decide_eq_false (by omega)]
theorem date_no (k : Nat) (n : Int) (hn : (Lit.int .i64 n).wf = true) (h : n < -719528 ∨ n > 2932896) (hk : 0 < k) : civil_Date.f k n = some (0, 0, 0, false) := by
  obtain ⟨k, rfl⟩ : ∃ j, k = j + 1 := ⟨k - 1, by omega⟩
  rw [date_f _ n hn, decide_eq_true h]
  rfl
theorem date_yes (k : Nat) (n : Int) (hn : (Lit.int .i64 n).wf = true) (h : -719528 ≤ n) (h' : n ≤ 2932896) (hk : 10100 ≤ k) :
    ∃ y m d, civil_Date.f k n = some (y, m, d, true) ∧ 0 ≤ y ∧ y ≤ 9999 ∧ 1 ≤ m ∧ m ≤ 12 ∧ 1 ≤ d ∧ d ≤ len y m ∧ num y m d = n := by
  obtain ⟨k, rfl⟩ : ∃ j, k = j + 1 := ⟨k - 1, by omega⟩
  rw [date_f _ n hn, decide_eq_false (by omega)]
  have hle := bef_le ((n + 719528) / 366) (by omega)
  obtain ⟨y, m, d, he, g1, g2, g3, g4, g5, g6, g7⟩ := date_l0 _ k ((n + 719528) / 366) (n + 719528) (by omega) (by omega) (by omega) (by omega) rfl (by omega)
  refine ⟨y, m, d, ?_, g1, g2, g3, g4, g5, g6, by unfold num; omega⟩
  simp only [civil_Date.j0]
  rw [if_neg (by decide)]
  have e : n - -719528 = n + 719528 := by omega
  rw [e, wrap_in (n + 719528) (by omega) (by omega), Int.tdiv_eq_ediv_of_nonneg (by omega), wrap_in _ (by omega) (by omega)]
  exact he
theorem awake_ev : ∃ K, ∀ k, K ≤ k → decorumlaw02_awake.f k = some true := Ev.of decorumlaw02_awake.mono (k := 100) (by decide +kernel)
theorem bef_next (y y' : Int) (h : 0 ≤ y) (hy : y < y') : bef (y + 1) ≤ bef y' := by
  unfold bef
  rw [if_neg (by omega), if_neg (by omega)]
  omega
theorem cum_top (y m d : Int) (h : 1 ≤ m) (h' : m ≤ 12) (hd : d ≤ len y m) : cum y m + d ≤ 365 + lp y := by
  have h01 := lp_01 y
  have e : m = 1 ∨ m = 2 ∨ m = 3 ∨ m = 4 ∨ m = 5 ∨ m = 6 ∨ m = 7 ∨ m = 8 ∨ m = 9 ∨ m = 10 ∨ m = 11 ∨ m = 12 := by omega
  rcases e with rfl | rfl | rfl | rfl | rfl | rfl | rfl | rfl | rfl | rfl | rfl | rfl <;> (unfold len at hd; unfold cum; simp at hd ⊢; omega)
theorem cum_next (y m m' : Int) (h : 1 ≤ m) (hm : m < m') (h' : m' ≤ 12) : cum y m + len y m ≤ cum y m' := by
  have h01 := lp_01 y
  rw [← cum_succ y m h (by omega)]
  unfold cum
  split <;> split <;> omega
theorem num_one (y m d y' m' d' : Int) (h : 0 ≤ y ∧ y ≤ 9999 ∧ 1 ≤ m ∧ m ≤ 12 ∧ 1 ≤ d ∧ d ≤ len y m) (h' : 0 ≤ y' ∧ y' ≤ 9999 ∧ 1 ≤ m' ∧ m' ≤ 12 ∧ 1 ≤ d' ∧ d' ≤ len y' m') (e : num y m d = num y' m' d') : y = y' ∧ m = m' ∧ d = d' := by
  obtain ⟨h1, h2, h3, h4, h5, h6⟩ := h
  obtain ⟨g1, g2, g3, g4, g5, g6⟩ := h'
  have a1 := cum_top y m d h3 h4 h6
  have a2 := cum_top y' m' d' g3 g4 g6
  have b1 := cum_bd y m h3 (by omega)
  have b2 := cum_bd y' m' g3 (by omega)
  have s1 := bef_succ y h1
  have s2 := bef_succ y' g1
  unfold num at e
  have hy : y = y' := by
    rcases Int.lt_trichotomy y y' with c | c | c
    · have := bef_next y y' h1 c; omega
    · exact c
    · have := bef_next y' y g1 c; omega
  subst hy
  have hm : m = m' := by
    rcases Int.lt_trichotomy m m' with c | c | c
    · have := cum_next y m m' h3 c g4; omega
    · exact c
    · have := cum_next y m' m g3 c h4; omega
  subst hm
  exact ⟨rfl, rfl, by omega⟩
end CivilNext
open CivilNext in
theorem CivilNext : decorumlaw02_CivilNext.Pure := by
  intro n0 hn0
  obtain ⟨K, h⟩ := awake_ev
  have hb := bd_u32 hn0
  refine ⟨K + 10101, ?_⟩
  unfold decorumlaw02_CivilNext.f
  have ht : Int.tmod n0 3652000 = n0 % 3652000 := Int.tmod_eq_emod_of_nonneg hb.1
  rw [ht, wrap_in (n0 % 3652000) (by omega) (by omega), wrap_in (n0 % 3652000 - 719000) (by omega) (by omega), wrap_in _ (by omega) (by omega)]
  have hn1 : (Lit.int .i64 (n0 % 3652000 - 719000)).wf = true := by simp [Lit.wf, IntKind.min, IntKind.max, IntKind.signed, IntKind.bits]; omega
  have hn2 : (Lit.int .i64 (n0 % 3652000 - 719000 + 1)).wf = true := by simp [Lit.wf, IntKind.min, IntKind.max, IntKind.signed, IntKind.bits]; omega
  have hlo : -719528 ≤ n0 % 3652000 - 719000 := by omega
  generalize n0 % 3652000 - 719000 = n at *
  have hno : ∀ a b c d e f, decorumlaw02_CivilNext.j0 (K + 10101) a b c d e f true = some true := by
    intro a b c d e f
    simp only [decorumlaw02_CivilNext.j0]
    rw [h _ (by omega)]
    simp
  by_cases h1 : n > 2932896
  · rw [date_no _ n hn1 (Or.inr h1) (by omega), date_no _ (n + 1) hn2 (Or.inr (by omega)) (by omega)]
    simp only [Option.bind_some]
    rw [if_neg (by decide)]
    exact hno _ _ _ _ _ _
  obtain ⟨y, m, d, he, g1, g2, g3, g4, g5, g6, g7⟩ := date_yes (K + 10101) n hn1 (by omega) (by omega) (by omega)
  rw [he]
  by_cases h2 : n + 1 > 2932896
  · rw [date_no _ (n + 1) hn2 (Or.inr h2) (by omega)]
    simp only [Option.bind_some, if_true]
    exact hno _ _ _ _ _ _
  obtain ⟨y', m', d', he', g1', g2', g3', g4', g5', g6', g7'⟩ := date_yes (K + 10101) (n + 1) hn2 (by omega) (by omega) (by omega)
  rw [he']
  simp only [Option.bind_some, if_true, decorumlaw02_CivilNext.j0]
  rw [if_neg (by decide), length_eq _ y m (by omega), h _ (by omega)]
  simp only [Option.bind_some, if_true]
  have hl := len_bd y m
  by_cases h3 : d < len y m
  · have u := num_one y' m' d' y m (d + 1) ⟨g1', g2', g3', g4', g5', g6'⟩ ⟨g1, g2, g3, g4, by omega, by omega⟩ (by rw [g7', ← g7]; unfold num; omega)
    rw [if_pos h3, if_pos u.1, if_pos u.2.1, wrap_in (d + 1) (by omega) (by omega), u.2.2]
    simp
  · rw [if_neg h3]
    have hd : d = len y m := by omega
    by_cases h4 : m < 12
    · have hs := cum_succ y m g3 g4
      have u := num_one y' m' d' y (m + 1) 1 ⟨g1', g2', g3', g4', g5', g6'⟩ ⟨g1, g2, by omega, by omega, by omega, by have := len_ge y (m + 1) (by omega); omega⟩ (by rw [g7', ← g7]; unfold num; omega)
      rw [if_pos u.2.2, if_pos h4, if_pos u.1, wrap_in (m + 1) (by omega) (by omega), if_pos u.2.1]
    · have hm : m = 12 := by omega
      subst hm
      have hs := cum_succ y 12 (by omega) (by omega)
      have h13 : cum y (12 + 1) = 365 + lp y := cum_13 y
      have hb := bef_succ y g1
      have hnum : num y' m' d' = bef (y + 1) - 719528 := by rw [g7', ← g7]; unfold num; omega
      have hy : y + 1 ≤ 9999 := by
        by_cases c : y = 9999
        · subst c
          have : bef (9999 + 1) = 3652425 := bef_10000
          omega
        · omega
      have u := num_one y' m' d' (y + 1) 1 1 ⟨g1', g2', g3', g4', g5', g6'⟩ ⟨by omega, hy, by omega, by omega, by omega, by have := len_ge (y + 1) 1 (by omega); omega⟩ (by rw [hnum]; unfold num; rw [cum_1]; omega)
      rw [if_pos u.2.2, if_neg h4, if_pos rfl, wrap_in (y + 1) (by omega) (by omega), if_pos u.1, u.2.1]
      simp

end Go.Proofs.Ytgfbodnidghldaa.Pure
