/- BackMosts: for any three ints the program's longest wait is the document's; no condition. -/
import Derived.Test.YteopghkhegccfaaPBackMostsx2
namespace Go.Proofs.Yteopghkhegccfaa.Pure
open Go.RowKit Go.Proofs.Yteopghkhegccfaa.PBackMosts Go.Proofs.YteopghkhegccfaaW.PrintWords Go.Proofs.YteopghkhegccfaaW.PrintLast Go.Proofs.YteopghkhegccfaaW.PrintMore
set_option linter.unusedVariables false
namespace BackMosts
def hd (a : Int) : Int := mx (-4611686018427387903) (mn a 4611686018427387903)
def ad (a b : Int) : Int := hd (hd a + hd b)
theorem wrap_in (n : Int) (h : -9223372036854775808 ≤ n) (h' : n ≤ 9223372036854775807) : wrap64 n = n := by
  unfold wrap64; omega
theorem hd_bd (a : Int) : -4611686018427387903 ≤ hd a ∧ hd a ≤ 4611686018427387903 := by
  unfold hd mx mn; omega
theorem hd_id (a : Int) (h : -4611686018427387903 ≤ a) (h' : a ≤ 4611686018427387903) : hd a = a := by
  unfold hd mx mn; omega
theorem ad_bd (a b : Int) : -4611686018427387903 ≤ ad a b ∧ ad a b ≤ 4611686018427387903 := hd_bd _
theorem held_eq (a : Int) : tick_held.f a = some (hd a) := rfl
theorem add_eq (a b : Int) : tick_Add.f a b = some (ad a b) := by
  have ha := hd_bd a
  have hb := hd_bd b
  unfold tick_Add.f
  simp only [held_eq, Option.bind_some]
  rw [wrap_in _ (by omega) (by omega)]
  rfl
/-- doubled n times, held. -/
def dbl : Nat → Int → Int
  | 0, x => x
  | n + 1, x => dbl n (ad x x)
theorem dbl_fix (x : Int) (h : ad x x = x) : ∀ n, dbl n x = x
  | 0 => rfl
  | n + 1 => by rw [dbl, h]; exact dbl_fix x h n
theorem dbl_bd (n : Nat) : ∀ x : Int, -4611686018427387903 ≤ x → x ≤ 4611686018427387903 → -4611686018427387903 ≤ dbl n x ∧ dbl n x ≤ 4611686018427387903 := by
  induction n with
  | zero => intro x h h'; exact ⟨h, h'⟩
  | succ n ih => intro x _ _; exact ih _ (ad_bd x x).1 (ad_bd x x).2
theorem shl_l0 (d : Nat) : ∀ (k : Nat) (x n : Int), -4611686018427387903 ≤ x → x ≤ 4611686018427387903 → n ≤ 9223372036854775807 → n.toNat = d → d < k → tick_Shl.l0 k x n = some (dbl d x) := by
  induction d with
  | zero =>
    intro k x n _ _ _ hn hk
    obtain ⟨k, rfl⟩ : ∃ m, k = m + 1 := ⟨k - 1, by omega⟩
    simp only [tick_Shl.l0]
    rw [if_neg (by omega)]
    rfl
  | succ d ih =>
    intro k x n h0 h1 h2 hn hk
    obtain ⟨k, rfl⟩ : ∃ m, k = m + 1 := ⟨k - 1, by omega⟩
    simp only [tick_Shl.l0]
    rw [if_pos (by omega)]
    by_cases hx : x = 0
    · rw [if_pos hx, dbl_fix x (by subst hx; rfl)]
    · rw [if_neg hx, wrap_in (-x) (by omega) (by omega)]
      by_cases hm : mx x (-x) < 4611686018427387903
      · rw [if_pos hm, add_eq]
        simp only [Option.bind_some]
        rw [wrap_in (n - 1) (by omega) (by omega)]
        exact ih k _ _ (ad_bd x x).1 (ad_bd x x).2 (by omega) (by omega) (by omega)
      · rw [if_neg hm, dbl_fix x]
        unfold mx at hm
        unfold ad hd mx mn
        omega
theorem shl_eq (k : Nat) (a n : Int) (h : n ≤ 9223372036854775807) (hk : n.toNat < k) : tick_Shl.f k a n = some (dbl n.toNat (hd a)) := by
  unfold tick_Shl.f
  rw [held_eq]
  simp only [Option.bind_some]
  exact shl_l0 _ k _ n (hd_bd a).1 (hd_bd a).2 h rfl hk
theorem rheld_eq (a : Int) : decorumref01_Held.f a = some (hd a) := by
  unfold decorumref01_Held.f hd mx mn
  split
  · exact congrArg some (by omega)
  · split
    · exact congrArg some (by omega)
    · exact congrArg some (by omega)
theorem radd_eq (k : Nat) (a b : Int) (hk : 0 < k) : decorumref01_Add.f k a b = some (ad a b) := by
  obtain ⟨k, rfl⟩ : ∃ m, k = m + 1 := ⟨k - 1, by omega⟩
  have ha := hd_bd a
  have hb := hd_bd b
  unfold decorumref01_Add.f
  simp only [rheld_eq, Option.bind_some, decorumref01_Add.j0]
  unfold ad
  generalize hd a = x at *
  generalize hd b = y at *
  rw [wrap_in (x + y) (by omega) (by omega)]
  by_cases h : y > 0
  · rw [if_pos h, wrap_in _ (by omega) (by omega)]
    by_cases h2 : x > 4611686018427387903 - y
    · rw [if_pos (by simpa using h2)]; congr 1; unfold hd mx mn; omega
    · rw [if_neg (by simpa using h2), if_neg (by omega)]; congr 1; unfold hd mx mn; omega
  · rw [if_neg h, if_neg (by simp)]
    by_cases h2 : y < 0
    · rw [if_pos h2, wrap_in _ (by omega) (by omega)]
      by_cases h3 : x < -4611686018427387903 - y
      · rw [if_pos h3]; congr 1; unfold hd mx mn; omega
      · rw [if_neg h3]; congr 1; unfold hd mx mn; omega
    · rw [if_neg h2]; congr 1; unfold hd mx mn; omega
theorem cut_eq (a b c : Int) : decorumref18_cut.f a b c = some (if a < b then b else if a > c then c else a) := by
  unfold decorumref18_cut.f
  split
  · rfl
  · split <;> rfl
theorem awake_ev : ∃ K, ∀ k, K ≤ k → decorumlaw18_awake.f k = some true := Ev.of decorumlaw18_awake.mono (k := 20) (by decide +kernel)
theorem back_eq (k : Nat) (a b e : Int) (hk : 20 ≤ k) : back_Most.f k a b e = some (if e < 1 then 0 else mx (mn (dbl ((mn e 16) - 1).toNat (hd (mx a 0))) b) 0) := by
  unfold back_Most.f
  by_cases h : e < 1
  · rw [if_pos h, if_pos h]
  · rw [if_neg h, if_neg h]
    have h1 : 1 ≤ mn e 16 ∧ mn e 16 ≤ 16 := by unfold mn; omega
    rw [wrap_in _ (by omega) (by omega), shl_eq k _ _ (by omega) (by omega)]
    rfl
theorem ref_l0 (d : Nat) : ∀ (k : Nat) (b e w i : Int), 1 ≤ i → i ≤ 16 → ((mn e 16) - i).toNat = d → d < k →
    decorumref18_Most.l0 (k + 1) b e w i = some (if dbl d w < 0 then 0 else if dbl d w > b then b else dbl d w) := by
  induction d with
  | zero =>
    intro k b e w i h0 h1 hd' hk
    unfold mn at hd'
    simp only [decorumref18_Most.l0]
    by_cases h2 : i < e
    · rw [if_pos h2, if_neg (by omega), cut_eq]; rfl
    · rw [if_neg h2, cut_eq]; rfl
  | succ d ih =>
    intro k b e w i h0 h1 hd' hk
    obtain ⟨k, rfl⟩ : ∃ m, k = m + 1 := ⟨k - 1, by omega⟩
    have hd2 := hd'
    unfold mn at hd2
    rw [decorumref18_Most.l0]
    rw [if_pos (by omega), if_pos (by omega), radd_eq _ _ _ (by omega)]
    simp only [Option.bind_some]
    rw [wrap_in _ (by omega) (by omega)]
    exact ih k b e _ _ (by omega) (by omega) (by omega) (by omega)
theorem ref_eq (k : Nat) (a b e : Int) (hk : 20 ≤ k) : decorumref18_Most.f k a b e = some (if e < 1 then 0 else mx (mn (dbl ((mn e 16) - 1).toNat (hd (mx a 0))) b) 0) := by
  obtain ⟨k, rfl⟩ : ∃ m, k = m + 2 := ⟨k - 2, by omega⟩
  unfold decorumref18_Most.f
  by_cases h : e < 1
  · rw [if_pos h, if_pos h]; simp only [decorumref18_Most.j0]; rfl
  · rw [if_neg h, if_neg h]
    simp only [decorumref18_Most.j0]
    by_cases hb : b < 1
    · rw [if_pos (by simpa using hb)]; congr 1; unfold mx mn; omega
    · rw [if_neg (by simpa using hb), cut_eq]
      simp only [Option.bind_some]
      have h1 : 1 ≤ mn e 16 ∧ mn e 16 ≤ 16 := by unfold mn; omega
      rw [ref_l0 _ k b e _ 1 (by omega) (by omega) rfl (by omega)]
      have h2 : (if a < 0 then 0 else if a > 4611686018427387903 then 4611686018427387903 else a) = hd (mx a 0) := by unfold hd mx mn; omega
      rw [h2]
      generalize dbl _ _ = z
      congr 1; unfold mx mn; omega
end BackMosts
open BackMosts in
theorem BackMosts : decorumlaw18_BackMosts.Pure := by
  intro a b e _ _ _
  obtain ⟨K, h⟩ := awake_ev
  refine ⟨K + 20, ?_⟩
  unfold decorumlaw18_BackMosts.f
  rw [h _ (by omega), back_eq _ _ _ _ (by omega), ref_eq _ _ _ _ (by omega)]
  simp

end Go.Proofs.Yteopghkhegccfaa.Pure
