/- TickShifts: any int, doubled any number of times, is the document's; no condition. -/
import Derived.Test.YtobepponcolciaaQTickShiftsx2
namespace Go.Proofs.Ytobepponcolciaa.Pure
open Go.RowKit Go.Proofs.Ytobepponcolciaa.QTickShifts Go.Proofs.YtobepponcolciaaW.PrintWords Go.Proofs.YtobepponcolciaaW.PrintLast Go.Proofs.YtobepponcolciaaW.PrintMore
set_option linter.unusedVariables false
namespace TickShifts
theorem bd_u8 {n : Int} (h : (Lit.int .u8 n).wf = true) : 0 ≤ n ∧ n ≤ 255 := by
  simp [Lit.wf, IntKind.min, IntKind.max, IntKind.signed, IntKind.bits] at h
  omega
theorem bd_u16 {n : Int} (h : (Lit.int .u16 n).wf = true) : 0 ≤ n ∧ n ≤ 65535 := by
  simp [Lit.wf, IntKind.min, IntKind.max, IntKind.signed, IntKind.bits] at h
  omega
theorem bd_u32 {n : Int} (h : (Lit.int .u32 n).wf = true) : 0 ≤ n ∧ n ≤ 4294967295 := by
  simp [Lit.wf, IntKind.min, IntKind.max, IntKind.signed, IntKind.bits] at h
  omega
theorem bd_i64 {n : Int} (h : (Lit.int .i64 n).wf = true) : -9223372036854775808 ≤ n ∧ n ≤ 9223372036854775807 := by
  simp [Lit.wf, IntKind.min, IntKind.max, IntKind.signed, IntKind.bits] at h
  omega
def hd (a : Int) : Int := mx (-4611686018427387903) (mn a 4611686018427387903)
def ad (a b : Int) : Int := hd (hd a + hd b)
theorem wrap_in (n : Int) (h : -9223372036854775808 ≤ n) (h' : n ≤ 9223372036854775807) : wrap64 n = n := by
  unfold wrap64; omega
theorem hd_bd (a : Int) : -4611686018427387903 ≤ hd a ∧ hd a ≤ 4611686018427387903 := by
  unfold hd mx mn; omega
theorem hd_id (a : Int) (h : -4611686018427387903 ≤ a) (h' : a ≤ 4611686018427387903) : hd a = a := by
  unfold hd mx mn; omega
theorem ad_bd (a b : Int) : -4611686018427387903 ≤ ad a b ∧ ad a b ≤ 4611686018427387903 := hd_bd _
theorem held_eq (a : Int) : tick_held.f a = some (hd a) := rfl
theorem add_eq (a b : Int) : tick_Add.f a b = some (ad a b) := by
  have ha := hd_bd a
  have hb := hd_bd b
  unfold tick_Add.f
  simp only [held_eq, Option.bind_some]
  rw [wrap_in _ (by omega) (by omega)]
  rfl
theorem rheld_eq (a : Int) : decorumref01_Held.f a = some (hd a) := by
  unfold decorumref01_Held.f hd mx mn
  split
  · exact congrArg some (by omega)
  · split
    · exact congrArg some (by omega)
    · exact congrArg some (by omega)
theorem radd_eq (k : Nat) (a b : Int) (hk : 0 < k) : decorumref01_Add.f k a b = some (ad a b) := by
  obtain ⟨k, rfl⟩ : ∃ m, k = m + 1 := ⟨k - 1, by omega⟩
  have ha := hd_bd a
  have hb := hd_bd b
  unfold decorumref01_Add.f
  simp only [rheld_eq, Option.bind_some, decorumref01_Add.j0]
  unfold ad
  generalize hd a = x at *
  generalize hd b = y at *
  rw [wrap_in (x + y) (by omega) (by omega)]
  by_cases h : y > 0
  · rw [if_pos h, wrap_in _ (by omega) (by omega)]
    by_cases h2 : x > 4611686018427387903 - y
    · rw [if_pos (by simpa using h2)]; congr 1; unfold hd mx mn; omega
    · rw [if_neg (by simpa using h2), if_neg (by omega)]; congr 1; unfold hd mx mn; omega
  · rw [if_neg h, if_neg (by simp)]
    by_cases h2 : y < 0
    · rw [if_pos h2, wrap_in _ (by omega) (by omega)]
      by_cases h3 : x < -4611686018427387903 - y
      · rw [if_pos h3]; congr 1; unfold hd mx mn; omega
      · rw [if_neg h3]; congr 1; unfold hd mx mn; omega
    · rw [if_neg h2]; congr 1; unfold hd mx mn; omega
/-- doubled n times, held. -/
def dbl : Nat → Int → Int
  | 0, x => x
  | n + 1, x => dbl n (ad x x)
theorem dbl_fix (x : Int) (h : ad x x = x) : ∀ n, dbl n x = x
  | 0 => rfl
  | n + 1 => by rw [dbl, h]; exact dbl_fix x h n
theorem dbl_bd (n : Nat) : ∀ x : Int, -4611686018427387903 ≤ x → x ≤ 4611686018427387903 → -4611686018427387903 ≤ dbl n x ∧ dbl n x ≤ 4611686018427387903 := by
  induction n with
  | zero => intro x h h'; exact ⟨h, h'⟩
  | succ n ih => intro x _ _; exact ih _ (ad_bd x x).1 (ad_bd x x).2
theorem shl_l0 (d : Nat) : ∀ (k : Nat) (x n : Int), -4611686018427387903 ≤ x → x ≤ 4611686018427387903 → n ≤ 9223372036854775807 → n.toNat = d → d < k → tick_Shl.l0 k x n = some (dbl d x) := by
  induction d with
  | zero =>
    intro k x n _ _ _ hn hk
    obtain ⟨k, rfl⟩ : ∃ m, k = m + 1 := ⟨k - 1, by omega⟩
    simp only [tick_Shl.l0]
    rw [if_neg (by omega)]
    rfl
  | succ d ih =>
    intro k x n h0 h1 h2 hn hk
    obtain ⟨k, rfl⟩ : ∃ m, k = m + 1 := ⟨k - 1, by omega⟩
    simp only [tick_Shl.l0]
    rw [if_pos (by omega)]
    by_cases hx : x = 0
    · rw [if_pos hx, dbl_fix x (by subst hx; rfl)]
    · rw [if_neg hx, wrap_in (-x) (by omega) (by omega)]
      by_cases hm : mx x (-x) < 4611686018427387903
      · rw [if_pos hm, add_eq]
        simp only [Option.bind_some]
        rw [wrap_in (n - 1) (by omega) (by omega)]
        exact ih k _ _ (ad_bd x x).1 (ad_bd x x).2 (by omega) (by omega) (by omega)
      · rw [if_neg hm, dbl_fix x]
        unfold mx at hm
        unfold ad hd mx mn
        omega
theorem shl_eq (k : Nat) (a n : Int) (h : n ≤ 9223372036854775807) (hk : n.toNat < k) : tick_Shl.f k a n = some (dbl n.toNat (hd a)) := by
  unfold tick_Shl.f
  rw [held_eq]
  simp only [Option.bind_some]
  exact shl_l0 _ k _ n (hd_bd a).1 (hd_bd a).2 h rfl hk
theorem dbl_add (n : Nat) : ∀ (m : Nat) (x : Int), dbl (n + m) x = dbl m (dbl n x) := by
  induction n with
  | zero => intro m x; rw [Nat.zero_add]; rfl
  | succ n ih =>
    intro m x
    rw [show n + 1 + m = n + m + 1 by omega]
    exact ih m (ad x x)
theorem dbl_hi (n : Nat) : ∀ x : Int, 1 ≤ x → x ≤ 4611686018427387903 → mn 4611686018427387903 (2 ^ n) ≤ dbl n x := by
  intro x h h'
  induction n with
  | zero => show mn 4611686018427387903 1 ≤ x; unfold mn; omega
  | succ n ih =>
    have hb := dbl_bd n x (by omega) h'
    rw [dbl_add n 1 x]
    show mn 4611686018427387903 (2 ^ (n + 1)) ≤ ad (dbl n x) (dbl n x)
    rw [Int.pow_succ]
    generalize dbl n x = y at *
    generalize (2 : Int) ^ n = p at *
    unfold mn at ih
    unfold ad hd mx mn
    omega
theorem dbl_lo (n : Nat) : ∀ x : Int, x ≤ -1 → -4611686018427387903 ≤ x → dbl n x ≤ -mn 4611686018427387903 (2 ^ n) := by
  intro x h h'
  induction n with
  | zero => show x ≤ -mn 4611686018427387903 1; unfold mn; omega
  | succ n ih =>
    have hb := dbl_bd n x h' (by omega)
    rw [dbl_add n 1 x]
    show ad (dbl n x) (dbl n x) ≤ -mn 4611686018427387903 (2 ^ (n + 1))
    rw [Int.pow_succ]
    generalize dbl n x = y at *
    generalize (2 : Int) ^ n = p at *
    unfold mn at ih
    unfold ad hd mx mn
    omega
theorem dbl_70 (x : Int) (h : -4611686018427387903 ≤ x) (h' : x ≤ 4611686018427387903) (m : Nat) : dbl (70 + m) x = dbl 70 x := by
  rw [dbl_add]
  refine dbl_fix _ ?_ m
  by_cases h0 : x = 0
  · subst h0
    rw [dbl_fix 0 (by rfl)]; rfl
  · have e : (2 : Int) ^ 70 = 1180591620717411303424 := by decide
    have hb := dbl_bd 70 x h h'
    rcases Int.lt_or_gt_of_ne h0 with c | c
    · have := dbl_lo 70 x (by omega) h
      rw [e] at this
      generalize dbl 70 x = y at *
      unfold mn at this
      unfold ad hd mx mn; omega
    · have := dbl_hi 70 x (by omega) h'
      rw [e] at this
      generalize dbl 70 x = y at *
      unfold mn at this
      unfold ad hd mx mn; omega
theorem awake_ev : ∃ K, ∀ k, K ≤ k → decorumlaw01_awake.f k = some true := Ev.of decorumlaw01_awake.mono (k := 20) (by decide +kernel)
theorem last (k : Nat) (a n : Int) (hn : n ≤ 9223372036854775807) (hk : n.toNat < k) (h : decorumlaw01_awake.f k = some true) (y : Int) (hy : y = dbl n.toNat (hd a)) :
    ((decorumlaw01_awake.f k).bind fun t125 => (if t125 = true then ((tick_Shl.f k a n).bind fun t126 => (some (t126 == y))) else (some false))) = some true := by
  rw [h]
  simp only [Option.bind_some, if_true]
  rw [shl_eq k a n hn hk, hy]
  simp
theorem l0_eq (d : Nat) : ∀ (k : Nat) (a n i : Int) (K : Nat), n ≤ 9223372036854775807 → (∀ q, K ≤ q → decorumlaw01_awake.f q = some true) → 0 ≤ i → i ≤ 70 → i ≤ mx n 0 → (mn (mx n 0) 70 - i).toNat = d → K + n.toNat + d + 2 < k →
    decorumlaw01_TickShifts.l0 k a n (dbl i.toNat (hd a)) i = some true := by
  have fin : ∀ (k : Nat) (a n : Int) (K : Nat) (i : Int), n ≤ 9223372036854775807 → (∀ q, K ≤ q → decorumlaw01_awake.f q = some true) → 0 ≤ i → i = mn (mx n 0) 70 → K + n.toNat + 1 < k →
      decorumlaw01_TickShifts.l0 (k + 1) a n (dbl i.toNat (hd a)) i = some true := by
    intro k a n K i hn h h0 hi hk
    have hy : dbl i.toNat (hd a) = dbl n.toNat (hd a) := by
      by_cases c : n ≤ 70
      · have : i.toNat = n.toNat := by rw [hi]; unfold mx mn; omega
        rw [this]
      · have e1 : i.toNat = 70 := by rw [hi]; unfold mx mn; omega
        have e2 : n.toNat = 70 + (n.toNat - 70) := by omega
        rw [e1, e2, dbl_70 _ (hd_bd a).1 (hd_bd a).2]
    simp only [decorumlaw01_TickShifts.l0]
    by_cases c : i < n
    · rw [if_pos c, if_neg (by rw [hi]; unfold mx mn at *; omega)]
      exact last k a n hn (by omega) (h k (by omega)) _ hy
    · rw [if_neg c]
      exact last k a n hn (by omega) (h k (by omega)) _ hy
  induction d with
  | zero =>
    intro k a n i K hn h h0 h1 h2 hd' hk
    obtain ⟨k, rfl⟩ : ∃ m, k = m + 1 := ⟨k - 1, by omega⟩
    exact fin k a n K i hn h h0 (by unfold mx mn at *; omega) (by omega)
  | succ d ih =>
    intro k a n i K hn h h0 h1 h2 hd' hk
    obtain ⟨k, rfl⟩ : ∃ m, k = m + 1 := ⟨k - 1, by omega⟩
    have hd2 := hd'
    unfold mx mn at hd2
    simp only [decorumlaw01_TickShifts.l0]
    rw [if_pos (by omega), if_pos (by omega), radd_eq _ _ _ (by omega)]
    simp only [Option.bind_some]
    rw [wrap_in (i + 1) (by omega) (by omega)]
    have e : ad (dbl i.toNat (hd a)) (dbl i.toNat (hd a)) = dbl (i + 1).toNat (hd a) := by
      rw [show (i + 1).toNat = i.toNat + 1 by omega, dbl_add i.toNat 1]; rfl
    rw [e]
    exact ih k a n (i + 1) K hn h (by omega) (by omega) (by unfold mx; omega) (by omega) (by omega)
end TickShifts
open TickShifts in
theorem TickShifts : decorumlaw01_TickShifts.Pure := by
  intro a n _ wn
  obtain ⟨K, h⟩ := awake_ev
  have hn := bd_i64 wn
  refine ⟨K + n.toNat + 100, ?_⟩
  unfold decorumlaw01_TickShifts.f
  rw [rheld_eq]
  simp only [Option.bind_some]
  exact l0_eq _ (K + n.toNat + 100) a n 0 K hn.2 h (by omega) (by omega) (by unfold mx; omega) rfl (by unfold mx mn; omega)

end Go.Proofs.Ytobepponcolciaa.Pure
