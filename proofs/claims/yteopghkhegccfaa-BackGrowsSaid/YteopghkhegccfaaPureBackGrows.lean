/- BackGrows: for any two uint32 and any draw, waits grow with failures up to the most, and a draw gives between half and all of them; no condition. -/
import Derived.Test.YteopghkhegccfaaPBackGrowsx1
namespace Go.Proofs.Yteopghkhegccfaa.Pure
open Go.RowKit Go.Proofs.Yteopghkhegccfaa.PBackGrows Go.Proofs.YteopghkhegccfaaW.PrintWords Go.Proofs.YteopghkhegccfaaW.PrintLast Go.Proofs.YteopghkhegccfaaW.PrintMore
set_option linter.unusedVariables false
namespace BackGrows
theorem bd_u8 {n : Int} (h : (Lit.int .u8 n).wf = true) : 0 ≤ n ∧ n ≤ 255 := by
  simp [Lit.wf, IntKind.min, IntKind.max, IntKind.signed, IntKind.bits] at h
  omega
theorem bd_u16 {n : Int} (h : (Lit.int .u16 n).wf = true) : 0 ≤ n ∧ n ≤ 65535 := by
  simp [Lit.wf, IntKind.min, IntKind.max, IntKind.signed, IntKind.bits] at h
  omega
theorem bd_u32 {n : Int} (h : (Lit.int .u32 n).wf = true) : 0 ≤ n ∧ n ≤ 4294967295 := by
  simp [Lit.wf, IntKind.min, IntKind.max, IntKind.signed, IntKind.bits] at h
  omega
theorem bd_i64 {n : Int} (h : (Lit.int .i64 n).wf = true) : -9223372036854775808 ≤ n ∧ n ≤ 9223372036854775807 := by
  simp [Lit.wf, IntKind.min, IntKind.max, IntKind.signed, IntKind.bits] at h
  omega
def hd (a : Int) : Int := mx (-4611686018427387903) (mn a 4611686018427387903)
def ad (a b : Int) : Int := hd (hd a + hd b)
theorem wrap_in (n : Int) (h : -9223372036854775808 ≤ n) (h' : n ≤ 9223372036854775807) : wrap64 n = n := by
  unfold wrap64; omega
theorem hd_bd (a : Int) : -4611686018427387903 ≤ hd a ∧ hd a ≤ 4611686018427387903 := by
  unfold hd mx mn; omega
theorem hd_id (a : Int) (h : -4611686018427387903 ≤ a) (h' : a ≤ 4611686018427387903) : hd a = a := by
  unfold hd mx mn; omega
theorem ad_bd (a b : Int) : -4611686018427387903 ≤ ad a b ∧ ad a b ≤ 4611686018427387903 := hd_bd _
theorem held_eq (a : Int) : tick_held.f a = some (hd a) := rfl
theorem add_eq (a b : Int) : tick_Add.f a b = some (ad a b) := by
  have ha := hd_bd a
  have hb := hd_bd b
  unfold tick_Add.f
  simp only [held_eq, Option.bind_some]
  rw [wrap_in _ (by omega) (by omega)]
  rfl
/-- doubled n times, held. -/
def dbl : Nat → Int → Int
  | 0, x => x
  | n + 1, x => dbl n (ad x x)
theorem dbl_fix (x : Int) (h : ad x x = x) : ∀ n, dbl n x = x
  | 0 => rfl
  | n + 1 => by rw [dbl, h]; exact dbl_fix x h n
theorem dbl_bd (n : Nat) : ∀ x : Int, -4611686018427387903 ≤ x → x ≤ 4611686018427387903 → -4611686018427387903 ≤ dbl n x ∧ dbl n x ≤ 4611686018427387903 := by
  induction n with
  | zero => intro x h h'; exact ⟨h, h'⟩
  | succ n ih => intro x _ _; exact ih _ (ad_bd x x).1 (ad_bd x x).2
theorem shl_l0 (d : Nat) : ∀ (k : Nat) (x n : Int), -4611686018427387903 ≤ x → x ≤ 4611686018427387903 → n ≤ 9223372036854775807 → n.toNat = d → d < k → tick_Shl.l0 k x n = some (dbl d x) := by
  induction d with
  | zero =>
    intro k x n _ _ _ hn hk
    obtain ⟨k, rfl⟩ : ∃ m, k = m + 1 := ⟨k - 1, by omega⟩
    simp only [tick_Shl.l0]
    rw [if_neg (by omega)]
    rfl
  | succ d ih =>
    intro k x n h0 h1 h2 hn hk
    obtain ⟨k, rfl⟩ : ∃ m, k = m + 1 := ⟨k - 1, by omega⟩
    simp only [tick_Shl.l0]
    rw [if_pos (by omega)]
    by_cases hx : x = 0
    · rw [if_pos hx, dbl_fix x (by subst hx; rfl)]
    · rw [if_neg hx, wrap_in (-x) (by omega) (by omega)]
      by_cases hm : mx x (-x) < 4611686018427387903
      · rw [if_pos hm, add_eq]
        simp only [Option.bind_some]
        rw [wrap_in (n - 1) (by omega) (by omega)]
        exact ih k _ _ (ad_bd x x).1 (ad_bd x x).2 (by omega) (by omega) (by omega)
      · rw [if_neg hm, dbl_fix x]
        unfold mx at hm
        unfold ad hd mx mn
        omega
theorem shl_eq (k : Nat) (a n : Int) (h : n ≤ 9223372036854775807) (hk : n.toNat < k) : tick_Shl.f k a n = some (dbl n.toNat (hd a)) := by
  unfold tick_Shl.f
  rw [held_eq]
  simp only [Option.bind_some]
  exact shl_l0 _ k _ n (hd_bd a).1 (hd_bd a).2 h rfl hk
theorem mul_bd {a b A B : Int} (ha : 0 ≤ a) (hA : a ≤ A) (hb : 0 ≤ b) (hB : b ≤ B) : 0 ≤ a * b ∧ a * b ≤ A * B :=
  ⟨Int.mul_nonneg ha hb, Int.mul_le_mul hA hB hb (by omega)⟩
/-- a part of W, by D thousandths of its greater half. -/
def jit (W D : Int) : Int := W / 2 + (W - W / 2) * D / 1000
def cw (w : Int) : Int := mx 0 (mn w 1099511627776)
def cd (d : Int) : Int := mx 0 (mn d 1000)
theorem cw_bd (w : Int) : 0 ≤ cw w ∧ cw w ≤ 1099511627776 := by unfold cw mx mn; omega
theorem cd_bd (d : Int) : 0 ≤ cd d ∧ cd d ≤ 1000 := by unfold cd mx mn; omega
theorem jitter_eq (w d : Int) : back_Jitter.f w d = some (jit (cw w) (cd d)) := by
  have hw := cw_bd w
  have hd' := cd_bd d
  have e1 : mx 0 (mn w 1099511627776) = cw w := rfl
  have e2 : mx 0 (mn d 1000) = cd d := rfl
  unfold back_Jitter.f jit
  rw [e1, e2]
  generalize cw w = W at *
  generalize cd d = D at *
  have hm := mul_bd (a := W - W / 2) (A := 1099511627776) (b := D) (B := 1000) (by omega) (by omega) hd'.1 hd'.2
  generalize (W - W / 2) * D = p at *
  rw [wrap_in p (by omega) (by omega), Int.tdiv_eq_ediv_of_nonneg hm.1, wrap_in (p / 1000) (by omega) (by omega), wrap_in _ (by omega) (by omega)]
theorem up_eq (e : Int) : back_Up.f e = some (mx 0 (mn e 15) + 1) := rfl
theorem awake_ev : ∃ K, ∀ k, K ≤ k → decorumlaw18_awake.f k = some true := Ev.of decorumlaw18_awake.mono (k := 20) (by decide +kernel)
def mst (a b e : Int) : Int := if e < 1 then 0 else mx (mn (dbl ((mn e 16) - 1).toNat (hd (mx a 0))) b) 0
theorem back_eq (k : Nat) (a b e : Int) (hk : 20 ≤ k) : back_Most.f k a b e = some (mst a b e) := by
  unfold back_Most.f mst
  by_cases h : e < 1
  · rw [if_pos h, if_pos h]
  · rw [if_neg h, if_neg h]
    have h1 : 1 ≤ mn e 16 ∧ mn e 16 ≤ 16 := by unfold mn; omega
    rw [wrap_in _ (by omega) (by omega), shl_eq k _ _ (by omega) (by omega)]
    rfl
theorem dbl_snoc (n : Nat) : ∀ x, dbl (n + 1) x = ad (dbl n x) (dbl n x) := by
  induction n with
  | zero => intro x; rfl
  | succ n ih => intro x; exact ih (ad x x)
theorem dbl_pos (n : Nat) : ∀ x : Int, 0 ≤ x → x ≤ 4611686018427387903 → 0 ≤ dbl n x := by
  induction n with
  | zero => intro x h _; exact h
  | succ n ih =>
    intro x h h'
    refine ih _ ?_ (ad_bd x x).2
    unfold ad hd mx mn; omega
theorem dbl_up (n : Nat) (x : Int) (h : 0 ≤ x) (h' : x ≤ 4611686018427387903) : dbl n x ≤ dbl (n + 1) x := by
  rw [dbl_snoc]
  have h1 := dbl_pos n x h h'
  have h2 := (dbl_bd n x (by omega) h').2
  generalize dbl n x = y at *
  unfold ad hd mx mn; omega
theorem mst_bd (a b e : Int) (hb : 0 ≤ b) : 0 ≤ mst a b e ∧ mst a b e ≤ b := by
  unfold mst
  split
  · omega
  · unfold mx mn; omega
theorem mst_up (a b e : Int) (hb : 0 ≤ b) (he : 0 ≤ e) : mst a b e ≤ mst a b (mx 0 (mn e 15) + 1) := by
  by_cases h0 : e < 1
  · have := mst_bd a b (mx 0 (mn e 15) + 1) hb
    unfold mst at this ⊢
    rw [if_pos h0]
    omega
  by_cases h1 : e ≤ 15
  · have e1 : mx 0 (mn e 15) + 1 = e + 1 := by unfold mx mn; omega
    rw [e1]
    unfold mst
    rw [if_neg h0, if_neg (by omega)]
    have e2 : (mn e 16 - 1).toNat = (e - 1).toNat := by unfold mn; omega
    have e3 : (mn (e + 1) 16 - 1).toNat = (e - 1).toNat + 1 := by unfold mn; omega
    rw [e2, e3]
    have hx : 0 ≤ hd (mx a 0) ∧ hd (mx a 0) ≤ 4611686018427387903 := by unfold hd mx mn; omega
    have := dbl_up (e - 1).toNat _ hx.1 hx.2
    generalize dbl (e - 1).toNat (hd (mx a 0)) = u at *
    generalize dbl ((e - 1).toNat + 1) (hd (mx a 0)) = v at *
    unfold mx mn; omega
  · have e1 : mx 0 (mn e 15) + 1 = 16 := by unfold mx mn; omega
    rw [e1]
    unfold mst
    rw [if_neg h0, if_neg (by omega)]
    have e2 : (mn e 16 - 1).toNat = 15 := by unfold mn; omega
    have e3 : (mn 16 16 - 1).toNat = 15 := by unfold mn; omega
    rw [e2, e3]
    exact Int.le_refl _
theorem jit_lo (W D : Int) (hW : 0 ≤ W) (h0 : 0 ≤ D) : W / 2 ≤ jit W D := by
  unfold jit
  have := Int.mul_nonneg (show 0 ≤ W - W / 2 by omega) h0
  generalize (W - W / 2) * D = p at *
  omega
theorem jit_hi (W D : Int) (hW : 0 ≤ W) (h1 : D ≤ 1000) : jit W D ≤ W := by
  unfold jit
  have := Int.mul_le_mul_of_nonneg_left h1 (show 0 ≤ W - W / 2 by omega)
  generalize (W - W / 2) * D = p at *
  omega
theorem jit_0 (W : Int) : jit W 0 = W / 2 := by unfold jit; simp
theorem jit_1000 (W : Int) : jit W 1000 = W := by unfold jit; omega
theorem cw_id (w : Int) (h : 0 ≤ w) (h' : w ≤ 1099511627776) : cw w = w := by unfold cw mx mn; omega
theorem rounds (a b x : Int) (ha : 0 ≤ a) (ha' : a ≤ 4294967295) (hb : 0 ≤ b) (hb' : b ≤ 4294967295) (K : Nat) (hK : ∀ k, K ≤ k → decorumlaw18_awake.f k = some true) (d : Nat) :
    ∀ (k : Nat) (e i : Int), i ≤ 20 → e = mn i 16 → 0 ≤ i → (20 - i).toNat = d → K + 20 + d < k →
    decorumlaw18_BackGrows.l0 k a b x (mst a b e) e i = some true := by
  have wa := wrap_in a (by omega) (by omega)
  have wb := wrap_in b (by omega) (by omega)
  induction d with
  | zero =>
    intro k e i hi he h0 hd' hk
    obtain ⟨k, rfl⟩ : ∃ m, k = m + 1 := ⟨k - 1, by omega⟩
    have he2 : e = 16 := by unfold mn at he; omega
    have hm := mst_bd a b e hb
    simp only [decorumlaw18_BackGrows.l0]
    rw [if_neg (by omega), hK k (by omega)]
    simp only [Option.bind_some, if_true]
    rw [if_pos he2, jitter_eq, jitter_eq]
    simp only [Option.bind_some]
    rw [cw_id _ hm.1 (by omega), Int.tdiv_eq_ediv_of_nonneg hm.1, wrap_in _ (by omega) (by omega)]
    rw [show cd 0 = 0 from rfl, show cd 1000 = 1000 from rfl, jit_0, jit_1000, if_pos rfl]
    simp
  | succ d ih =>
    intro k e i hi he h0 hd' hk
    obtain ⟨k, rfl⟩ : ∃ m, k = m + 1 := ⟨k - 1, by omega⟩
    have hup := mst_up a b e hb (by unfold mn at he; omega)
    have hu : mx 0 (mn e 15) + 1 = mn (i + 1) 16 := by unfold mn at he; unfold mx mn; omega
    have hu2 : 1 ≤ mx 0 (mn e 15) + 1 ∧ mx 0 (mn e 15) + 1 ≤ 16 := by unfold mx mn; omega
    simp only [decorumlaw18_BackGrows.l0]
    rw [if_pos (by omega), up_eq]
    simp only [Option.bind_some]
    rw [wa, wb, back_eq k _ _ _ (by omega)]
    simp only [Option.bind_some]
    rw [jitter_eq]
    simp only [Option.bind_some]
    have hm := mst_bd a b (mx 0 (mn e 15) + 1) hb
    generalize hz : mx 0 (mn e 15) + 1 = z at *
    have hc := cd_bd x
    have hlo := jit_lo (mst a b z) (cd x) hm.1 hc.1
    have hhi := jit_hi (mst a b z) (cd x) hm.1 hc.2
    rw [cw_id _ hm.1 (by omega), Int.tdiv_eq_ediv_of_nonneg hm.1, wrap_in (mst a b z / 2) (by omega) (by omega)]
    rw [if_neg (by omega), if_neg (by omega), if_neg (by omega), if_neg (by omega), if_neg (by omega), if_neg (by omega), wrap_in _ (by omega) (by omega)]
    exact ih k z (i + 1) (by omega) hu (by omega) (by omega) (by omega)
end BackGrows
open BackGrows in
theorem BackGrows : decorumlaw18_BackGrows.Pure := by
  intro a b x wa wb _
  obtain ⟨K, h⟩ := awake_ev
  have ba := bd_u32 wa
  have bb := bd_u32 wb
  refine ⟨K + 41, ?_⟩
  unfold decorumlaw18_BackGrows.f
  exact rounds a b x (by omega) (by omega) (by omega) (by omega) K h 20 _ 0 0 (by omega) (by unfold mn; omega) (by omega) (by omega) (by omega)

end Go.Proofs.Yteopghkhegccfaa.Pure
