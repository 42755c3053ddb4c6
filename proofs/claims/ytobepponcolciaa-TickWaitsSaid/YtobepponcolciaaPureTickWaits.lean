/- TickWaits: for any two uint16 the bucket has one just behind the wait, and not ahead; no condition. -/
import Derived.Test.YtobepponcolciaaQTickWaitsx2
namespace Go.Proofs.Ytobepponcolciaa.Pure
open Go.RowKit Go.Proofs.Ytobepponcolciaa.QTickWaits Go.Proofs.YtobepponcolciaaW.PrintWords Go.Proofs.YtobepponcolciaaW.PrintLast Go.Proofs.YtobepponcolciaaW.PrintMore
set_option linter.unusedVariables false
namespace TickWaits
theorem bd_u8 {n : Int} (h : (Lit.int .u8 n).wf = true) : 0 ≤ n ∧ n ≤ 255 := by
  simp [Lit.wf, IntKind.min, IntKind.max, IntKind.signed, IntKind.bits] at h
  omega
theorem bd_u16 {n : Int} (h : (Lit.int .u16 n).wf = true) : 0 ≤ n ∧ n ≤ 65535 := by
  simp [Lit.wf, IntKind.min, IntKind.max, IntKind.signed, IntKind.bits] at h
  omega
theorem bd_u32 {n : Int} (h : (Lit.int .u32 n).wf = true) : 0 ≤ n ∧ n ≤ 4294967295 := by
  simp [Lit.wf, IntKind.min, IntKind.max, IntKind.signed, IntKind.bits] at h
  omega
theorem bd_i64 {n : Int} (h : (Lit.int .i64 n).wf = true) : -9223372036854775808 ≤ n ∧ n ≤ 9223372036854775807 := by
  simp [Lit.wf, IntKind.min, IntKind.max, IntKind.signed, IntKind.bits] at h
  omega
def hd (a : Int) : Int := mx (-4611686018427387903) (mn a 4611686018427387903)
def ad (a b : Int) : Int := hd (hd a + hd b)
theorem wrap_in (n : Int) (h : -9223372036854775808 ≤ n) (h' : n ≤ 9223372036854775807) : wrap64 n = n := by
  unfold wrap64; omega
theorem hd_bd (a : Int) : -4611686018427387903 ≤ hd a ∧ hd a ≤ 4611686018427387903 := by
  unfold hd mx mn; omega
theorem hd_id (a : Int) (h : -4611686018427387903 ≤ a) (h' : a ≤ 4611686018427387903) : hd a = a := by
  unfold hd mx mn; omega
theorem ad_bd (a b : Int) : -4611686018427387903 ≤ ad a b ∧ ad a b ≤ 4611686018427387903 := hd_bd _
theorem held_eq (a : Int) : tick_held.f a = some (hd a) := rfl
theorem add_eq (a b : Int) : tick_Add.f a b = some (ad a b) := by
  have ha := hd_bd a
  have hb := hd_bd b
  unfold tick_Add.f
  simp only [held_eq, Option.bind_some]
  rw [wrap_in _ (by omega) (by omega)]
  rfl
theorem u64w (n : Int) : IntKind.u64.wrap n = n % 18446744073709551616 := by simp [IntKind.wrap, IntKind.bits, IntKind.signed]
theorem u64in (n : Int) (h : 0 ≤ n) (h' : n ≤ 18446744073709551615) : IntKind.u64.wrap n = n := by rw [u64w]; omega
theorem low32 (x : Int) (h : 0 ≤ x) (h' : x ≤ 18446744073709551615) : Go.bits .and .u64 x 4294967295 = x % 4294967296 := by
  have := bits_mask .u64 64 (by decide) (fun n a b => u64in n a (by omega)) 32 (by decide) x h (by omega)
  simpa using this
theorem mul_bd {a b A B : Int} (ha : 0 ≤ a) (hA : a ≤ A) (hb : 0 ≤ b) (hB : b ≤ B) : 0 ≤ a * b ∧ a * b ≤ A * B :=
  ⟨Int.mul_nonneg ha hb, Int.mul_le_mul hA hB hb (by omega)⟩
theorem mul64_eq (x y : Int) (hx : 0 ≤ x) (hx' : x ≤ 18446744073709551615) (hy : 0 ≤ y) (hy' : y ≤ 18446744073709551615) :
    bits_Mul64.f x y = some (x * y / 18446744073709551616, x * y % 18446744073709551616) := by
  unfold bits_Mul64.f
  rw [low32 x hx hx', low32 y hy hy']
  have ex : x = x / 4294967296 * 4294967296 + x % 4294967296 := by omega
  have ey : y = y / 4294967296 * 4294967296 + y % 4294967296 := by omega
  have e : x * y = x / 4294967296 * (y / 4294967296) * 18446744073709551616 + (x / 4294967296 * (y % 4294967296) + x % 4294967296 * (y / 4294967296)) * 4294967296 + x % 4294967296 * (y % 4294967296) := by
    conv => lhs; rw [ex, ey]
    rw [Int.add_mul, Int.mul_add, Int.mul_add, Int.add_mul]
    have f1 : x / 4294967296 * 4294967296 * (y / 4294967296 * 4294967296) = x / 4294967296 * (y / 4294967296) * 18446744073709551616 := by
      rw [show (18446744073709551616 : Int) = 4294967296 * 4294967296 from rfl]; ac_rfl
    have f2 : x / 4294967296 * 4294967296 * (y % 4294967296) = x / 4294967296 * (y % 4294967296) * 4294967296 := by
      rw [Int.mul_right_comm]
    have f3 : x % 4294967296 * (y / 4294967296 * 4294967296) = x % 4294967296 * (y / 4294967296) * 4294967296 := by
      rw [← Int.mul_assoc]
    rw [f1, f2, f3]; omega
  have b11 := mul_bd (a := x / 4294967296) (A := 4294967295) (b := y / 4294967296) (B := 4294967295) (by omega) (by omega) (by omega) (by omega)
  have b10 := mul_bd (a := x / 4294967296) (A := 4294967295) (b := y % 4294967296) (B := 4294967295) (by omega) (by omega) (by omega) (by omega)
  have b01 := mul_bd (a := x % 4294967296) (A := 4294967295) (b := y / 4294967296) (B := 4294967295) (by omega) (by omega) (by omega) (by omega)
  have b00 := mul_bd (a := x % 4294967296) (A := 4294967295) (b := y % 4294967296) (B := 4294967295) (by omega) (by omega) (by omega) (by omega)
  rw [e]
  clear e ex ey
  generalize x / 4294967296 * (y / 4294967296) = p11 at *
  generalize x / 4294967296 * (y % 4294967296) = p10 at *
  generalize x % 4294967296 * (y / 4294967296) = p01 at *
  generalize x % 4294967296 * (y % 4294967296) = p00 at *
  rw [u64in p00 (by omega) (by omega), u64in p10 (by omega) (by omega), u64in p01 (by omega) (by omega), u64in p11 (by omega) (by omega)]
  rw [u64in (p10 + p00 / 4294967296) (by omega) (by omega)]
  rw [low32 (p10 + p00 / 4294967296) (by omega) (by omega)]
  rw [u64in ((p10 + p00 / 4294967296) % 4294967296 + p01) (by omega) (by omega), u64in (p11 + (p10 + p00 / 4294967296) / 4294967296) (by omega) (by omega), u64in (p11 + (p10 + p00 / 4294967296) / 4294967296 + ((p10 + p00 / 4294967296) % 4294967296 + p01) / 4294967296) (by omega) (by omega), u64w]
  exact congrArg some (Prod.ext (by dsimp only; omega) (by dsimp only))
/-- the product, held. -/
def ml (a b : Int) : Int := hd (hd a * hd b)
def ab (x : Int) : Int := if x < 0 then -x else x
theorem ab_mul (x y : Int) : x * y = if decide (x < 0) != decide (y < 0) then -(ab x * ab y) else ab x * ab y := by
  unfold ab
  by_cases hx : x < 0 <;> by_cases hy : y < 0 <;> simp [hx, hy, Int.neg_mul, Int.mul_neg]
theorem ab_bd (a : Int) : 0 ≤ ab (hd a) ∧ ab (hd a) ≤ 4611686018427387903 := by
  have := hd_bd a
  unfold ab; split <;> omega
theorem mx_ab (x : Int) (h : -4611686018427387903 ≤ x ∧ x ≤ 4611686018427387903) : mx x (wrap64 (-x)) = ab x := by
  rw [wrap_in (-x) (by omega) (by omega)]
  unfold mx ab; split <;> split <;> omega
theorem mul_eq (k : Nat) (a b : Int) (hk : 0 < k) : tick_Mul.f k a b = some (ml a b) := by
  obtain ⟨k, rfl⟩ : ∃ m, k = m + 1 := ⟨k - 1, by omega⟩
  have ha := hd_bd a
  have hb := hd_bd b
  have ba := ab_bd a
  have bb := ab_bd b
  unfold tick_Mul.f ml
  simp only [held_eq, Option.bind_some]
  rw [mx_ab _ ha, mx_ab _ hb, u64in _ ba.1 (by omega), u64in _ bb.1 (by omega), mul64_eq _ _ ba.1 (by omega) bb.1 (by omega), ab_mul (hd a) (hd b)]
  have hp := mul_bd ba.1 ba.2 bb.1 bb.2
  generalize ab (hd a) * ab (hd b) = p at *
  simp only [Option.bind_some, tick_Mul.j0]
  generalize (decide (hd a < 0) != decide (hd b < 0)) = s
  by_cases h0 : p < 18446744073709551616
  · rw [if_pos (by omega)]
    by_cases h1 : p < 4611686018427387903
    · rw [if_pos (by simp; omega), show p % 18446744073709551616 = p by omega, wrap_in p (by omega) (by omega), wrap_in (-p) (by omega) (by omega)]
      cases s
      · rw [if_neg (by decide), if_neg (by decide), hd_id p (by omega) (by omega)]
      · rw [if_pos rfl, if_pos rfl, hd_id (-p) (by omega) (by omega)]
    · rw [if_neg (by simp; omega), wrap_in _ (by omega) (by omega)]
      cases s
      · rw [if_neg (by decide), if_neg (by decide)]; exact congrArg some (by unfold hd mx mn; omega)
      · rw [if_pos rfl, if_pos rfl]; exact congrArg some (by unfold hd mx mn; omega)
  · rw [if_neg (by omega), if_neg (by decide), wrap_in _ (by omega) (by omega)]
    cases s
    · rw [if_neg (by decide), if_neg (by decide)]; exact congrArg some (by unfold hd mx mn; omega)
    · rw [if_pos rfl, if_pos rfl]; exact congrArg some (by unfold hd mx mn; omega)
def fl (l r b m : Int) : Int := mn (ml (mx b 0) 1000) (ad (mx l 0) (ml (mx r 0) (mx m 0)))
theorem fill_eq (k : Nat) (l r b m : Int) (hk : 0 < k) : tick_Fill.f k l r b m = some (fl l r b m) := by
  unfold tick_Fill.f fl
  rw [mul_eq k _ _ hk, mul_eq k _ _ hk]
  simp only [Option.bind_some]
  rw [add_eq]
  rfl
/-- at small numbers nothing is held. -/
theorem fl_small (l r b m : Int) (hl : 0 ≤ l) (hl' : l ≤ 70000000) (hr : 0 ≤ r) (hr' : r ≤ 65535) (hb : 0 ≤ b) (hb' : b ≤ 1048576) (hm' : m ≤ 200000) : fl l r b m = mn (1000 * b) (l + r * mx m 0) := by
  have hp := mul_bd hr hr' (show 0 ≤ mx m 0 by unfold mx; omega) (show mx m 0 ≤ 200000 by unfold mx; omega)
  have e1 : mx b 0 = b := by unfold mx; omega
  have e2 : mx l 0 = l := by unfold mx; omega
  have e3 : mx r 0 = r := by unfold mx; omega
  unfold fl ml ad
  have hm2 : 0 ≤ mx m 0 ∧ mx m 0 ≤ 200000 := by unfold mx; omega
  rw [e1, e2, e3]
  generalize mx m 0 = M at *
  rw [hd_id b (by omega) (by omega), hd_id 1000 (by omega) (by omega), hd_id (b * 1000) (by omega) (by omega), hd_id r (by omega) (by omega), hd_id M (by omega) (by omega), hd_id l (by omega) (by omega)]
  generalize r * M = p at *
  rw [hd_id p (by omega) (by omega), hd_id p (by omega) (by omega), hd_id (l + p) (by omega) (by omega), Int.mul_comm]
theorem awake_ev : ∃ K, ∀ k, K ≤ k → decorumlaw01_awake.f k = some true := Ev.of decorumlaw01_awake.mono (k := 20) (by decide +kernel)
theorem take_snd (l : Int) : tick_Take.f l = some (if l < 1000 then l else wrap64 (l - 1000), decide (1000 ≤ l)) := by
  unfold tick_Take.f
  by_cases c : l < 1000
  · rw [if_pos c, if_pos c, decide_eq_false (by omega)]
  · rw [if_neg c, if_neg c, decide_eq_true (by omega)]
theorem j0_no (k : Nat) (l r n : Int) (hl : 0 ≤ l) (hl' : l ≤ 65535) (hr : 0 ≤ r) (hr' : r ≤ 65535) (hn : 0 ≤ n) (hn' : n ≤ 1000) (hk : 0 < k) (h : decorumlaw01_awake.f k = some true)
    (h1 : 1000 ≤ l + r * n) (h2 : n = 0 ∨ l + r * (n - 1) < 1000) : decorumlaw01_TickWaits.j0 (k + 1) l r n false = some true := by
  simp only [decorumlaw01_TickWaits.j0]
  rw [if_neg (by decide), wrap_in (n - 1) (by omega) (by omega), fill_eq k _ _ _ _ hk, fill_eq k _ _ _ _ hk, fl_small _ _ _ _ hl (by omega) hr hr' (by omega) (by omega) (by omega), fl_small _ _ _ _ hl (by omega) hr hr' (by omega) (by omega) (by omega), h]
  simp only [Option.bind_some, take_snd, if_true]
  have e1 : mx n 0 = n := by unfold mx; omega
  rw [e1, if_pos hn, decide_eq_true (by unfold mn; omega), if_pos rfl]
  rcases h2 with h2 | h2
  · rw [if_pos h2]
  · by_cases c : n = 0
    · rw [if_pos c]
    · have e2 : mx (n - 1) 0 = n - 1 := by unfold mx; omega
      rw [if_neg c, e2, decide_eq_false (by unfold mn; omega)]
      rfl
end TickWaits
open TickWaits in
theorem TickWaits : decorumlaw01_TickWaits.Pure := by
  intro l r wl wr
  obtain ⟨K, h⟩ := awake_ev
  have hl := bd_u16 wl
  have hr := bd_u16 wr
  refine ⟨K + 2, ?_⟩
  unfold decorumlaw01_TickWaits.f tick_Wait.f
  rw [wrap_in l (by omega) (by omega), wrap_in r (by omega) (by omega)]
  by_cases c : l ≥ 1000
  · rw [if_pos c]
    simp only [Option.bind_some]
    have hf := j0_no (K + 1) l r 0 hl.1 hl.2 hr.1 hr.2 (by omega) (by omega) (by omega) (h _ (by omega)) (by rw [Int.mul_zero]; omega) (Or.inl rfl)
    by_cases g : r = 0
    · rw [if_pos g, decide_eq_false (by omega)]; exact hf
    · rw [if_neg g]; exact hf
  · rw [if_neg c]
    by_cases g : r < 1
    · rw [if_pos g]
      simp only [Option.bind_some]
      rw [if_pos (by omega), decide_eq_true (by omega)]
      simp only [decorumlaw01_TickWaits.j0, if_true]
      rw [h _ (by omega)]; rfl
    · rw [if_neg g, if_neg (by omega)]
      simp only [Option.bind_some]
      have e : mx l 0 = l := by unfold mx; omega
      rw [if_neg (by omega), e, wrap_in (1000 - l) (by omega) (by omega), Int.tdiv_eq_ediv_of_nonneg (by omega), Int.tmod_eq_emod_of_nonneg (by omega)]
      have hq := Int.mul_ediv_add_emod (1000 - l) r
      have hm0 := Int.emod_nonneg (1000 - l) (show r ≠ 0 by omega)
      have hm1 := Int.emod_lt_of_pos (1000 - l) (show 0 < r by omega)
      have hq0 : 0 ≤ (1000 - l) / r := Int.ediv_nonneg (by omega) (by omega)
      have hq1 : (1000 - l) / r ≤ 1000 - l := Int.ediv_le_self _ (by omega)
      generalize (1000 - l) / r = q at *
      generalize (1000 - l) % r = m at *
      have hq2 : q = 1000 - l → m = 0 := by
        intro hh
        have : 1 * q ≤ r * q := Int.mul_le_mul_of_nonneg_right (by omega) hq0
        omega
      have hmn : mn m 1 = if m = 0 then 0 else 1 := by unfold mn; split <;> split <;> omega
      rw [wrap_in q (by omega) (by omega), hmn]
      by_cases z : m = 0
      · rw [if_pos z, wrap_in _ (by omega) (by omega), Int.add_zero]
        refine j0_no (K + 1) l r q hl.1 hl.2 hr.1 hr.2 hq0 (by omega) (by omega) (h _ (by omega)) (by omega) (Or.inr ?_)
        rw [Int.mul_sub]; omega
      · rw [if_neg z, wrap_in _ (by omega) (by omega)]
        refine j0_no (K + 1) l r (q + 1) hl.1 hl.2 hr.1 hr.2 (by omega) (by omega) (by omega) (h _ (by omega)) (by rw [Int.mul_add]; omega) (Or.inr ?_)
        rw [show q + 1 - 1 = q by omega]; omega

end Go.Proofs.Ytobepponcolciaa.Pure
