/- TickParts: for any five uint16 filling in parts is filling at once, and the level stays in the burst; no condition. -/
import Derived.Test.YtobepponcolciaaQTickPartsx1
namespace Go.Proofs.Ytobepponcolciaa.Pure
open Go.RowKit Go.Proofs.Ytobepponcolciaa.QTickParts Go.Proofs.YtobepponcolciaaW.PrintWords Go.Proofs.YtobepponcolciaaW.PrintLast Go.Proofs.YtobepponcolciaaW.PrintMore
set_option linter.unusedVariables false
namespace TickParts
theorem bd_u8 {n : Int} (h : (Lit.int .u8 n).wf = true) : 0 ≤ n ∧ n ≤ 255 := by
  simp [Lit.wf, IntKind.min, IntKind.max, IntKind.signed, IntKind.bits] at h
  omega
theorem bd_u16 {n : Int} (h : (Lit.int .u16 n).wf = true) : 0 ≤ n ∧ n ≤ 65535 := by
  simp [Lit.wf, IntKind.min, IntKind.max, IntKind.signed, IntKind.bits] at h
  omega
theorem bd_u32 {n : Int} (h : (Lit.int .u32 n).wf = true) : 0 ≤ n ∧ n ≤ 4294967295 := by
  simp [Lit.wf, IntKind.min, IntKind.max, IntKind.signed, IntKind.bits] at h
  omega
theorem bd_i64 {n : Int} (h : (Lit.int .i64 n).wf = true) : -9223372036854775808 ≤ n ∧ n ≤ 9223372036854775807 := by
  simp [Lit.wf, IntKind.min, IntKind.max, IntKind.signed, IntKind.bits] at h
  omega
def hd (a : Int) : Int := mx (-4611686018427387903) (mn a 4611686018427387903)
def ad (a b : Int) : Int := hd (hd a + hd b)
theorem wrap_in (n : Int) (h : -9223372036854775808 ≤ n) (h' : n ≤ 9223372036854775807) : wrap64 n = n := by
  unfold wrap64; omega
theorem hd_bd (a : Int) : -4611686018427387903 ≤ hd a ∧ hd a ≤ 4611686018427387903 := by
  unfold hd mx mn; omega
theorem hd_id (a : Int) (h : -4611686018427387903 ≤ a) (h' : a ≤ 4611686018427387903) : hd a = a := by
  unfold hd mx mn; omega
theorem ad_bd (a b : Int) : -4611686018427387903 ≤ ad a b ∧ ad a b ≤ 4611686018427387903 := hd_bd _
theorem held_eq (a : Int) : tick_held.f a = some (hd a) := rfl
theorem add_eq (a b : Int) : tick_Add.f a b = some (ad a b) := by
  have ha := hd_bd a
  have hb := hd_bd b
  unfold tick_Add.f
  simp only [held_eq, Option.bind_some]
  rw [wrap_in _ (by omega) (by omega)]
  rfl
theorem u64w (n : Int) : IntKind.u64.wrap n = n % 18446744073709551616 := by simp [IntKind.wrap, IntKind.bits, IntKind.signed]
theorem u64in (n : Int) (h : 0 ≤ n) (h' : n ≤ 18446744073709551615) : IntKind.u64.wrap n = n := by rw [u64w]; omega
theorem low32 (x : Int) (h : 0 ≤ x) (h' : x ≤ 18446744073709551615) : Go.bits .and .u64 x 4294967295 = x % 4294967296 := by
  have := bits_mask .u64 64 (by decide) (fun n a b => u64in n a (by omega)) 32 (by decide) x h (by omega)
  simpa using this
theorem mul_bd {a b A B : Int} (ha : 0 ≤ a) (hA : a ≤ A) (hb : 0 ≤ b) (hB : b ≤ B) : 0 ≤ a * b ∧ a * b ≤ A * B :=
  ⟨Int.mul_nonneg ha hb, Int.mul_le_mul hA hB hb (by omega)⟩
theorem mul64_eq (x y : Int) (hx : 0 ≤ x) (hx' : x ≤ 18446744073709551615) (hy : 0 ≤ y) (hy' : y ≤ 18446744073709551615) :
    bits_Mul64.f x y = some (x * y / 18446744073709551616, x * y % 18446744073709551616) := by
  unfold bits_Mul64.f
  rw [low32 x hx hx', low32 y hy hy']
  have ex : x = x / 4294967296 * 4294967296 + x % 4294967296 := by omega
  have ey : y = y / 4294967296 * 4294967296 + y % 4294967296 := by omega
  have e : x * y = x / 4294967296 * (y / 4294967296) * 18446744073709551616 + (x / 4294967296 * (y % 4294967296) + x % 4294967296 * (y / 4294967296)) * 4294967296 + x % 4294967296 * (y % 4294967296) := by
    conv => lhs; rw [ex, ey]
    rw [Int.add_mul, Int.mul_add, Int.mul_add, Int.add_mul]
    have f1 : x / 4294967296 * 4294967296 * (y / 4294967296 * 4294967296) = x / 4294967296 * (y / 4294967296) * 18446744073709551616 := by
      rw [show (18446744073709551616 : Int) = 4294967296 * 4294967296 from rfl]; ac_rfl
    have f2 : x / 4294967296 * 4294967296 * (y % 4294967296) = x / 4294967296 * (y % 4294967296) * 4294967296 := by
      rw [Int.mul_right_comm]
    have f3 : x % 4294967296 * (y / 4294967296 * 4294967296) = x % 4294967296 * (y / 4294967296) * 4294967296 := by
      rw [← Int.mul_assoc]
    rw [f1, f2, f3]; omega
  have b11 := mul_bd (a := x / 4294967296) (A := 4294967295) (b := y / 4294967296) (B := 4294967295) (by omega) (by omega) (by omega) (by omega)
  have b10 := mul_bd (a := x / 4294967296) (A := 4294967295) (b := y % 4294967296) (B := 4294967295) (by omega) (by omega) (by omega) (by omega)
  have b01 := mul_bd (a := x % 4294967296) (A := 4294967295) (b := y / 4294967296) (B := 4294967295) (by omega) (by omega) (by omega) (by omega)
  have b00 := mul_bd (a := x % 4294967296) (A := 4294967295) (b := y % 4294967296) (B := 4294967295) (by omega) (by omega) (by omega) (by omega)
  rw [e]
  clear e ex ey
  generalize x / 4294967296 * (y / 4294967296) = p11 at *
  generalize x / 4294967296 * (y % 4294967296) = p10 at *
  generalize x % 4294967296 * (y / 4294967296) = p01 at *
  generalize x % 4294967296 * (y % 4294967296) = p00 at *
  rw [u64in p00 (by omega) (by omega), u64in p10 (by omega) (by omega), u64in p01 (by omega) (by omega), u64in p11 (by omega) (by omega)]
  rw [u64in (p10 + p00 / 4294967296) (by omega) (by omega)]
  rw [low32 (p10 + p00 / 4294967296) (by omega) (by omega)]
  rw [u64in ((p10 + p00 / 4294967296) % 4294967296 + p01) (by omega) (by omega), u64in (p11 + (p10 + p00 / 4294967296) / 4294967296) (by omega) (by omega), u64in (p11 + (p10 + p00 / 4294967296) / 4294967296 + ((p10 + p00 / 4294967296) % 4294967296 + p01) / 4294967296) (by omega) (by omega), u64w]
  exact congrArg some (Prod.ext (by dsimp only; omega) (by dsimp only))
/-- the product, held. -/
def ml (a b : Int) : Int := hd (hd a * hd b)
def ab (x : Int) : Int := if x < 0 then -x else x
theorem ab_mul (x y : Int) : x * y = if decide (x < 0) != decide (y < 0) then -(ab x * ab y) else ab x * ab y := by
  unfold ab
  by_cases hx : x < 0 <;> by_cases hy : y < 0 <;> simp [hx, hy, Int.neg_mul, Int.mul_neg]
theorem ab_bd (a : Int) : 0 ≤ ab (hd a) ∧ ab (hd a) ≤ 4611686018427387903 := by
  have := hd_bd a
  unfold ab; split <;> omega
theorem mx_ab (x : Int) (h : -4611686018427387903 ≤ x ∧ x ≤ 4611686018427387903) : mx x (wrap64 (-x)) = ab x := by
  rw [wrap_in (-x) (by omega) (by omega)]
  unfold mx ab; split <;> split <;> omega
theorem mul_eq (k : Nat) (a b : Int) (hk : 0 < k) : tick_Mul.f k a b = some (ml a b) := by
  obtain ⟨k, rfl⟩ : ∃ m, k = m + 1 := ⟨k - 1, by omega⟩
  have ha := hd_bd a
  have hb := hd_bd b
  have ba := ab_bd a
  have bb := ab_bd b
  unfold tick_Mul.f ml
  simp only [held_eq, Option.bind_some]
  rw [mx_ab _ ha, mx_ab _ hb, u64in _ ba.1 (by omega), u64in _ bb.1 (by omega), mul64_eq _ _ ba.1 (by omega) bb.1 (by omega), ab_mul (hd a) (hd b)]
  have hp := mul_bd ba.1 ba.2 bb.1 bb.2
  generalize ab (hd a) * ab (hd b) = p at *
  simp only [Option.bind_some, tick_Mul.j0]
  generalize (decide (hd a < 0) != decide (hd b < 0)) = s
  by_cases h0 : p < 18446744073709551616
  · rw [if_pos (by omega)]
    by_cases h1 : p < 4611686018427387903
    · rw [if_pos (by simp; omega), show p % 18446744073709551616 = p by omega, wrap_in p (by omega) (by omega), wrap_in (-p) (by omega) (by omega)]
      cases s
      · rw [if_neg (by decide), if_neg (by decide), hd_id p (by omega) (by omega)]
      · rw [if_pos rfl, if_pos rfl, hd_id (-p) (by omega) (by omega)]
    · rw [if_neg (by simp; omega), wrap_in _ (by omega) (by omega)]
      cases s
      · rw [if_neg (by decide), if_neg (by decide)]; exact congrArg some (by unfold hd mx mn; omega)
      · rw [if_pos rfl, if_pos rfl]; exact congrArg some (by unfold hd mx mn; omega)
  · rw [if_neg (by omega), if_neg (by decide), wrap_in _ (by omega) (by omega)]
    cases s
    · rw [if_neg (by decide), if_neg (by decide)]; exact congrArg some (by unfold hd mx mn; omega)
    · rw [if_pos rfl, if_pos rfl]; exact congrArg some (by unfold hd mx mn; omega)
def fl (l r b m : Int) : Int := mn (ml (mx b 0) 1000) (ad (mx l 0) (ml (mx r 0) (mx m 0)))
theorem fill_eq (k : Nat) (l r b m : Int) (hk : 0 < k) : tick_Fill.f k l r b m = some (fl l r b m) := by
  unfold tick_Fill.f fl
  rw [mul_eq k _ _ hk, mul_eq k _ _ hk]
  simp only [Option.bind_some]
  rw [add_eq]
  rfl
/-- at small numbers nothing is held. -/
theorem fl_small (l r b m : Int) (hl : 0 ≤ l) (hl' : l ≤ 70000000) (hr : 0 ≤ r) (hr' : r ≤ 65535) (hb : 0 ≤ b) (hb' : b ≤ 1048576) (hm' : m ≤ 200000) : fl l r b m = mn (1000 * b) (l + r * mx m 0) := by
  have hp := mul_bd hr hr' (show 0 ≤ mx m 0 by unfold mx; omega) (show mx m 0 ≤ 200000 by unfold mx; omega)
  have e1 : mx b 0 = b := by unfold mx; omega
  have e2 : mx l 0 = l := by unfold mx; omega
  have e3 : mx r 0 = r := by unfold mx; omega
  unfold fl ml ad
  have hm2 : 0 ≤ mx m 0 ∧ mx m 0 ≤ 200000 := by unfold mx; omega
  rw [e1, e2, e3]
  generalize mx m 0 = M at *
  rw [hd_id b (by omega) (by omega), hd_id 1000 (by omega) (by omega), hd_id (b * 1000) (by omega) (by omega), hd_id r (by omega) (by omega), hd_id M (by omega) (by omega), hd_id l (by omega) (by omega)]
  generalize r * M = p at *
  rw [hd_id p (by omega) (by omega), hd_id p (by omega) (by omega), hd_id (l + p) (by omega) (by omega), Int.mul_comm]
theorem awake_ev : ∃ K, ∀ k, K ≤ k → decorumlaw01_awake.f k = some true := Ev.of decorumlaw01_awake.mono (k := 20) (by decide +kernel)
end TickParts
open TickParts in
theorem TickParts : decorumlaw01_TickParts.Pure := by
  intro l r m a b wl wr wm wa wb
  obtain ⟨K, h⟩ := awake_ev
  have hl := bd_u16 wl
  have hr := bd_u16 wr
  have hm := bd_u16 wm
  have ha := bd_u16 wa
  have hb := bd_u16 wb
  refine ⟨K + 1, ?_⟩
  unfold decorumlaw01_TickParts.f
  rw [wrap_in l (by omega) (by omega), wrap_in r (by omega) (by omega), wrap_in m (by omega) (by omega), wrap_in a (by omega) (by omega), wrap_in b (by omega) (by omega), wrap_in (a + b) (by omega) (by omega), wrap_in (1000 * m) (by omega) (by omega)]
  rw [fill_eq _ _ _ _ _ (by omega), fill_eq _ _ _ _ _ (by omega), fl_small l r m a hl.1 (by omega) hr.1 hr.2 hm.1 (by omega) (by omega), fl_small l r m (a + b) hl.1 (by omega) hr.1 hr.2 hm.1 (by omega) (by omega), h _ (by omega)]
  simp only [Option.bind_some]
  have pa := mul_bd hr.1 hr.2 ha.1 ha.2
  have pb := mul_bd hr.1 hr.2 hb.1 hb.2
  have e1 : mx a 0 = a := by unfold mx; omega
  have e2 : mx b 0 = b := by unfold mx; omega
  have e3 : mx (a + b) 0 = a + b := by unfold mx; omega
  rw [fill_eq _ _ _ _ _ (by omega), fl_small _ r m b (by rw [e1]; unfold mn; omega) (by rw [e1]; unfold mn; omega) hr.1 hr.2 hm.1 (by omega) (by omega)]
  simp only [Option.bind_some, if_true]
  rw [e1, e2, e3, Int.mul_add]
  generalize r * a = p at *
  generalize r * b = q at *
  rw [if_pos (by unfold mn; omega), decide_eq_true (by unfold mn; omega)]

end Go.Proofs.Ytobepponcolciaa.Pure
