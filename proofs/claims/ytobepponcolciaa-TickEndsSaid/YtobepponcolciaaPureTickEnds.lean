/- TickEnds: for any ints no result passes the ends, and sums and products commute; no condition. -/
import Derived.Test.YtobepponcolciaaQTickEndsx2
namespace Go.Proofs.Ytobepponcolciaa.Pure
open Go.RowKit Go.Proofs.Ytobepponcolciaa.QTickEnds Go.Proofs.YtobepponcolciaaW.PrintWords Go.Proofs.YtobepponcolciaaW.PrintLast Go.Proofs.YtobepponcolciaaW.PrintMore
set_option linter.unusedVariables false
namespace TickEnds
theorem bd_u8 {n : Int} (h : (Lit.int .u8 n).wf = true) : 0 ≤ n ∧ n ≤ 255 := by
  simp [Lit.wf, IntKind.min, IntKind.max, IntKind.signed, IntKind.bits] at h
  omega
theorem bd_u16 {n : Int} (h : (Lit.int .u16 n).wf = true) : 0 ≤ n ∧ n ≤ 65535 := by
  simp [Lit.wf, IntKind.min, IntKind.max, IntKind.signed, IntKind.bits] at h
  omega
theorem bd_u32 {n : Int} (h : (Lit.int .u32 n).wf = true) : 0 ≤ n ∧ n ≤ 4294967295 := by
  simp [Lit.wf, IntKind.min, IntKind.max, IntKind.signed, IntKind.bits] at h
  omega
theorem bd_i64 {n : Int} (h : (Lit.int .i64 n).wf = true) : -9223372036854775808 ≤ n ∧ n ≤ 9223372036854775807 := by
  simp [Lit.wf, IntKind.min, IntKind.max, IntKind.signed, IntKind.bits] at h
  omega
def hd (a : Int) : Int := mx (-4611686018427387903) (mn a 4611686018427387903)
def ad (a b : Int) : Int := hd (hd a + hd b)
theorem wrap_in (n : Int) (h : -9223372036854775808 ≤ n) (h' : n ≤ 9223372036854775807) : wrap64 n = n := by
  unfold wrap64; omega
theorem hd_bd (a : Int) : -4611686018427387903 ≤ hd a ∧ hd a ≤ 4611686018427387903 := by
  unfold hd mx mn; omega
theorem hd_id (a : Int) (h : -4611686018427387903 ≤ a) (h' : a ≤ 4611686018427387903) : hd a = a := by
  unfold hd mx mn; omega
theorem ad_bd (a b : Int) : -4611686018427387903 ≤ ad a b ∧ ad a b ≤ 4611686018427387903 := hd_bd _
theorem held_eq (a : Int) : tick_held.f a = some (hd a) := rfl
theorem add_eq (a b : Int) : tick_Add.f a b = some (ad a b) := by
  have ha := hd_bd a
  have hb := hd_bd b
  unfold tick_Add.f
  simp only [held_eq, Option.bind_some]
  rw [wrap_in _ (by omega) (by omega)]
  rfl
theorem u64w (n : Int) : IntKind.u64.wrap n = n % 18446744073709551616 := by simp [IntKind.wrap, IntKind.bits, IntKind.signed]
theorem u64in (n : Int) (h : 0 ≤ n) (h' : n ≤ 18446744073709551615) : IntKind.u64.wrap n = n := by rw [u64w]; omega
theorem low32 (x : Int) (h : 0 ≤ x) (h' : x ≤ 18446744073709551615) : Go.bits .and .u64 x 4294967295 = x % 4294967296 := by
  have := bits_mask .u64 64 (by decide) (fun n a b => u64in n a (by omega)) 32 (by decide) x h (by omega)
  simpa using this
theorem mul_bd {a b A B : Int} (ha : 0 ≤ a) (hA : a ≤ A) (hb : 0 ≤ b) (hB : b ≤ B) : 0 ≤ a * b ∧ a * b ≤ A * B :=
  ⟨Int.mul_nonneg ha hb, Int.mul_le_mul hA hB hb (by omega)⟩
theorem mul64_eq (x y : Int) (hx : 0 ≤ x) (hx' : x ≤ 18446744073709551615) (hy : 0 ≤ y) (hy' : y ≤ 18446744073709551615) :
    bits_Mul64.f x y = some (x * y / 18446744073709551616, x * y % 18446744073709551616) := by
  unfold bits_Mul64.f
  rw [low32 x hx hx', low32 y hy hy']
  have ex : x = x / 4294967296 * 4294967296 + x % 4294967296 := by omega
  have ey : y = y / 4294967296 * 4294967296 + y % 4294967296 := by omega
  have e : x * y = x / 4294967296 * (y / 4294967296) * 18446744073709551616 + (x / 4294967296 * (y % 4294967296) + x % 4294967296 * (y / 4294967296)) * 4294967296 + x % 4294967296 * (y % 4294967296) := by
    conv => lhs; rw [ex, ey]
    rw [Int.add_mul, Int.mul_add, Int.mul_add, Int.add_mul]
    have f1 : x / 4294967296 * 4294967296 * (y / 4294967296 * 4294967296) = x / 4294967296 * (y / 4294967296) * 18446744073709551616 := by
      rw [show (18446744073709551616 : Int) = 4294967296 * 4294967296 from rfl]; ac_rfl
    have f2 : x / 4294967296 * 4294967296 * (y % 4294967296) = x / 4294967296 * (y % 4294967296) * 4294967296 := by
      rw [Int.mul_right_comm]
    have f3 : x % 4294967296 * (y / 4294967296 * 4294967296) = x % 4294967296 * (y / 4294967296) * 4294967296 := by
      rw [← Int.mul_assoc]
    rw [f1, f2, f3]; omega
  have b11 := mul_bd (a := x / 4294967296) (A := 4294967295) (b := y / 4294967296) (B := 4294967295) (by omega) (by omega) (by omega) (by omega)
  have b10 := mul_bd (a := x / 4294967296) (A := 4294967295) (b := y % 4294967296) (B := 4294967295) (by omega) (by omega) (by omega) (by omega)
  have b01 := mul_bd (a := x % 4294967296) (A := 4294967295) (b := y / 4294967296) (B := 4294967295) (by omega) (by omega) (by omega) (by omega)
  have b00 := mul_bd (a := x % 4294967296) (A := 4294967295) (b := y % 4294967296) (B := 4294967295) (by omega) (by omega) (by omega) (by omega)
  rw [e]
  clear e ex ey
  generalize x / 4294967296 * (y / 4294967296) = p11 at *
  generalize x / 4294967296 * (y % 4294967296) = p10 at *
  generalize x % 4294967296 * (y / 4294967296) = p01 at *
  generalize x % 4294967296 * (y % 4294967296) = p00 at *
  rw [u64in p00 (by omega) (by omega), u64in p10 (by omega) (by omega), u64in p01 (by omega) (by omega), u64in p11 (by omega) (by omega)]
  rw [u64in (p10 + p00 / 4294967296) (by omega) (by omega)]
  rw [low32 (p10 + p00 / 4294967296) (by omega) (by omega)]
  rw [u64in ((p10 + p00 / 4294967296) % 4294967296 + p01) (by omega) (by omega), u64in (p11 + (p10 + p00 / 4294967296) / 4294967296) (by omega) (by omega), u64in (p11 + (p10 + p00 / 4294967296) / 4294967296 + ((p10 + p00 / 4294967296) % 4294967296 + p01) / 4294967296) (by omega) (by omega), u64w]
  exact congrArg some (Prod.ext (by dsimp only; omega) (by dsimp only))
/-- the product, held. -/
def ml (a b : Int) : Int := hd (hd a * hd b)
def ab (x : Int) : Int := if x < 0 then -x else x
theorem ab_mul (x y : Int) : x * y = if decide (x < 0) != decide (y < 0) then -(ab x * ab y) else ab x * ab y := by
  unfold ab
  by_cases hx : x < 0 <;> by_cases hy : y < 0 <;> simp [hx, hy, Int.neg_mul, Int.mul_neg]
theorem ab_bd (a : Int) : 0 ≤ ab (hd a) ∧ ab (hd a) ≤ 4611686018427387903 := by
  have := hd_bd a
  unfold ab; split <;> omega
theorem mx_ab (x : Int) (h : -4611686018427387903 ≤ x ∧ x ≤ 4611686018427387903) : mx x (wrap64 (-x)) = ab x := by
  rw [wrap_in (-x) (by omega) (by omega)]
  unfold mx ab; split <;> split <;> omega
theorem mul_eq (k : Nat) (a b : Int) (hk : 0 < k) : tick_Mul.f k a b = some (ml a b) := by
  obtain ⟨k, rfl⟩ : ∃ m, k = m + 1 := ⟨k - 1, by omega⟩
  have ha := hd_bd a
  have hb := hd_bd b
  have ba := ab_bd a
  have bb := ab_bd b
  unfold tick_Mul.f ml
  simp only [held_eq, Option.bind_some]
  rw [mx_ab _ ha, mx_ab _ hb, u64in _ ba.1 (by omega), u64in _ bb.1 (by omega), mul64_eq _ _ ba.1 (by omega) bb.1 (by omega), ab_mul (hd a) (hd b)]
  have hp := mul_bd ba.1 ba.2 bb.1 bb.2
  generalize ab (hd a) * ab (hd b) = p at *
  simp only [Option.bind_some, tick_Mul.j0]
  generalize (decide (hd a < 0) != decide (hd b < 0)) = s
  by_cases h0 : p < 18446744073709551616
  · rw [if_pos (by omega)]
    by_cases h1 : p < 4611686018427387903
    · rw [if_pos (by simp; omega), show p % 18446744073709551616 = p by omega, wrap_in p (by omega) (by omega), wrap_in (-p) (by omega) (by omega)]
      cases s
      · rw [if_neg (by decide), if_neg (by decide), hd_id p (by omega) (by omega)]
      · rw [if_pos rfl, if_pos rfl, hd_id (-p) (by omega) (by omega)]
    · rw [if_neg (by simp; omega), wrap_in _ (by omega) (by omega)]
      cases s
      · rw [if_neg (by decide), if_neg (by decide)]; exact congrArg some (by unfold hd mx mn; omega)
      · rw [if_pos rfl, if_pos rfl]; exact congrArg some (by unfold hd mx mn; omega)
  · rw [if_neg (by omega), if_neg (by decide), wrap_in _ (by omega) (by omega)]
    cases s
    · rw [if_neg (by decide), if_neg (by decide)]; exact congrArg some (by unfold hd mx mn; omega)
    · rw [if_pos rfl, if_pos rfl]; exact congrArg some (by unfold hd mx mn; omega)
/-- doubled n times, held. -/
def dbl : Nat → Int → Int
  | 0, x => x
  | n + 1, x => dbl n (ad x x)
theorem dbl_fix (x : Int) (h : ad x x = x) : ∀ n, dbl n x = x
  | 0 => rfl
  | n + 1 => by rw [dbl, h]; exact dbl_fix x h n
theorem dbl_bd (n : Nat) : ∀ x : Int, -4611686018427387903 ≤ x → x ≤ 4611686018427387903 → -4611686018427387903 ≤ dbl n x ∧ dbl n x ≤ 4611686018427387903 := by
  induction n with
  | zero => intro x h h'; exact ⟨h, h'⟩
  | succ n ih => intro x _ _; exact ih _ (ad_bd x x).1 (ad_bd x x).2
theorem shl_l0 (d : Nat) : ∀ (k : Nat) (x n : Int), -4611686018427387903 ≤ x → x ≤ 4611686018427387903 → n ≤ 9223372036854775807 → n.toNat = d → d < k → tick_Shl.l0 k x n = some (dbl d x) := by
  induction d with
  | zero =>
    intro k x n _ _ _ hn hk
    obtain ⟨k, rfl⟩ : ∃ m, k = m + 1 := ⟨k - 1, by omega⟩
    simp only [tick_Shl.l0]
    rw [if_neg (by omega)]
    rfl
  | succ d ih =>
    intro k x n h0 h1 h2 hn hk
    obtain ⟨k, rfl⟩ : ∃ m, k = m + 1 := ⟨k - 1, by omega⟩
    simp only [tick_Shl.l0]
    rw [if_pos (by omega)]
    by_cases hx : x = 0
    · rw [if_pos hx, dbl_fix x (by subst hx; rfl)]
    · rw [if_neg hx, wrap_in (-x) (by omega) (by omega)]
      by_cases hm : mx x (-x) < 4611686018427387903
      · rw [if_pos hm, add_eq]
        simp only [Option.bind_some]
        rw [wrap_in (n - 1) (by omega) (by omega)]
        exact ih k _ _ (ad_bd x x).1 (ad_bd x x).2 (by omega) (by omega) (by omega)
      · rw [if_neg hm, dbl_fix x]
        unfold mx at hm
        unfold ad hd mx mn
        omega
theorem shl_eq (k : Nat) (a n : Int) (h : n ≤ 9223372036854775807) (hk : n.toNat < k) : tick_Shl.f k a n = some (dbl n.toNat (hd a)) := by
  unfold tick_Shl.f
  rw [held_eq]
  simp only [Option.bind_some]
  exact shl_l0 _ k _ n (hd_bd a).1 (hd_bd a).2 h rfl hk
theorem sub_eq (a b : Int) : tick_Sub.f a b = some (ad a (-(hd b))) := by
  have hb := hd_bd b
  unfold tick_Sub.f
  rw [held_eq]
  simp only [Option.bind_some]
  rw [wrap_in _ (by omega) (by omega), add_eq]
  rfl
theorem awake_ev : ∃ K, ∀ k, K ≤ k → decorumlaw01_awake.f k = some true := Ev.of decorumlaw01_awake.mono (k := 20) (by decide +kernel)
theorem ad_comm (a b : Int) : ad a b = ad b a := by unfold ad; rw [Int.add_comm]
theorem ml_comm (a b : Int) : ml a b = ml b a := by unfold ml; rw [Int.mul_comm]
theorem fin (k : Nat) (a b : Int) (l : List Int) (i : Int) (hi : ¬ i < (l.length : Int)) (hk : 0 < k) (h : decorumlaw01_awake.f k = some true) : decorumlaw01_TickEnds.l0 (k + 1) a b l i = some true := by
  simp only [decorumlaw01_TickEnds.l0]
  rw [if_neg hi, h, add_eq a b, add_eq b a, ad_comm b a, mul_eq k a b hk, mul_eq k b a hk, ml_comm b a, sub_eq, mul_eq k a 1 hk, add_eq a 0]
  simp only [Option.bind_some, if_true]
  have ha := hd_bd a
  have e1 : ad a (-(hd a)) = 0 := by unfold ad; rw [hd_id (-(hd a)) (by omega) (by omega), Int.add_right_neg]; rfl
  have e2 : ml a 1 = ad a 0 := by
    unfold ml ad
    rw [show hd 1 = 1 from rfl, show hd 0 = 0 from rfl, Int.mul_one, Int.add_zero]
  rw [if_pos e1, e2]
  simp
theorem lstep (k : Nat) (a b x : Int) (l : List Int) (i : Int) (hi : i < (l.length : Int)) (h0 : 0 ≤ i) (h1 : i ≤ 100) (hx : rd l i = x) (hb : -4611686018427387903 ≤ x ∧ x ≤ 4611686018427387903) (h : decorumlaw01_TickEnds.l0 k a b l (i + 1) = some true) : decorumlaw01_TickEnds.l0 (k + 1) a b l i = some true := by
  simp only [decorumlaw01_TickEnds.l0]
  rw [if_pos hi, if_pos h0, hx, if_neg (by omega), if_neg (by omega), wrap_in _ (by omega) (by omega)]
  exact h
end TickEnds
open TickEnds in
theorem TickEnds : decorumlaw01_TickEnds.Pure := by
  intro a b n _ _ wn
  obtain ⟨K, h⟩ := awake_ev
  refine ⟨K + 200, ?_⟩
  unfold decorumlaw01_TickEnds.f
  have hn := bd_i64 wn
  have ht : Int.tmod n 100 < 100 := Int.tmod_lt_of_pos n (by omega)
  rw [add_eq, sub_eq, mul_eq _ _ _ (by omega), shl_eq _ a (Int.tmod n 100) (by omega) (by omega)]
  simp only [Option.bind_some]
  refine lstep (K + 199) a b _ _ 0 (by simp) (by omega) (by omega) rfl (ad_bd _ _) ?_
  refine lstep (K + 198) a b _ _ 1 (by simp) (by omega) (by omega) rfl (ad_bd _ _) ?_
  refine lstep (K + 197) a b _ _ 2 (by simp) (by omega) (by omega) rfl (hd_bd _) ?_
  refine lstep (K + 196) a b _ _ 3 (by simp) (by omega) (by omega) rfl (dbl_bd _ _ (hd_bd a).1 (hd_bd a).2) ?_
  exact fin (K + 195) a b _ _ (by simp) (by omega) (h _ (by omega))

end Go.Proofs.Ytobepponcolciaa.Pure
