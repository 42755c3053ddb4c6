/- TickFills: for any four ints a bucket's level behind a fill and a take is the document's; no condition. -/
import Derived.Test.YtobepponcolciaaQTickFillsx3
namespace Go.Proofs.Ytobepponcolciaa.Pure
open Go.RowKit Go.Proofs.Ytobepponcolciaa.QTickFills Go.Proofs.YtobepponcolciaaW.PrintWords Go.Proofs.YtobepponcolciaaW.PrintLast Go.Proofs.YtobepponcolciaaW.PrintMore
set_option linter.unusedVariables false
namespace TickFills
theorem bd_u8 {n : Int} (h : (Lit.int .u8 n).wf = true) : 0 ≤ n ∧ n ≤ 255 := by
  simp [Lit.wf, IntKind.min, IntKind.max, IntKind.signed, IntKind.bits] at h
  omega
theorem bd_u16 {n : Int} (h : (Lit.int .u16 n).wf = true) : 0 ≤ n ∧ n ≤ 65535 := by
  simp [Lit.wf, IntKind.min, IntKind.max, IntKind.signed, IntKind.bits] at h
  omega
theorem bd_u32 {n : Int} (h : (Lit.int .u32 n).wf = true) : 0 ≤ n ∧ n ≤ 4294967295 := by
  simp [Lit.wf, IntKind.min, IntKind.max, IntKind.signed, IntKind.bits] at h
  omega
theorem bd_i64 {n : Int} (h : (Lit.int .i64 n).wf = true) : -9223372036854775808 ≤ n ∧ n ≤ 9223372036854775807 := by
  simp [Lit.wf, IntKind.min, IntKind.max, IntKind.signed, IntKind.bits] at h
  omega
def hd (a : Int) : Int := mx (-4611686018427387903) (mn a 4611686018427387903)
def ad (a b : Int) : Int := hd (hd a + hd b)
theorem wrap_in (n : Int) (h : -9223372036854775808 ≤ n) (h' : n ≤ 9223372036854775807) : wrap64 n = n := by
  unfold wrap64; omega
theorem hd_bd (a : Int) : -4611686018427387903 ≤ hd a ∧ hd a ≤ 4611686018427387903 := by
  unfold hd mx mn; omega
theorem hd_id (a : Int) (h : -4611686018427387903 ≤ a) (h' : a ≤ 4611686018427387903) : hd a = a := by
  unfold hd mx mn; omega
theorem ad_bd (a b : Int) : -4611686018427387903 ≤ ad a b ∧ ad a b ≤ 4611686018427387903 := hd_bd _
theorem held_eq (a : Int) : tick_held.f a = some (hd a) := rfl
theorem add_eq (a b : Int) : tick_Add.f a b = some (ad a b) := by
  have ha := hd_bd a
  have hb := hd_bd b
  unfold tick_Add.f
  simp only [held_eq, Option.bind_some]
  rw [wrap_in _ (by omega) (by omega)]
  rfl
theorem rheld_eq (a : Int) : decorumref01_Held.f a = some (hd a) := by
  unfold decorumref01_Held.f hd mx mn
  split
  · exact congrArg some (by omega)
  · split
    · exact congrArg some (by omega)
    · exact congrArg some (by omega)
theorem radd_eq (k : Nat) (a b : Int) (hk : 0 < k) : decorumref01_Add.f k a b = some (ad a b) := by
  obtain ⟨k, rfl⟩ : ∃ m, k = m + 1 := ⟨k - 1, by omega⟩
  have ha := hd_bd a
  have hb := hd_bd b
  unfold decorumref01_Add.f
  simp only [rheld_eq, Option.bind_some, decorumref01_Add.j0]
  unfold ad
  generalize hd a = x at *
  generalize hd b = y at *
  rw [wrap_in (x + y) (by omega) (by omega)]
  by_cases h : y > 0
  · rw [if_pos h, wrap_in _ (by omega) (by omega)]
    by_cases h2 : x > 4611686018427387903 - y
    · rw [if_pos (by simpa using h2)]; congr 1; unfold hd mx mn; omega
    · rw [if_neg (by simpa using h2), if_neg (by omega)]; congr 1; unfold hd mx mn; omega
  · rw [if_neg h, if_neg (by simp)]
    by_cases h2 : y < 0
    · rw [if_pos h2, wrap_in _ (by omega) (by omega)]
      by_cases h3 : x < -4611686018427387903 - y
      · rw [if_pos h3]; congr 1; unfold hd mx mn; omega
      · rw [if_neg h3]; congr 1; unfold hd mx mn; omega
    · rw [if_neg h2]; congr 1; unfold hd mx mn; omega
theorem u64w (n : Int) : IntKind.u64.wrap n = n % 18446744073709551616 := by simp [IntKind.wrap, IntKind.bits, IntKind.signed]
theorem u64in (n : Int) (h : 0 ≤ n) (h' : n ≤ 18446744073709551615) : IntKind.u64.wrap n = n := by rw [u64w]; omega
theorem low32 (x : Int) (h : 0 ≤ x) (h' : x ≤ 18446744073709551615) : Go.bits .and .u64 x 4294967295 = x % 4294967296 := by
  have := bits_mask .u64 64 (by decide) (fun n a b => u64in n a (by omega)) 32 (by decide) x h (by omega)
  simpa using this
theorem mul_bd {a b A B : Int} (ha : 0 ≤ a) (hA : a ≤ A) (hb : 0 ≤ b) (hB : b ≤ B) : 0 ≤ a * b ∧ a * b ≤ A * B :=
  ⟨Int.mul_nonneg ha hb, Int.mul_le_mul hA hB hb (by omega)⟩
theorem mul64_eq (x y : Int) (hx : 0 ≤ x) (hx' : x ≤ 18446744073709551615) (hy : 0 ≤ y) (hy' : y ≤ 18446744073709551615) :
    bits_Mul64.f x y = some (x * y / 18446744073709551616, x * y % 18446744073709551616) := by
  unfold bits_Mul64.f
  rw [low32 x hx hx', low32 y hy hy']
  have ex : x = x / 4294967296 * 4294967296 + x % 4294967296 := by omega
  have ey : y = y / 4294967296 * 4294967296 + y % 4294967296 := by omega
  have e : x * y = x / 4294967296 * (y / 4294967296) * 18446744073709551616 + (x / 4294967296 * (y % 4294967296) + x % 4294967296 * (y / 4294967296)) * 4294967296 + x % 4294967296 * (y % 4294967296) := by
    conv => lhs; rw [ex, ey]
    rw [Int.add_mul, Int.mul_add, Int.mul_add, Int.add_mul]
    have f1 : x / 4294967296 * 4294967296 * (y / 4294967296 * 4294967296) = x / 4294967296 * (y / 4294967296) * 18446744073709551616 := by
      rw [show (18446744073709551616 : Int) = 4294967296 * 4294967296 from rfl]; ac_rfl
    have f2 : x / 4294967296 * 4294967296 * (y % 4294967296) = x / 4294967296 * (y % 4294967296) * 4294967296 := by
      rw [Int.mul_right_comm]
    have f3 : x % 4294967296 * (y / 4294967296 * 4294967296) = x % 4294967296 * (y / 4294967296) * 4294967296 := by
      rw [← Int.mul_assoc]
    rw [f1, f2, f3]; omega
  have b11 := mul_bd (a := x / 4294967296) (A := 4294967295) (b := y / 4294967296) (B := 4294967295) (by omega) (by omega) (by omega) (by omega)
  have b10 := mul_bd (a := x / 4294967296) (A := 4294967295) (b := y % 4294967296) (B := 4294967295) (by omega) (by omega) (by omega) (by omega)
  have b01 := mul_bd (a := x % 4294967296) (A := 4294967295) (b := y / 4294967296) (B := 4294967295) (by omega) (by omega) (by omega) (by omega)
  have b00 := mul_bd (a := x % 4294967296) (A := 4294967295) (b := y % 4294967296) (B := 4294967295) (by omega) (by omega) (by omega) (by omega)
  rw [e]
  clear e ex ey
  generalize x / 4294967296 * (y / 4294967296) = p11 at *
  generalize x / 4294967296 * (y % 4294967296) = p10 at *
  generalize x % 4294967296 * (y / 4294967296) = p01 at *
  generalize x % 4294967296 * (y % 4294967296) = p00 at *
  rw [u64in p00 (by omega) (by omega), u64in p10 (by omega) (by omega), u64in p01 (by omega) (by omega), u64in p11 (by omega) (by omega)]
  rw [u64in (p10 + p00 / 4294967296) (by omega) (by omega)]
  rw [low32 (p10 + p00 / 4294967296) (by omega) (by omega)]
  rw [u64in ((p10 + p00 / 4294967296) % 4294967296 + p01) (by omega) (by omega), u64in (p11 + (p10 + p00 / 4294967296) / 4294967296) (by omega) (by omega), u64in (p11 + (p10 + p00 / 4294967296) / 4294967296 + ((p10 + p00 / 4294967296) % 4294967296 + p01) / 4294967296) (by omega) (by omega), u64w]
  exact congrArg some (Prod.ext (by dsimp only; omega) (by dsimp only))
/-- the product, held. -/
def ml (a b : Int) : Int := hd (hd a * hd b)
def ab (x : Int) : Int := if x < 0 then -x else x
theorem ab_mul (x y : Int) : x * y = if decide (x < 0) != decide (y < 0) then -(ab x * ab y) else ab x * ab y := by
  unfold ab
  by_cases hx : x < 0 <;> by_cases hy : y < 0 <;> simp [hx, hy, Int.neg_mul, Int.mul_neg]
theorem ab_bd (a : Int) : 0 ≤ ab (hd a) ∧ ab (hd a) ≤ 4611686018427387903 := by
  have := hd_bd a
  unfold ab; split <;> omega
theorem mx_ab (x : Int) (h : -4611686018427387903 ≤ x ∧ x ≤ 4611686018427387903) : mx x (wrap64 (-x)) = ab x := by
  rw [wrap_in (-x) (by omega) (by omega)]
  unfold mx ab; split <;> split <;> omega
theorem mul_eq (k : Nat) (a b : Int) (hk : 0 < k) : tick_Mul.f k a b = some (ml a b) := by
  obtain ⟨k, rfl⟩ : ∃ m, k = m + 1 := ⟨k - 1, by omega⟩
  have ha := hd_bd a
  have hb := hd_bd b
  have ba := ab_bd a
  have bb := ab_bd b
  unfold tick_Mul.f ml
  simp only [held_eq, Option.bind_some]
  rw [mx_ab _ ha, mx_ab _ hb, u64in _ ba.1 (by omega), u64in _ bb.1 (by omega), mul64_eq _ _ ba.1 (by omega) bb.1 (by omega), ab_mul (hd a) (hd b)]
  have hp := mul_bd ba.1 ba.2 bb.1 bb.2
  generalize ab (hd a) * ab (hd b) = p at *
  simp only [Option.bind_some, tick_Mul.j0]
  generalize (decide (hd a < 0) != decide (hd b < 0)) = s
  by_cases h0 : p < 18446744073709551616
  · rw [if_pos (by omega)]
    by_cases h1 : p < 4611686018427387903
    · rw [if_pos (by simp; omega), show p % 18446744073709551616 = p by omega, wrap_in p (by omega) (by omega), wrap_in (-p) (by omega) (by omega)]
      cases s
      · rw [if_neg (by decide), if_neg (by decide), hd_id p (by omega) (by omega)]
      · rw [if_pos rfl, if_pos rfl, hd_id (-p) (by omega) (by omega)]
    · rw [if_neg (by simp; omega), wrap_in _ (by omega) (by omega)]
      cases s
      · rw [if_neg (by decide), if_neg (by decide)]; exact congrArg some (by unfold hd mx mn; omega)
      · rw [if_pos rfl, if_pos rfl]; exact congrArg some (by unfold hd mx mn; omega)
  · rw [if_neg (by omega), if_neg (by decide), wrap_in _ (by omega) (by omega)]
    cases s
    · rw [if_neg (by decide), if_neg (by decide)]; exact congrArg some (by unfold hd mx mn; omega)
    · rw [if_pos rfl, if_pos rfl]; exact congrArg some (by unfold hd mx mn; omega)
theorem rmul_eq (k : Nat) (a b : Int) (hk : 3 ≤ k) : decorumref01_Mul.f k a b = some (ml a b) := by
  obtain ⟨k, rfl⟩ : ∃ m, k = m + 3 := ⟨k - 3, by omega⟩
  have ha := hd_bd a
  have hb := hd_bd b
  have ba := ab_bd a
  have bb := ab_bd b
  unfold decorumref01_Mul.f ml
  simp only [rheld_eq, Option.bind_some]
  by_cases h0 : hd a = 0
  · rw [if_pos h0, h0]; simp only [decorumref01_Mul.j0, if_true]; rw [Int.zero_mul]; rfl
  rw [if_neg h0]
  by_cases h1 : hd b = 0
  · rw [h1]; simp only [decorumref01_Mul.j0]; rw [if_pos (by decide), Int.mul_zero]; rfl
  have e1 : (hd b == 0) = false := beq_eq_false_iff_ne.2 h1
  rw [e1, ab_mul (hd a) (hd b)]
  have hp := mul_bd ba.1 ba.2 bb.1 bb.2
  have hb1 : 1 ≤ ab (hd b) := by unfold ab; split <;> omega
  have key : ∀ m, decorumref01_Mul.j2 (m + 1) (hd a) (hd b) (ab (hd a)) (ab (hd b)) = some (hd (if (decide (hd a < 0) != decide (hd b < 0)) = true then -(ab (hd a) * ab (hd b)) else ab (hd a) * ab (hd b))) := by
    intro m
    simp only [decorumref01_Mul.j2]
    have hq : 0 ≤ 4611686018427387903 / ab (hd b) ∧ 4611686018427387903 / ab (hd b) ≤ 4611686018427387903 :=
      ⟨Int.ediv_nonneg (by omega) bb.1, Int.ediv_le_self _ (by omega)⟩
    rw [if_neg (by omega), Int.tdiv_eq_ediv_of_nonneg (by omega), wrap_in (4611686018427387903 / ab (hd b)) (by omega) (by omega)]
    have hc : (ab (hd a) ≤ 4611686018427387903 / ab (hd b)) ↔ (ab (hd a) * ab (hd b) ≤ 4611686018427387903) := Int.le_ediv_iff_mul_le (by omega)
    generalize 4611686018427387903 / ab (hd b) = q at *
    generalize ab (hd a) * ab (hd b) = p at *
    generalize (decide (hd a < 0) != decide (hd b < 0)) = s
    by_cases h : p ≤ 4611686018427387903
    · rw [if_pos (hc.2 h), wrap_in p (by omega) (by omega), wrap_in (-p) (by omega) (by omega)]
      cases s
      · rw [if_neg (by decide), if_neg (by decide), hd_id p (by omega) (by omega)]
      · rw [if_pos rfl, if_pos rfl, hd_id (-p) (by omega) (by omega)]
    · rw [if_neg (fun g => h (hc.1 g))]
      cases s
      · rw [if_neg (by decide), if_neg (by decide)]; exact congrArg some (by unfold hd mx mn; omega)
      · rw [if_pos rfl, if_pos rfl]; exact congrArg some (by unfold hd mx mn; omega)
  simp only [decorumref01_Mul.j0]
  rw [if_neg (by decide)]
  have j1 : ∀ m x, x = ab (hd a) → decorumref01_Mul.j1 (m + 2) (hd a) (hd b) x (hd b) = some (hd (if (decide (hd a < 0) != decide (hd b < 0)) = true then -(ab (hd a) * ab (hd b)) else ab (hd a) * ab (hd b))) := by
    intro m x hx
    subst hx
    simp only [decorumref01_Mul.j1]
    by_cases h : hd b < 0
    · rw [if_pos h, wrap_in _ (by omega) (by omega), show -hd b = ab (hd b) by unfold ab; rw [if_pos h]]; exact key m
    · rw [if_neg h]
      have e : decorumref01_Mul.j2 (m + 1) (hd a) (hd b) (ab (hd a)) (hd b) = decorumref01_Mul.j2 (m + 1) (hd a) (hd b) (ab (hd a)) (ab (hd b)) := by
        congr 1; unfold ab; rw [if_neg h]
      rw [e]; exact key m
  by_cases h : hd a < 0
  · rw [if_pos h, wrap_in _ (by omega) (by omega)]; exact j1 k _ (by unfold ab; rw [if_pos h])
  · rw [if_neg h]; exact j1 k _ (by unfold ab; rw [if_neg h])
def fl (l r b m : Int) : Int := mn (ml (mx b 0) 1000) (ad (mx l 0) (ml (mx r 0) (mx m 0)))
theorem fill_eq (k : Nat) (l r b m : Int) (hk : 0 < k) : tick_Fill.f k l r b m = some (fl l r b m) := by
  unfold tick_Fill.f fl
  rw [mul_eq k _ _ hk, mul_eq k _ _ hk]
  simp only [Option.bind_some]
  rw [add_eq]
  rfl
theorem awake_ev : ∃ K, ∀ k, K ≤ k → decorumlaw01_awake.f k = some true := Ev.of decorumlaw01_awake.mono (k := 20) (by decide +kernel)
theorem j3_eq (k : Nat) (l r b m : Int) (hl : -9223372036854775808 ≤ l ∧ l ≤ 9223372036854775807) (hk : 3 ≤ k) (h : decorumlaw01_awake.f k = some true) : decorumlaw01_TickFills.j3 (k + 1) l r b m (mx l 0) (mx r 0) (mx b 0) (mx m 0) = some true := by
  simp only [decorumlaw01_TickFills.j3]
  rw [rmul_eq k _ _ hk]
  simp only [Option.bind_some]
  rw [radd_eq k _ _ (by omega), rmul_eq k _ _ hk, h, fill_eq k _ _ _ _ (by omega)]
  simp only [Option.bind_some, if_true]
  unfold fl tick_Take.f
  generalize ml (mx b 0) 1000 = p
  generalize ad (mx l 0) (ml (mx r 0) (mx m 0)) = q
  have e1 : ∀ (c : l ≥ 1000), decide (l ≥ 1000) = true := fun c => decide_eq_true c
  have e2 : ∀ (c : l < 1000), decide (l ≥ 1000) = false := fun c => decide_eq_false (by omega)
  by_cases c : q > p
  · rw [if_pos c]
    by_cases g : l < 1000
    · rw [if_pos g, e2 g]; simp only [Option.bind_some]; rw [if_pos (by unfold mn; omega)]; simp
    · rw [if_neg g, e1 (by omega)]; simp only [Option.bind_some]; rw [if_pos (by unfold mn; omega)]; simp
  · rw [if_neg c]
    by_cases g : l < 1000
    · rw [if_pos g, e2 g]; simp only [Option.bind_some]; rw [if_pos (by unfold mn; omega)]; simp
    · rw [if_neg g, e1 (by omega)]; simp only [Option.bind_some]; rw [if_pos (by unfold mn; omega)]; simp
end TickFills
open TickFills in
theorem TickFills : decorumlaw01_TickFills.Pure := by
  intro l r b m wl _ _ _
  obtain ⟨K, h⟩ := awake_ev
  refine ⟨K + 7, ?_⟩
  unfold decorumlaw01_TickFills.f
  have j3 := j3_eq (K + 3) l r b m (bd_i64 wl) (by omega) (h _ (by omega))
  have e : ∀ x : Int, (if x < 0 then (0 : Int) else x) = mx x 0 := by intro x; unfold mx; split <;> omega
  have j2 : decorumlaw01_TickFills.j2 (K + 5) l r b m (mx l 0) (mx r 0) (mx b 0) m = some true := by
    simp only [decorumlaw01_TickFills.j2]
    rw [← e m] at j3
    by_cases c : m < 0
    · rw [if_pos c]; rw [if_pos c] at j3; exact j3
    · rw [if_neg c]; rw [if_neg c] at j3; exact j3
  have j1 : decorumlaw01_TickFills.j1 (K + 6) l r b m (mx l 0) (mx r 0) b m = some true := by
    simp only [decorumlaw01_TickFills.j1]
    rw [← e b] at j2
    by_cases c : b < 0
    · rw [if_pos c]; rw [if_pos c] at j2; exact j2
    · rw [if_neg c]; rw [if_neg c] at j2; exact j2
  have j0 : decorumlaw01_TickFills.j0 (K + 7) l r b m (mx l 0) r b m = some true := by
    simp only [decorumlaw01_TickFills.j0]
    rw [← e r] at j1
    by_cases c : r < 0
    · rw [if_pos c]; rw [if_pos c] at j1; exact j1
    · rw [if_neg c]; rw [if_neg c] at j1; exact j1
  rw [← e l] at j0
  by_cases c : l < 0
  · rw [if_pos c]; rw [if_pos c] at j0; exact j0
  · rw [if_neg c]; rw [if_neg c] at j0; exact j0

end Go.Proofs.Ytobepponcolciaa.Pure
