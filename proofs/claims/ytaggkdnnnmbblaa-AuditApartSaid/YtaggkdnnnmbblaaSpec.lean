/- The audit's functions in plain words: what they answer of a list of events. -/
import Derived.Test.YtaggkdnnnmbblaaQBasex
namespace Go.Proofs.Ytaggkdnnnmbblaa.Given
open Go.RowKit Go.Proofs.Ytaggkdnnnmbblaa.QBase Go.Proofs.YtaggkdnnnmbblaaW.PrintWords Go.Proofs.YtaggkdnnnmbblaaW.PrintLast
set_option linter.unusedVariables false
set_option linter.unusedSimpArgs false

def hd (a : Int) : Int := mx (-4611686018427387903) (mn a 4611686018427387903)
def ad (a b : Int) : Int := hd (hd a + hd b)
theorem wrap_in (n : Int) (h : -9223372036854775808 ≤ n) (h' : n ≤ 9223372036854775807) : wrap64 n = n := by
  unfold wrap64; omega
theorem hd_bd (a : Int) : -4611686018427387903 ≤ hd a ∧ hd a ≤ 4611686018427387903 := by
  unfold hd mx mn; omega
theorem hd_id (a : Int) (h : -4611686018427387903 ≤ a) (h' : a ≤ 4611686018427387903) : hd a = a := by
  unfold hd mx mn; omega
theorem ad_bd (a b : Int) : -4611686018427387903 ≤ ad a b ∧ ad a b ≤ 4611686018427387903 := hd_bd _
theorem held_eq (a : Int) : tick_held.f a = some (hd a) := rfl
theorem add_eq (a b : Int) : tick_Add.f a b = some (ad a b) := by
  have ha := hd_bd a
  have hb := hd_bd b
  unfold tick_Add.f
  simp only [held_eq, Option.bind_some]
  rw [wrap_in _ (by omega) (by omega)]
  rfl
theorem sub_eq (a b : Int) : tick_Sub.f a b = some (ad a (-(hd b))) := by
  have hb := hd_bd b
  unfold tick_Sub.f
  rw [held_eq]
  simp only [Option.bind_some]
  rw [wrap_in _ (by omega) (by omega), add_eq]
  rfl
theorem u64w (n : Int) : IntKind.u64.wrap n = n % 18446744073709551616 := by simp [IntKind.wrap, IntKind.bits, IntKind.signed]
theorem u64in (n : Int) (h : 0 ≤ n) (h' : n ≤ 18446744073709551615) : IntKind.u64.wrap n = n := by rw [u64w]; omega
theorem low32 (x : Int) (h : 0 ≤ x) (h' : x ≤ 18446744073709551615) : Go.bits .and .u64 x 4294967295 = x % 4294967296 := by
  have := bits_mask .u64 64 (by decide) (fun n a b => u64in n a (by omega)) 32 (by decide) x h (by omega)
  simpa using this
theorem mul_bd {a b A B : Int} (ha : 0 ≤ a) (hA : a ≤ A) (hb : 0 ≤ b) (hB : b ≤ B) : 0 ≤ a * b ∧ a * b ≤ A * B :=
  ⟨Int.mul_nonneg ha hb, Int.mul_le_mul hA hB hb (by omega)⟩
theorem mul64_eq (x y : Int) (hx : 0 ≤ x) (hx' : x ≤ 18446744073709551615) (hy : 0 ≤ y) (hy' : y ≤ 18446744073709551615) :
    bits_Mul64.f x y = some (x * y / 18446744073709551616, x * y % 18446744073709551616) := by
  unfold bits_Mul64.f
  rw [low32 x hx hx', low32 y hy hy']
  have ex : x = x / 4294967296 * 4294967296 + x % 4294967296 := by omega
  have ey : y = y / 4294967296 * 4294967296 + y % 4294967296 := by omega
  have e : x * y = x / 4294967296 * (y / 4294967296) * 18446744073709551616 + (x / 4294967296 * (y % 4294967296) + x % 4294967296 * (y / 4294967296)) * 4294967296 + x % 4294967296 * (y % 4294967296) := by
    conv => lhs; rw [ex, ey]
    rw [Int.add_mul, Int.mul_add, Int.mul_add, Int.add_mul]
    have f1 : x / 4294967296 * 4294967296 * (y / 4294967296 * 4294967296) = x / 4294967296 * (y / 4294967296) * 18446744073709551616 := by
      rw [show (18446744073709551616 : Int) = 4294967296 * 4294967296 from rfl]; ac_rfl
    have f2 : x / 4294967296 * 4294967296 * (y % 4294967296) = x / 4294967296 * (y % 4294967296) * 4294967296 := by
      rw [Int.mul_right_comm]
    have f3 : x % 4294967296 * (y / 4294967296 * 4294967296) = x % 4294967296 * (y / 4294967296) * 4294967296 := by
      rw [← Int.mul_assoc]
    rw [f1, f2, f3]; omega
  have b11 := mul_bd (a := x / 4294967296) (A := 4294967295) (b := y / 4294967296) (B := 4294967295) (by omega) (by omega) (by omega) (by omega)
  have b10 := mul_bd (a := x / 4294967296) (A := 4294967295) (b := y % 4294967296) (B := 4294967295) (by omega) (by omega) (by omega) (by omega)
  have b01 := mul_bd (a := x % 4294967296) (A := 4294967295) (b := y / 4294967296) (B := 4294967295) (by omega) (by omega) (by omega) (by omega)
  have b00 := mul_bd (a := x % 4294967296) (A := 4294967295) (b := y % 4294967296) (B := 4294967295) (by omega) (by omega) (by omega) (by omega)
  rw [e]
  clear e ex ey
  generalize x / 4294967296 * (y / 4294967296) = p11 at *
  generalize x / 4294967296 * (y % 4294967296) = p10 at *
  generalize x % 4294967296 * (y / 4294967296) = p01 at *
  generalize x % 4294967296 * (y % 4294967296) = p00 at *
  rw [u64in p00 (by omega) (by omega), u64in p10 (by omega) (by omega), u64in p01 (by omega) (by omega), u64in p11 (by omega) (by omega)]
  rw [u64in (p10 + p00 / 4294967296) (by omega) (by omega)]
  rw [low32 (p10 + p00 / 4294967296) (by omega) (by omega)]
  rw [u64in ((p10 + p00 / 4294967296) % 4294967296 + p01) (by omega) (by omega), u64in (p11 + (p10 + p00 / 4294967296) / 4294967296) (by omega) (by omega), u64in (p11 + (p10 + p00 / 4294967296) / 4294967296 + ((p10 + p00 / 4294967296) % 4294967296 + p01) / 4294967296) (by omega) (by omega), u64w]
  exact congrArg some (Prod.ext (by dsimp only; omega) (by dsimp only))
/-- the product, held. -/
def ml (a b : Int) : Int := hd (hd a * hd b)
def ab (x : Int) : Int := if x < 0 then -x else x
theorem ab_mul (x y : Int) : x * y = if decide (x < 0) != decide (y < 0) then -(ab x * ab y) else ab x * ab y := by
  unfold ab
  by_cases hx : x < 0 <;> by_cases hy : y < 0 <;> simp [hx, hy, Int.neg_mul, Int.mul_neg]
theorem ab_bd (a : Int) : 0 ≤ ab (hd a) ∧ ab (hd a) ≤ 4611686018427387903 := by
  have := hd_bd a
  unfold ab; split <;> omega
theorem mx_ab (x : Int) (h : -4611686018427387903 ≤ x ∧ x ≤ 4611686018427387903) : mx x (wrap64 (-x)) = ab x := by
  rw [wrap_in (-x) (by omega) (by omega)]
  unfold mx ab; split <;> split <;> omega
theorem mul_eq (k : Nat) (a b : Int) (hk : 0 < k) : tick_Mul.f k a b = some (ml a b) := by
  obtain ⟨k, rfl⟩ : ∃ m, k = m + 1 := ⟨k - 1, by omega⟩
  have ha := hd_bd a
  have hb := hd_bd b
  have ba := ab_bd a
  have bb := ab_bd b
  unfold tick_Mul.f ml
  simp only [held_eq, Option.bind_some]
  rw [mx_ab _ ha, mx_ab _ hb, u64in _ ba.1 (by omega), u64in _ bb.1 (by omega), mul64_eq _ _ ba.1 (by omega) bb.1 (by omega), ab_mul (hd a) (hd b)]
  have hp := mul_bd ba.1 ba.2 bb.1 bb.2
  generalize ab (hd a) * ab (hd b) = p at *
  simp only [Option.bind_some, tick_Mul.j0]
  generalize (decide (hd a < 0) != decide (hd b < 0)) = s
  by_cases h0 : p < 18446744073709551616
  · rw [if_pos (by omega)]
    by_cases h1 : p < 4611686018427387903
    · rw [if_pos (by simp; omega), show p % 18446744073709551616 = p by omega, wrap_in p (by omega) (by omega), wrap_in (-p) (by omega) (by omega)]
      cases s
      · rw [if_neg (by decide), if_neg (by decide), hd_id p (by omega) (by omega)]
      · rw [if_pos rfl, if_pos rfl, hd_id (-p) (by omega) (by omega)]
    · rw [if_neg (by simp; omega), wrap_in _ (by omega) (by omega)]
      cases s
      · rw [if_neg (by decide), if_neg (by decide)]; exact congrArg some (by unfold hd mx mn; omega)
      · rw [if_pos rfl, if_pos rfl]; exact congrArg some (by unfold hd mx mn; omega)
  · rw [if_neg (by omega), if_neg (by decide), wrap_in _ (by omega) (by omega)]
    cases s
    · rw [if_neg (by decide), if_neg (by decide)]; exact congrArg some (by unfold hd mx mn; omega)
    · rw [if_pos rfl, if_pos rfl]; exact congrArg some (by unfold hd mx mn; omega)
theorem rheld_eq (a : Int) : decorumref01_Held.f a = some (hd a) := by
  unfold decorumref01_Held.f hd mx mn
  split
  · exact congrArg some (by omega)
  · split
    · exact congrArg some (by omega)
    · exact congrArg some (by omega)
theorem radd_eq (k : Nat) (a b : Int) (hk : 0 < k) : decorumref01_Add.f k a b = some (ad a b) := by
  obtain ⟨k, rfl⟩ : ∃ m, k = m + 1 := ⟨k - 1, by omega⟩
  have ha := hd_bd a
  have hb := hd_bd b
  unfold decorumref01_Add.f
  simp only [rheld_eq, Option.bind_some, decorumref01_Add.j0]
  unfold ad
  generalize hd a = x at *
  generalize hd b = y at *
  rw [wrap_in (x + y) (by omega) (by omega)]
  by_cases h : y > 0
  · rw [if_pos h, wrap_in _ (by omega) (by omega)]
    by_cases h2 : x > 4611686018427387903 - y
    · rw [if_pos (by simpa using h2)]; congr 1; unfold hd mx mn; omega
    · rw [if_neg (by simpa using h2), if_neg (by omega)]; congr 1; unfold hd mx mn; omega
  · rw [if_neg h, if_neg (by simp)]
    by_cases h2 : y < 0
    · rw [if_pos h2, wrap_in _ (by omega) (by omega)]
      by_cases h3 : x < -4611686018427387903 - y
      · rw [if_pos h3]; congr 1; unfold hd mx mn; omega
      · rw [if_neg h3]; congr 1; unfold hd mx mn; omega
    · rw [if_neg h2]; congr 1; unfold hd mx mn; omega
theorem rmul_eq (k : Nat) (a b : Int) (hk : 3 ≤ k) : decorumref01_Mul.f k a b = some (ml a b) := by
  obtain ⟨k, rfl⟩ : ∃ m, k = m + 3 := ⟨k - 3, by omega⟩
  have ha := hd_bd a
  have hb := hd_bd b
  have ba := ab_bd a
  have bb := ab_bd b
  unfold decorumref01_Mul.f ml
  simp only [rheld_eq, Option.bind_some]
  by_cases h0 : hd a = 0
  · rw [if_pos h0, h0]; simp only [decorumref01_Mul.j0, if_true]; rw [Int.zero_mul]; rfl
  rw [if_neg h0]
  by_cases h1 : hd b = 0
  · rw [h1]; simp only [decorumref01_Mul.j0]; rw [if_pos (by decide), Int.mul_zero]; rfl
  have e1 : (hd b == 0) = false := beq_eq_false_iff_ne.2 h1
  rw [e1, ab_mul (hd a) (hd b)]
  have hp := mul_bd ba.1 ba.2 bb.1 bb.2
  have hb1 : 1 ≤ ab (hd b) := by unfold ab; split <;> omega
  have key : ∀ m, decorumref01_Mul.j2 (m + 1) (hd a) (hd b) (ab (hd a)) (ab (hd b)) = some (hd (if (decide (hd a < 0) != decide (hd b < 0)) = true then -(ab (hd a) * ab (hd b)) else ab (hd a) * ab (hd b))) := by
    intro m
    simp only [decorumref01_Mul.j2]
    have hq : 0 ≤ 4611686018427387903 / ab (hd b) ∧ 4611686018427387903 / ab (hd b) ≤ 4611686018427387903 :=
      ⟨Int.ediv_nonneg (by omega) bb.1, Int.ediv_le_self _ (by omega)⟩
    rw [if_neg (by omega), Int.tdiv_eq_ediv_of_nonneg (by omega), wrap_in (4611686018427387903 / ab (hd b)) (by omega) (by omega)]
    have hc : (ab (hd a) ≤ 4611686018427387903 / ab (hd b)) ↔ (ab (hd a) * ab (hd b) ≤ 4611686018427387903) := Int.le_ediv_iff_mul_le (by omega)
    generalize 4611686018427387903 / ab (hd b) = q at *
    generalize ab (hd a) * ab (hd b) = p at *
    generalize (decide (hd a < 0) != decide (hd b < 0)) = s
    by_cases h : p ≤ 4611686018427387903
    · rw [if_pos (hc.2 h), wrap_in p (by omega) (by omega), wrap_in (-p) (by omega) (by omega)]
      cases s
      · rw [if_neg (by decide), if_neg (by decide), hd_id p (by omega) (by omega)]
      · rw [if_pos rfl, if_pos rfl, hd_id (-p) (by omega) (by omega)]
    · rw [if_neg (fun g => h (hc.1 g))]
      cases s
      · rw [if_neg (by decide), if_neg (by decide)]; exact congrArg some (by unfold hd mx mn; omega)
      · rw [if_pos rfl, if_pos rfl]; exact congrArg some (by unfold hd mx mn; omega)
  simp only [decorumref01_Mul.j0]
  rw [if_neg (by decide)]
  have j1 : ∀ m x, x = ab (hd a) → decorumref01_Mul.j1 (m + 2) (hd a) (hd b) x (hd b) = some (hd (if (decide (hd a < 0) != decide (hd b < 0)) = true then -(ab (hd a) * ab (hd b)) else ab (hd a) * ab (hd b))) := by
    intro m x hx
    subst hx
    simp only [decorumref01_Mul.j1]
    by_cases h : hd b < 0
    · rw [if_pos h, wrap_in _ (by omega) (by omega), show -hd b = ab (hd b) by unfold ab; rw [if_pos h]]; exact key m
    · rw [if_neg h]
      have e : decorumref01_Mul.j2 (m + 1) (hd a) (hd b) (ab (hd a)) (hd b) = decorumref01_Mul.j2 (m + 1) (hd a) (hd b) (ab (hd a)) (ab (hd b)) := by
        congr 1; unfold ab; rw [if_neg h]
      rw [e]; exact key m
  by_cases h : hd a < 0
  · rw [if_pos h, wrap_in _ (by omega) (by omega)]; exact j1 k _ (by unfold ab; rw [if_pos h])
  · rw [if_neg h]; exact j1 k _ (by unfold ab; rw [if_neg h])

abbrev Ev := S28
/-- Was something sent? -/
def wentB (e : Ev) : Bool := e.f0 == 1 || e.f0 == 2
def hostOf (e : Ev) : ByteArray := e.f2.f1
/-- From one moment to another. -/
def sb (a b : Int) : Int := ad a (-(hd b))
theorem sub_f (a b : Int) : tick_Sub.f a b = some (sb a b) := sub_eq a b

/-- When a host was last sent something, of events, the last ahead. -/
def lastR : List Ev → ByteArray → Option Int
  | [], _ => none
  | e :: r, h => if wentB e && decide (hostOf e = h) then some e.f1 else lastR r h
/-- Were hosts left alone, of events, the last ahead. -/
def gapsR (floor : Int) : List Ev → Bool
  | [] => true
  | e :: r => gapsR floor r && (!wentB e || match lastR r (hostOf e) with
    | some at_ => decide (floor ≤ sb e.f1 at_)
    | none => true)
def gapsB (floor : Int) (l : List Ev) : Bool := gapsR floor l.reverse
/-- Was a request with this number sent, of events. -/
def idR : List Ev → Int → Bool
  | [], _ => false
  | e :: r, i => (e.f0 == 1 && e.f2.f0 == i) || idR r i
def onceR : List Ev → Bool
  | [] => true
  | e :: r => onceR r && (!(e.f0 == 1) || !idR r e.f2.f0)
def onceB (l : List Ev) : Bool := onceR l.reverse
/-- How many events of a kind. -/
def countR (k : Int) : List Ev → Int
  | [] => 0
  | e :: r => countR k r + if e.f0 = k then 1 else 0
def countB (k : Int) (l : List Ev) : Int := countR k l.reverse

theorem rev_take_succ (l : List Ev) (k : Nat) (h : k < l.length) : (l.take (k + 1)).reverse = l[k] :: (l.take k).reverse := by
  rw [List.take_succ_eq_append_getElem h]; simp
theorem rd_get (l : List Ev) (k : Nat) (h : k < l.length) : rd_T28 l (k : Int) = l[k] := by
  simp [rd_T28, h]
theorem gaps_false (floor : Int) (r : List Ev) : ∀ s : List Ev, gapsR floor r = false → gapsR floor (s ++ r) = false
  | [], h => h
  | e :: s, h => by simp [gapsR, gaps_false floor r s h]
theorem gapsB_false {floor : Int} {l : List Ev} (k : Nat) (h : gapsR floor (l.take k).reverse = false) : gapsB floor l = false := by
  unfold gapsB
  rw [← List.take_append_drop k l, List.reverse_append]
  exact gaps_false _ _ _ h
theorem once_false (r : List Ev) : ∀ s : List Ev, onceR r = false → onceR (s ++ r) = false
  | [], h => h
  | e :: s, h => by simp [onceR, once_false r s h]
theorem onceB_false {l : List Ev} (k : Nat) (h : onceR (l.take k).reverse = false) : onceB l = false := by
  unfold onceB
  rw [← List.take_append_drop k l, List.reverse_append]
  exact once_false _ _ h
theorem countR_bd (k : Int) : ∀ r : List Ev, 0 ≤ countR k r ∧ countR k r ≤ r.length
  | [] => by simp [countR]
  | e :: r => by
    have := countR_bd k r
    simp only [countR, List.length_cons]
    split <;> omega
end Go.Proofs.Ytaggkdnnnmbblaa.Given
