/- BreakerGood: for any uint8 and any bools the law returns true; no condition. -/
import Derived.Test.YteopghkhegccfaaPBreakerGoodx3
import Derived.Test.YteopghkhegccfaaArgsBreakerGood
namespace Go.Proofs.Yteopghkhegccfaa.Pure
open Go.RowKit Go.Proofs.Yteopghkhegccfaa.PBreakerGood Go.Proofs.YteopghkhegccfaaW.PrintWords Go.Proofs.YteopghkhegccfaaW.PrintLast Go.Proofs.YteopghkhegccfaaW.PrintMore
set_option linter.unusedVariables false
namespace BreakerGood
theorem bd_u8 {n : Int} (h : (Lit.int .u8 n).wf = true) : 0 ≤ n ∧ n ≤ 255 := by
  simp [Lit.wf, IntKind.min, IntKind.max, IntKind.signed, IntKind.bits] at h
  omega
theorem bd_u16 {n : Int} (h : (Lit.int .u16 n).wf = true) : 0 ≤ n ∧ n ≤ 65535 := by
  simp [Lit.wf, IntKind.min, IntKind.max, IntKind.signed, IntKind.bits] at h
  omega
theorem bd_u32 {n : Int} (h : (Lit.int .u32 n).wf = true) : 0 ≤ n ∧ n ≤ 4294967295 := by
  simp [Lit.wf, IntKind.min, IntKind.max, IntKind.signed, IntKind.bits] at h
  omega
theorem bd_i64 {n : Int} (h : (Lit.int .i64 n).wf = true) : -9223372036854775808 ≤ n ∧ n ≤ 9223372036854775807 := by
  simp [Lit.wf, IntKind.min, IntKind.max, IntKind.signed, IntKind.bits] at h
  omega
theorem wrap_in (n : Int) (h : -9223372036854775808 ≤ n) (h' : n ≤ 9223372036854775807) : wrap64 n = n := by
  unfold wrap64; omega
theorem add_small (a b : Int) (ha : 0 ≤ a) (ha' : a ≤ 1000000) (hb : 0 ≤ b) (hb' : b ≤ 1000000) : tick_Add.f a b = some (a + b) := by
  unfold tick_Add.f tick_held.f
  simp only [Option.bind_some]
  have e1 : mx (-4611686018427387903) (mn a 4611686018427387903) = a := by unfold mx mn; omega
  have e2 : mx (-4611686018427387903) (mn b 4611686018427387903) = b := by unfold mx mn; omega
  rw [e1, e2, wrap_in (a + b) (by omega) (by omega)]
  exact congrArg some (by unfold mx mn; omega)
theorem awake_eq : decorumlaw19_awake.f = some true := by decide +kernel
theorem fail_eq (s row t now m : Int) (hs : s = 0 ∨ s = 1) (h0 : 0 ≤ row) (h1 : row ≤ 1000) (hm : 1 ≤ m) (n0 : 0 ≤ now) (n1 : now ≤ 1000) :
    breaker_Fail.f s row t now m 10 = some (if row + 1 ≥ m then (1, row + 1, mx t (now + 10)) else (s, row + 1, t)) := by
  unfold breaker_Fail.f
  have e : mn (mx row 0) 1099511627776 = row := by unfold mx mn; omega
  have e2 : mx m 1 = m := by unfold mx; omega
  rw [if_neg (by omega), e, e2]
  by_cases c : row + 1 ≥ m
  · rw [if_pos c, if_pos c, add_small now 10 n0 (by omega) (by omega) (by omega)]; rfl
  · rw [if_neg c, if_neg c]
theorem l0_eq (l : List Bool) (m : Int) (hm : 1 ≤ m) (hm' : m ≤ 6) (d : Nat) : ∀ (k : Nat) (row i s t : Int), 0 ≤ i → i ≤ 80 → 0 ≤ row → row ≤ i → (s = if row ≥ m then 1 else 0) → (80 - i).toNat = d → 2 * d + 3 < k →
    decorumlaw19_BreakerGood.l0 k l m row i s row t = some true := by
  have fin : ∀ (k : Nat) (row i s t : Int), decorumlaw19_BreakerGood.j1 (k + 1) l m row i false s row t = some true := by
    intro k row i s t
    simp only [decorumlaw19_BreakerGood.j1]
    rw [if_neg (by decide), awake_eq]; rfl
  induction d with
  | zero =>
    intro k row i s t h0 h1 r0 r1 hs hd hk
    obtain ⟨k, rfl⟩ : ∃ j, k = j + 2 := ⟨k - 2, by omega⟩
    simp only [decorumlaw19_BreakerGood.l0]
    rw [decide_eq_false (by omega)]
    by_cases c : i < (l.length : Int)
    · rw [if_pos c]; exact fin k row i s t
    · rw [if_neg c]; exact fin k row i s t
  | succ d ih =>
    intro k row i s t h0 h1 r0 r1 hs hd hk
    obtain ⟨k, rfl⟩ : ∃ j, k = j + 2 := ⟨k - 2, by omega⟩
    rw [decorumlaw19_BreakerGood.l0]
    by_cases c : i < (l.length : Int)
    · rw [if_pos c, decide_eq_true (show i < 80 by omega), decorumlaw19_BreakerGood.j1, if_pos rfl, if_pos h0, if_pos c, wrap_in (row + 1) (by omega) (by omega), wrap_in (i + 1) (by omega) (by omega)]
      by_cases b : rdOf false l i = true
      · rw [if_pos b, fail_eq s row t i m (by rw [hs]; split <;> simp) r0 (by omega) hm h0 (by omega)]
        simp only [Option.bind_some]
        by_cases g : row + 1 ≥ m
        · rw [if_pos g, decide_eq_true g]
          simp only
          rw [if_neg (by decide), if_pos trivial]
          exact ih k (row + 1) (i + 1) 1 _ (by omega) (by omega) (by omega) (by omega) (by rw [if_pos g]) (by omega) (by omega)
        · have hs0 : s = 0 := by rw [hs, if_neg (by omega)]
          rw [if_neg g, decide_eq_false g, hs0]
          simp only
          rw [if_neg (by decide), if_pos trivial]
          exact ih k (row + 1) (i + 1) 0 _ (by omega) (by omega) (by omega) (by omega) (by rw [if_neg g]) (by omega) (by omega)
      · rw [if_neg b]
        have e : breaker_Good.f s row t = some (0, 0, 0) := rfl
        rw [e]
        simp only [Option.bind_some]
        rw [decide_eq_false (show ¬ (0 : Int) ≥ m by omega), if_neg (by decide), if_pos trivial]
        exact ih k 0 (i + 1) 0 0 (by omega) (by omega) (by omega) (by omega) (by rw [if_neg (by omega)]) (by omega) (by omega)
    · rw [if_neg c]; exact fin k row i s t
theorem pure_eq (m : Int) (l : List Bool) (wm : (Lit.int .u8 m).wf = true) : decorumlaw19_BreakerGood.f 200 m l = some true := by
  have hm := bd_u8 wm
  unfold decorumlaw19_BreakerGood.f
  rw [Int.tmod_eq_emod_of_nonneg hm.1, wrap_in (m % 6) (by omega) (by omega), wrap_in _ (by omega) (by omega)]
  exact l0_eq l (m % 6 + 1) (by omega) (by omega) 80 200 0 0 0 0 (by omega) (by omega) (by omega) (by omega) (by rw [if_neg (by omega)]) (by omega) (by omega)
open ArgsBreakerGood in
theorem walk (a : Int) (v : Value) (x : D39) (w : World) (wa : (Lit.int .u8 a).wf = true) (_s : ∃ A n c, v = .slice A n c) (K : kd39.K w x v.cells.toList) (g : good39 x) :
    Calls Try.prog 9 #[.int .u8 a, v] w fun e w' => e = .returned (.bool true) ∧ Below w.heap.size w w' := by
  obtain ⟨A, n, c, rfl⟩ := _s
  obtain ⟨A', c', hc, hl, hC⟩ := K
  simp [Value.cells] at hc
  obtain ⟨rfl, rfl, rfl⟩ := hc
  exact decorumlaw19_BreakerGood.calls 200 a A c x true w hC hl (pure_eq a x wa)
end BreakerGood
end Go.Proofs.Yteopghkhegccfaa.Pure
