/- BreakerOpens: for any small numbers a breaker opens behind just so many failures, waits, lets one through and goes by its end; no condition. -/
import Derived.Test.YteopghkhegccfaaPBreakerOpensx3
namespace Go.Proofs.Yteopghkhegccfaa.Pure
open Go.RowKit Go.Proofs.Yteopghkhegccfaa.PBreakerOpens Go.Proofs.YteopghkhegccfaaW.PrintWords Go.Proofs.YteopghkhegccfaaW.PrintLast Go.Proofs.YteopghkhegccfaaW.PrintMore
set_option linter.unusedVariables false
namespace BreakerOpens
theorem bd_u8 {n : Int} (h : (Lit.int .u8 n).wf = true) : 0 ≤ n ∧ n ≤ 255 := by
  simp [Lit.wf, IntKind.min, IntKind.max, IntKind.signed, IntKind.bits] at h
  omega
theorem bd_u16 {n : Int} (h : (Lit.int .u16 n).wf = true) : 0 ≤ n ∧ n ≤ 65535 := by
  simp [Lit.wf, IntKind.min, IntKind.max, IntKind.signed, IntKind.bits] at h
  omega
theorem bd_u32 {n : Int} (h : (Lit.int .u32 n).wf = true) : 0 ≤ n ∧ n ≤ 4294967295 := by
  simp [Lit.wf, IntKind.min, IntKind.max, IntKind.signed, IntKind.bits] at h
  omega
theorem bd_i64 {n : Int} (h : (Lit.int .i64 n).wf = true) : -9223372036854775808 ≤ n ∧ n ≤ 9223372036854775807 := by
  simp [Lit.wf, IntKind.min, IntKind.max, IntKind.signed, IntKind.bits] at h
  omega
theorem wrap_in (n : Int) (h : -9223372036854775808 ≤ n) (h' : n ≤ 9223372036854775807) : wrap64 n = n := by
  unfold wrap64; omega
theorem add_small (a b : Int) (ha : 0 ≤ a) (ha' : a ≤ 1000000) (hb : 0 ≤ b) (hb' : b ≤ 1000000) : tick_Add.f a b = some (a + b) := by
  unfold tick_Add.f tick_held.f
  simp only [Option.bind_some]
  have e1 : mx (-4611686018427387903) (mn a 4611686018427387903) = a := by unfold mx mn; omega
  have e2 : mx (-4611686018427387903) (mn b 4611686018427387903) = b := by unfold mx mn; omega
  rw [e1, e2, wrap_in (a + b) (by omega) (by omega)]
  exact congrArg some (by unfold mx mn; omega)
theorem awake_eq : decorumlaw19_awake.f = some true := by decide +kernel
theorem fail_cl (n t now m op : Int) (hn : 0 ≤ n) (hn' : n ≤ 1000) (hm : 1 ≤ m) (h0 : 0 ≤ now) (h1 : now ≤ 1000) (ho : 0 ≤ op) (ho' : op ≤ 65535) :
    breaker_Fail.f 0 n t now m op = some (if n + 1 ≥ m then (1, n + 1, mx t (now + op)) else (0, n + 1, t)) := by
  unfold breaker_Fail.f
  rw [if_neg (by decide)]
  have e : mn (mx n 0) 1099511627776 = n := by unfold mx mn; omega
  have e2 : mx m 1 = m := by unfold mx; omega
  rw [e, e2]
  by_cases c : n + 1 ≥ m
  · rw [if_pos c, if_pos c, add_small now op h0 (by omega) ho (by omega)]; rfl
  · rw [if_neg c, if_neg c]
theorem j3_eq (k : Nat) (op m t : Int) (good : Bool) (ho : 0 ≤ op) (ho' : op ≤ 65535) (ht : 0 ≤ t) (ht' : t ≤ 100000) (f : Int) (hf : 0 ≤ f) (hf' : f ≤ 1000) (s1 s2 s3 : Int) :
    decorumlaw19_BreakerOpens.j3 (k + 1) op good m false s1 s2 t 2 f t = some true := by
  simp only [decorumlaw19_BreakerOpens.j3]
  rw [if_neg (by decide), awake_eq]
  cases good
  · rw [if_neg (by decide)]
    unfold breaker_Fail.f
    rw [if_pos rfl, wrap_in op (by omega) (by omega), wrap_in (t + 3) (by omega) (by omega), add_small _ _ (by omega) (by omega) ho (by omega)]
    simp only [Option.bind_some, if_true]
    rw [wrap_in (t + 3 + op) (by omega) (by omega)]
    have : mx t (t + 3 + op) = t + 3 + op := by unfold mx; omega
    rw [this]; simp
  · rw [if_pos rfl]
    simp only [Option.bind_some, if_true]
    rfl
theorem j2_eq (k : Nat) (op m t : Int) (good : Bool) (ho : 0 ≤ op) (ho' : op ≤ 65535) (ht : 0 ≤ t) (ht' : t ≤ 100000) (f : Int) (hf : 0 ≤ f) (hf' : f ≤ 1000) :
    decorumlaw19_BreakerOpens.j2 (k + 2) op good m false 1 f t = some true := by
  simp only [decorumlaw19_BreakerOpens.j2]
  rw [if_neg (by decide)]
  have e : breaker_Send.f 1 f t t = some (2, f, t) := by unfold breaker_Send.f; rw [if_pos rfl, if_pos (by omega)]
  rw [e]
  simp only [Option.bind_some]
  rw [if_pos trivial]
  have e2 : breaker_May.f 2 f t (wrap64 (t + 5)) 1 = some false := by unfold breaker_May.f; rw [if_neg (by decide), if_neg (by decide)]; rfl
  rw [e2]
  simp only [Option.bind_some]
  exact j3_eq k op m t good ho ho' ht ht' f hf hf' _ _ 0
theorem j1_op (k : Nat) (op m t : Int) (good : Bool) (ho : 0 ≤ op) (ho' : op ≤ 65535) (hm : 1 ≤ m) (hm' : m ≤ 20) (f : Int) (hf : 0 ≤ f) (hf' : f ≤ 1000) (ht : t = m - 1 + op) (hk : 3 ≤ k) :
    decorumlaw19_BreakerOpens.j1 k op good m 1 f t = some true := by
  obtain ⟨k, rfl⟩ : ∃ j, k = j + 3 := ⟨k - 3, by omega⟩
  simp only [decorumlaw19_BreakerOpens.j1]
  rw [if_pos trivial, wrap_in op (by omega) (by omega), wrap_in (m - 1) (by omega) (by omega), wrap_in (m - 1 + op) (by omega) (by omega)]
  have e1 : breaker_May.f 1 f t t 0 = some true := by unfold breaker_May.f; rw [if_neg (by decide), if_pos rfl, if_pos (by omega)]; rfl
  have e2 : breaker_May.f 1 f t (wrap64 (t - 1)) 0 = some false := by unfold breaker_May.f; rw [if_neg (by decide), if_pos rfl, wrap_in (t - 1) (by omega) (by omega), if_neg (by omega)]
  have e3 : (t != m - 1 + op) = false := by rw [ht]; simp
  rw [e1, e2, e3]
  simp only [Option.bind_some, if_true]
  have := j2_eq k op m t good ho ho' (by omega) (by omega) f hf hf'
  by_cases c : op > 0
  · rw [if_pos c, if_neg (by decide)]; exact this
  · rw [if_neg c]; exact this
theorem l0_eq (fl op m : Int) (good : Bool) (hfl : 0 ≤ fl) (hfl' : fl ≤ 255) (ho : 0 ≤ op) (ho' : op ≤ 65535) (hm : 1 ≤ m) (hm' : m ≤ 20) (d : Nat) : ∀ (k : Nat) (i : Int), 0 ≤ i → i < m → (255 - i).toNat = d → d + 10 < k →
    decorumlaw19_BreakerOpens.l0 k op fl good m i 0 i 0 = some true := by
  have et : Int.tmod fl 40 = fl % 40 := Int.tmod_eq_emod_of_nonneg hfl
  have cl : ∀ (k : Nat) (n t : Int), decorumlaw19_BreakerOpens.j1 (k + 1) op good m 0 n t = some true := by
    intro k n t
    simp only [decorumlaw19_BreakerOpens.j1]
    rw [if_neg (by decide), awake_eq]
    rfl
  induction d with
  | zero => intro k i h0 h1 hd; omega
  | succ d ih =>
    intro k i h0 h1 hd hk
    obtain ⟨k, rfl⟩ : ∃ j, k = j + 1 := ⟨k - 1, by omega⟩
    simp only [decorumlaw19_BreakerOpens.l0]
    rw [et, wrap_in (fl % 40) (by omega) (by omega), wrap_in op (by omega) (by omega)]
    by_cases c : i < fl % 40
    · rw [if_pos c, if_pos trivial, fail_cl i 0 i m op h0 (by omega) hm h0 (by omega) ho ho', wrap_in (i + 1) (by omega) (by omega)]
      simp only [Option.bind_some]
      by_cases g : i + 1 ≥ m
      · rw [if_pos g]
        simp only
        rw [decide_eq_true g, if_neg (by decide), if_pos trivial]
        have ex : mx 0 (i + op) = i + op := by unfold mx; omega
        rw [ex]
        have j1 := fun q hq => j1_op q op m (i + op) good ho ho' hm hm' (i + 1) (by omega) (by omega) (by omega) hq
        obtain ⟨k2, rfl⟩ : ∃ j, k = j + 1 := ⟨k - 1, by omega⟩
        simp only [decorumlaw19_BreakerOpens.l0]
        rw [et, wrap_in (fl % 40) (by omega) (by omega)]
        by_cases c2 : i + 1 < fl % 40
        · rw [if_pos c2, if_neg (by decide)]; exact j1 k2 (by omega)
        · rw [if_neg c2]; exact j1 k2 (by omega)
      · rw [if_neg g]
        simp only
        rw [decide_eq_false g, if_neg (by decide), if_pos trivial]
        exact ih k (i + 1) (by omega) (by omega) (by omega) (by omega)
    · rw [if_neg c]
      obtain ⟨k, rfl⟩ : ∃ j, k = j + 1 := ⟨k - 1, by omega⟩
      exact cl _ _ _
end BreakerOpens
open BreakerOpens in
theorem BreakerOpens : decorumlaw19_BreakerOpens.Pure := by
  intro m op fl good wm wo wf
  have hm := bd_u8 wm
  have ho := bd_u16 wo
  have hf := bd_u8 wf
  refine ⟨400, ?_⟩
  unfold decorumlaw19_BreakerOpens.f
  have et : Int.tmod m 20 = m % 20 := Int.tmod_eq_emod_of_nonneg hm.1
  rw [et, wrap_in (m % 20) (by omega) (by omega), wrap_in _ (by omega) (by omega)]
  exact l0_eq fl op (m % 20 + 1) good hf.1 hf.2 ho.1 ho.2 (by omega) (by omega) 255 400 0 (by omega) (by omega) (by omega) (by omega)

end Go.Proofs.Yteopghkhegccfaa.Pure
