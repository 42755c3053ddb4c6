/- BreakerPlays: for any breaker and any four ints the law returns true; no condition. -/
import Derived.Test.YteopghkhegccfaaQBreakerPlaysx3
import Derived.Test.YteopghkhegccfaaArgsBreakerPlays
namespace Go.Proofs.Yteopghkhegccfaa.Pure
open Go.RowKit Go.Proofs.Yteopghkhegccfaa.QBreakerPlays Go.Proofs.YteopghkhegccfaaW.PrintWords Go.Proofs.YteopghkhegccfaaW.PrintLast Go.Proofs.YteopghkhegccfaaW.PrintMore
set_option linter.unusedVariables false
namespace BreakerPlays
theorem bd_u8 {n : Int} (h : (Lit.int .u8 n).wf = true) : 0 ≤ n ∧ n ≤ 255 := by
  simp [Lit.wf, IntKind.min, IntKind.max, IntKind.signed, IntKind.bits] at h
  omega
theorem bd_u16 {n : Int} (h : (Lit.int .u16 n).wf = true) : 0 ≤ n ∧ n ≤ 65535 := by
  simp [Lit.wf, IntKind.min, IntKind.max, IntKind.signed, IntKind.bits] at h
  omega
theorem bd_u32 {n : Int} (h : (Lit.int .u32 n).wf = true) : 0 ≤ n ∧ n ≤ 4294967295 := by
  simp [Lit.wf, IntKind.min, IntKind.max, IntKind.signed, IntKind.bits] at h
  omega
theorem bd_i64 {n : Int} (h : (Lit.int .i64 n).wf = true) : -9223372036854775808 ≤ n ∧ n ≤ 9223372036854775807 := by
  simp [Lit.wf, IntKind.min, IntKind.max, IntKind.signed, IntKind.bits] at h
  omega
def hd (a : Int) : Int := mx (-4611686018427387903) (mn a 4611686018427387903)
def ad (a b : Int) : Int := hd (hd a + hd b)
theorem wrap_in (n : Int) (h : -9223372036854775808 ≤ n) (h' : n ≤ 9223372036854775807) : wrap64 n = n := by
  unfold wrap64; omega
theorem hd_bd (a : Int) : -4611686018427387903 ≤ hd a ∧ hd a ≤ 4611686018427387903 := by
  unfold hd mx mn; omega
theorem hd_id (a : Int) (h : -4611686018427387903 ≤ a) (h' : a ≤ 4611686018427387903) : hd a = a := by
  unfold hd mx mn; omega
theorem ad_bd (a b : Int) : -4611686018427387903 ≤ ad a b ∧ ad a b ≤ 4611686018427387903 := hd_bd _
theorem held_eq (a : Int) : tick_held.f a = some (hd a) := rfl
theorem add_eq (a b : Int) : tick_Add.f a b = some (ad a b) := by
  have ha := hd_bd a
  have hb := hd_bd b
  unfold tick_Add.f
  simp only [held_eq, Option.bind_some]
  rw [wrap_in _ (by omega) (by omega)]
  rfl
theorem rheld_eq (a : Int) : decorumref01_Held.f a = some (hd a) := by
  unfold decorumref01_Held.f hd mx mn
  split
  · exact congrArg some (by omega)
  · split
    · exact congrArg some (by omega)
    · exact congrArg some (by omega)
theorem radd_eq (a b : Int) : decorumref01_Add.f a b = some (ad a b) := by
  have ha := hd_bd a
  have hb := hd_bd b
  unfold decorumref01_Add.f
  simp only [rheld_eq, Option.bind_some]
  unfold ad
  generalize hd a = x at *
  generalize hd b = y at *
  rw [wrap_in (x + y) (by omega) (by omega)]
  by_cases h : y > 0
  · rw [if_pos h, wrap_in _ (by omega) (by omega)]
    by_cases h2 : x > 4611686018427387903 - y
    · rw [if_pos h2]; exact congrArg some (by unfold hd mx mn; omega)
    · rw [if_neg h2, if_neg (by omega)]; exact congrArg some (by unfold hd mx mn; omega)
  · rw [if_neg h]
    by_cases h2 : y < 0
    · rw [if_pos h2, wrap_in _ (by omega) (by omega)]
      by_cases h3 : x < -4611686018427387903 - y
      · rw [if_pos h3]; exact congrArg some (by unfold hd mx mn; omega)
      · rw [if_neg h3]; exact congrArg some (by unfold hd mx mn; omega)
    · rw [if_neg h2]; exact congrArg some (by unfold hd mx mn; omega)
theorem awake_eq : decorumlaw19_awake.f = some true := by decide +kernel
def fls (f : Int) : Int := mn (mx f 0) 1099511627776 + 1
def fl3 (s f t now most op : Int) : Int × Int × Int := if s = 2 ∨ fls f ≥ mx most 1 then (1, fls f, mx t (ad now op)) else (s, fls f, t)
def snd3 (s f t now : Int) : Int × Int × Int := if s = 1 ∧ now ≥ t then (2, f, t) else (s, f, t)
def mayb (s t now n : Int) : Bool := if s = 0 then true else if s = 1 ∧ now < t then false else decide (n < 1)
theorem fail_eq (s f t now most op : Int) : breaker_Fail.f s f t now most op = some (fl3 s f t now most op) := by
  unfold breaker_Fail.f fl3
  rw [add_eq]
  simp only [Option.bind_some]
  by_cases h : s = 2
  · rw [if_pos h, if_pos (Or.inl h)]; rfl
  · rw [if_neg h]
    by_cases g : fls f ≥ mx most 1
    · rw [if_pos (show s = 2 ∨ fls f ≥ mx most 1 from Or.inr g)]; exact if_pos g
    · rw [if_neg (show ¬ (s = 2 ∨ fls f ≥ mx most 1) from fun c => c.elim h g)]; exact if_neg g
theorem send_eq (s f t now : Int) : breaker_Send.f s f t now = some (snd3 s f t now) := by
  unfold breaker_Send.f snd3
  by_cases h : s = 1
  · rw [if_pos h]
    by_cases g : now ≥ t
    · rw [if_pos g, if_pos ⟨h, g⟩]
    · rw [if_neg g, if_neg (fun c => g c.2)]
  · rw [if_neg h, if_neg (fun c => h c.1)]
theorem may_eq (s f t now n : Int) : breaker_May.f s f t now n = some (mayb s t now n) := by
  unfold breaker_May.f mayb
  by_cases h : s = 0
  · rw [if_pos h, if_pos h]
  · rw [if_neg h, if_neg h]
    by_cases h1 : s = 1
    · rw [if_pos h1]
      by_cases g : now ≥ t
      · rw [if_pos g, if_neg (by omega)]
      · rw [if_neg g, if_pos ⟨h1, by omega⟩]
    · rw [if_neg h1, if_neg (fun c => h1 c.1)]
theorem j9_eq (k : Nat) (now n most op s f t : Int) (q : Int × Int × Int) (hq : q = fl3 s f t now most op) (p : Int × Int × Int) (hp : p = snd3 s f t now) :
    decorumlaw19_BreakerPlays.j9 (k + 1) now n most op (mayb s t now n) s f t p.1 p.2.1 p.2.2 q.1 q.2.1 q.2.2 = some true := by
  simp only [decorumlaw19_BreakerPlays.j9]
  rw [awake_eq, may_eq, send_eq, fail_eq, ← hq, ← hp]
  have e : breaker_Good.f s f t = some (0, 0, 0) := rfl
  rw [e]
  simp
theorem j8_eq (k : Nat) (now n most op s f t : Int) (p : Int × Int × Int) (hp : p = snd3 s f t now) (b : Bool) (hb : b = decide (s = 2 ∨ fls f ≥ mx most 1)) :
    decorumlaw19_BreakerPlays.j8 (k + 2) now n most op (mayb s t now n) b s f t p.1 p.2.1 p.2.2 s (fls f) t = some true := by
  simp only [decorumlaw19_BreakerPlays.j8]
  by_cases h : s = 2 ∨ fls f ≥ mx most 1
  · rw [hb, decide_eq_true h, if_pos rfl, radd_eq]
    simp only [Option.bind_some]
    by_cases g : ad now op > t
    · rw [if_pos g]
      exact j9_eq k now n most op s f t (1, fls f, ad now op) (by unfold fl3; rw [if_pos h]; unfold mx; rw [if_pos (show t < ad now op by omega)]) p hp
    · rw [if_neg g]
      exact j9_eq k now n most op s f t (1, fls f, t) (by unfold fl3; rw [if_pos h]; unfold mx; rw [if_neg (show ¬ t < ad now op by omega)]) p hp
  · rw [hb, decide_eq_false h, if_neg (by decide)]
    exact j9_eq k now n most op s f t (s, fls f, t) (by unfold fl3; rw [if_neg h]) p hp
theorem j7_eq (k : Nat) (now n most op s f t : Int) (p : Int × Int × Int) (hp : p = snd3 s f t now) (m : Int) (hm : m = mx most 1) :
    decorumlaw19_BreakerPlays.j7 (k + 3) now n most op (mayb s t now n) m s f t p.1 p.2.1 p.2.2 s (fls f) t = some true := by
  simp only [decorumlaw19_BreakerPlays.j7]
  by_cases h : s = 2
  · rw [if_pos h]; exact j8_eq k now n most op s f t p hp true (by rw [decide_eq_true (Or.inl h)])
  · rw [if_neg h]
    refine j8_eq k now n most op s f t p hp _ ?_
    subst hm
    by_cases g : fls f ≥ mx most 1
    · rw [decide_eq_true g, decide_eq_true (Or.inr g)]
    · rw [decide_eq_false g, decide_eq_false (fun c => c.elim h g)]
theorem j6_eq (k : Nat) (now n most op s f t : Int) (p : Int × Int × Int) (hp : p = snd3 s f t now) (z : Int) (hz : z = mn (mx f 0) 1099511627776) :
    decorumlaw19_BreakerPlays.j6 (k + 4) now n most op (mayb s t now n) s f t p.1 p.2.1 p.2.2 s z t = some true := by
  simp only [decorumlaw19_BreakerPlays.j6]
  have e : wrap64 (z + 1) = fls f := by rw [wrap_in _ (by subst hz; unfold mx mn; omega) (by subst hz; unfold mx mn; omega), hz]; rfl
  rw [e]
  by_cases h : most < 1
  · rw [if_pos h]; exact j7_eq k now n most op s f t p hp 1 (by unfold mx; omega)
  · rw [if_neg h]; exact j7_eq k now n most op s f t p hp most (by unfold mx; omega)
theorem j4_eq (k : Nat) (now n most op s f t : Int) (p : Int × Int × Int) (hp : p = snd3 s f t now) :
    decorumlaw19_BreakerPlays.j4 (k + 6) now n most op (mayb s t now n) s f t p.1 p.2.1 p.2.2 = some true := by
  have j5 : ∀ z, z = mx f 0 → decorumlaw19_BreakerPlays.j5 (k + 5) now n most op (mayb s t now n) s f t p.1 p.2.1 p.2.2 s z t = some true := by
    intro z hz
    simp only [decorumlaw19_BreakerPlays.j5]
    by_cases h : z > 1099511627776
    · rw [if_pos h]; exact j6_eq k now n most op s f t p hp _ (by subst hz; unfold mn; omega)
    · rw [if_neg h]; exact j6_eq k now n most op s f t p hp _ (by subst hz; unfold mn; omega)
  simp only [decorumlaw19_BreakerPlays.j4]
  by_cases h : f < 0
  · rw [if_pos h]; exact j5 0 (by unfold mx; omega)
  · rw [if_neg h]; exact j5 f (by unfold mx; omega)
theorem j2_eq (k : Nat) (now n most op s f t : Int) :
    decorumlaw19_BreakerPlays.j2 (k + 8) now n most op (mayb s t now n) s f t = some true := by
  simp only [decorumlaw19_BreakerPlays.j2]
  have yes : s = 1 → now ≥ t → decorumlaw19_BreakerPlays.j3 (k + 7) now n most op (mayb s t now n) true s f t s f t = some true := by
    intro h g
    simp only [decorumlaw19_BreakerPlays.j3]
    rw [if_pos trivial]
    exact j4_eq k now n most op s f t (2, f, t) (by unfold snd3; rw [if_pos ⟨h, g⟩])
  have no : ¬ (s = 1 ∧ now ≥ t) → decorumlaw19_BreakerPlays.j3 (k + 7) now n most op (mayb s t now n) false s f t s f t = some true := by
    intro h
    simp only [decorumlaw19_BreakerPlays.j3]
    rw [if_neg (by decide)]
    exact j4_eq k now n most op s f t (s, f, t) (by unfold snd3; rw [if_neg h])
  by_cases h : s = 1
  · rw [if_pos h]
    by_cases g : now ≥ t
    · rw [decide_eq_true g]; exact yes h g
    · rw [decide_eq_false g]; exact no (fun c => g c.2)
  · rw [if_neg h]; exact no (fun c => h c.1)
theorem pure_eq (s f t now n most op : Int) : decorumlaw19_BreakerPlays.f 20 s f t now n most op = some true := by
  have j1 : ∀ (x : Bool) (b : Bool), (if b = true then false else x) = mayb s t now n → decorumlaw19_BreakerPlays.j1 (10 + 9) now n most op x b s f t = some true := by
    intro x b hb
    simp only [decorumlaw19_BreakerPlays.j1]
    have := j2_eq 10 now n most op s f t
    rw [← hb] at this
    cases b
    · rw [if_neg (by decide)]; exact this
    · rw [if_pos rfl]; exact this
  have j0 : ∀ x : Bool, x = (if s = 0 then true else decide (n < 1)) → decorumlaw19_BreakerPlays.j0 20 now n most op x s f t = some true := by
    intro x hx
    rw [decorumlaw19_BreakerPlays.j0]
    by_cases h1 : s = 1
    · rw [if_pos h1]
      refine j1 x _ ?_
      unfold mayb
      rw [hx, if_neg (show ¬ s = 0 by omega), if_neg (show ¬ s = 0 by omega)]
      by_cases g : now < t
      · rw [decide_eq_true g, if_pos rfl, if_pos ⟨h1, g⟩]
      · rw [decide_eq_false g, if_neg (by decide), if_neg (fun c => g c.2)]
    · rw [if_neg h1]
      refine j1 x _ ?_
      unfold mayb
      rw [hx, if_neg (by decide), if_neg (show ¬ (s = 1 ∧ now < t) by omega)]
  unfold decorumlaw19_BreakerPlays.f
  by_cases h : s = 0
  · rw [if_pos h]; exact j0 true (by rw [if_pos h])
  · rw [if_neg h]; exact j0 _ (by rw [if_neg h])
open ArgsBreakerPlays in
theorem walk (v : Value) (x : D31) (a1 a2 a3 a4 : Int) (w : World) (_s : ∃ cs, v = .agg cs ∧ cs.size = Try.prog.cellsOf 31) (K : kd31.K w x v.cells.toList) (_g : good31 x)
    (_w1 : (Lit.int .i64 a1).wf = true) (_w2 : (Lit.int .i64 a2).wf = true) (_w3 : (Lit.int .i64 a3).wf = true) (_w4 : (Lit.int .i64 a4).wf = true) :
    Calls Try.prog 7 #[v, .int .i64 a1, .int .i64 a2, .int .i64 a3, .int .i64 a4] w fun e w' => e = .returned (.bool true) ∧ Below w.heap.size w w' := by
  obtain ⟨cs, hv, _⟩ := _s
  obtain ⟨x0, x1, x2⟩ := x
  obtain ⟨_, _, hl, rfl, _, _, rfl, rfl, rfl⟩ := K
  rw [Open.agg_cells hv hl]
  exact decorumlaw19_BreakerPlays.calls 20 x0 x1 x2 a1 a2 a3 a4 true w (pure_eq x0 x1 x2 a1 a2 a3 a4)
end BreakerPlays
end Go.Proofs.Yteopghkhegccfaa.Pure
