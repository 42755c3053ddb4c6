/- Plain law: the milliseconds of a text, sign by sign and in parts. -/
import Derived.Test.YthbmedhejlhclaaDoorQBasex5
import Derived.Test.YthbmedhejlhclaaDoorGivD
namespace Go.Proofs.YthbmedhejlhclaaDoor.Pure
open Go Go.RowKit Go.Proofs.YthbmedhejlhclaaDoor.QBase Go.Proofs.YthbmedhejlhclaaDoor.Given Go.Proofs.YthbmedhejlhclaaDoorW.PrintWords Go.Proofs.YthbmedhejlhclaaDoorW.PrintLast
set_option linter.unusedVariables false

theorem bt_drop {s : ByteArray} {i : Nat} {c : UInt8} {t : List UInt8} (h : s.data.toList.drop i = c :: t) : i < s.size ∧ bt s (i : Int) = (c.toNat : Int) ∧ s.data.toList.drop (i + 1) = t := by
  have hl : i < s.data.toList.length := by
    apply Decidable.byContradiction
    intro hh
    rw [List.drop_eq_nil_of_le (by omega)] at h
    cases h
  have hs : i < s.size := by rw [Lib.size_eq]; exact hl
  rw [List.drop_eq_getElem_cons hl] at h
  obtain ⟨h1, h2⟩ := List.cons.inj h
  refine ⟨hs, ?_, h2⟩
  rw [← bt_at s (i : Int) (by simpa using hs), ← h1]
  rfl
theorem drop_end {s : ByteArray} {i : Nat} (h : s.data.toList.drop i = []) (hi : i ≤ s.size) : i = s.size := by
  have := List.drop_eq_nil_iff.mp h
  rw [← Lib.size_eq] at this
  omega

/-- What a place behind the dot counts. -/
def unit (b : Nat) : Nat := if b = 0 then 100 else if b = 1 then 10 else if b = 2 then 1 else 0
def refL : List UInt8 → Nat → Nat → Bool → Nat → Nat × Bool
  | [], ms, g, d, b => (ms, decide (0 < g + b) && (!d || decide (0 < b)))
  | c :: t, ms, g, d, b =>
    if c = 46 ∧ d = false then refL t ms g true b
    else if digB c = false then (0, false)
    else if d = false then (if 9 ≤ g then (0, false) else refL t (10 * ms + 1000 * (c.toNat - 48)) (g + 1) d b)
    else refL t (ms + unit b * (c.toNat - 48)) g d (b + 1)

theorem u8_46 (c : UInt8) : ((c.toNat : Int) = 46) ↔ c = 46 := by
  constructor
  · intro h
    apply UInt8.toNat_inj.mp
    show c.toNat = 46
    omega
  · rintro rfl; rfl

theorem refD (s : ByteArray) (hs : s.size < 1099511627776) : ∀ (l : List UInt8) (i ms g : Nat) (d : Bool) (b k : Nat), s.data.toList.drop i = l → i ≤ s.size → g ≤ 9 → (ms + 1000 ≤ 1000 * 10 ^ g ∧ d = false ∧ b = 0 ∨ d = true ∧ ms < 1000000000000 + 900 * b) → b ≤ i → 4 * l.length + 1 ≤ k →
    decorumref09_Delay.l0 k s (ms : Int) (g : Int) (if d then 1 else 0) (b : Int) (i : Int) = some (((refL l ms g d b).1 : Int), (refL l ms g d b).2) := by
  intro l
  induction l with
  | nil =>
    intro i ms g d b k hd hi hg hm hb hk
    obtain ⟨k, rfl⟩ : ∃ k', k = k' + 1 := ⟨k - 1, by omega⟩
    have hi' := drop_end hd hi
    rw [decorumref09_Delay.l0, if_neg (by omega)]
    have hw : Aside0 (wrap64 ((g : Int) + b) = ((g + b : Nat) : Int)) := ⟨by simp only [wrap64]; omega⟩
    rw [hw.out, refL]
    cases d with
    | false =>
      by_cases hc : 0 < g + b
      · rw [if_pos (by omega)]
        simp [hc]
      · rw [if_neg (by omega)]
        simp [hc]
    | true =>
      by_cases hc : 0 < g + b
      · rw [if_pos (by omega), if_neg (by simp)]
        simp [hc]
      · rw [if_neg (by omega)]
        have : ¬ 0 < b := by omega
        simp [this]
  | cons c t ih =>
    intro i ms g d b k hd hi hg hm hb hk
    obtain ⟨h1, h2, h3⟩ := bt_drop hd
    rw [List.length_cons] at hk
    obtain ⟨k, rfl⟩ : ∃ k', k = k' + 4 := ⟨k - 4, by omega⟩
    have hwi : Aside0 (wrap64 ((i : Int) + 1) = ((i + 1 : Nat) : Int)) := ⟨by simp only [wrap64]; omega⟩
    have hcl := UInt8.toNat_lt c
    rw [decorumref09_Delay.l0, if_pos (by omega), if_pos (by omega), h2]
    have hpow : 10 ^ g ≤ 1000000000 := Nat.le_trans (Nat.pow_le_pow_right (by decide) hg) (by decide)
    have hps : 10 ^ (g + 1) = 10 ^ g * 10 := Nat.pow_succ ..
    generalize 10 ^ g = P at hpow hps hm
    -- the sign's own road
    have road : (c = 46 ∧ d = false → False) → decorumref09_Delay.j1 (k + 3) s ms g (if d then 1 else 0) b i (c.toNat : Int) false = some (((refL (c :: t) ms g d b).1 : Int), (refL (c :: t) ms g d b).2) := by
      intro hno
      rw [decorumref09_Delay.j1, if_neg (by decide), refL, if_neg hno]
      by_cases hlo : c.toNat < 48
      · have hdg : digB c = false := by simp [digB]; omega
        rw [if_pos (by omega), if_pos hdg, decorumref09_Delay.j2, if_pos rfl]
        rfl
      rw [if_neg (by omega)]
      by_cases hhi : 57 < c.toNat
      · have hdg : digB c = false := by simp [digB]; omega
        have : decide ((c.toNat : Int) > 57) = true := decide_eq_true (by omega)
        rw [this, if_pos hdg, decorumref09_Delay.j2, if_pos rfl]
        rfl
      have hdg : digB c = true := by simp [digB]; omega
      have : decide ((c.toNat : Int) > 57) = false := decide_eq_false (by omega)
      have hmod : ((c.toNat : Int) - 48) % 256 = ((c.toNat - 48 : Nat) : Int) := by omega
      rw [this, if_neg (show ¬ (digB c = false) by rw [hdg]; decide), decorumref09_Delay.j2, if_neg (by decide)]
      cases d with
      | false =>
        obtain ⟨hm1, rfl⟩ : ms + 1000 ≤ 1000 * P ∧ b = 0 := by
          rcases hm with ⟨a, _, c⟩ | ⟨a, _⟩
          · exact ⟨a, c⟩
          · cases a
        have hwg : Aside0 (wrap64 ((g : Int) + 1) = ((g + 1 : Nat) : Int)) := ⟨by simp only [wrap64]; omega⟩
        rw [if_pos (show (if false = true then (1 : Int) else 0) = 0 from rfl), if_pos (show false = false from rfl), hwg.out]
        by_cases h9 : 9 ≤ g
        · rw [if_pos (by omega), if_pos h9]
          rfl
        rw [if_neg (by omega), if_neg h9, hmod, hwi.out]
        have hw1 : Aside0 (wrap64 (10 * (ms : Int)) = ((10 * ms : Nat) : Int)) := ⟨by simp only [wrap64]; omega⟩
        have hw2 : Aside0 (wrap64 (((10 * ms : Nat) : Int) + 1000 * ((c.toNat - 48 : Nat) : Int)) = ((10 * ms + 1000 * (c.toNat - 48) : Nat) : Int)) := ⟨by simp only [wrap64]; omega⟩
        rw [hw1.out, hw2.out]
        have := ih (i + 1) (10 * ms + 1000 * (c.toNat - 48)) (g + 1) false 0 (k + 1) h3 (by omega) (by omega) (.inl ⟨by rw [hps]; omega, rfl, rfl⟩) (by omega) (by omega)
        exact this
      | true =>
        have hm1 : ms < 1000000000000 + 900 * b := by
          rcases hm with ⟨_, a, _⟩ | ⟨_, a⟩
          · cases a
          · exact a
        have hwb : Aside0 (wrap64 ((b : Int) + 1) = ((b + 1 : Nat) : Int)) := ⟨by simp only [wrap64]; omega⟩
        have hun : ∀ u : Nat, u ≤ 100 → Aside0 (wrap64 ((ms : Int) + (u : Int) * ((c.toNat - 48 : Nat) : Int)) = ((ms + u * (c.toNat - 48) : Nat) : Int)) := by
          intro u hu
          constructor
          have : u * (c.toNat - 48) ≤ 100 * 9 := Nat.mul_le_mul hu (by omega)
          rw [← Int.natCast_mul, ← Int.natCast_add]
          simp only [wrap64]; omega
        have hbnd : unit b * (c.toNat - 48) ≤ 900 := by
          have : unit b ≤ 100 := by unfold unit; repeat' split
                                    all_goals omega
          have := Nat.mul_le_mul this (show c.toNat - 48 ≤ 9 by omega)
          omega
        have key := ih (i + 1) (ms + unit b * (c.toNat - 48)) g true (b + 1) k h3 (by omega) hg (.inr ⟨rfl, by omega⟩) (by omega) (by omega)
        rw [if_neg (show ¬ ((if true = true then (1 : Int) else 0) = 0) by decide), if_neg (show ¬ (true = false) by decide), hwb.out, hmod]
        by_cases hb0 : b = 0
        · subst hb0
          rw [if_pos (by rfl), decorumref09_Delay.j3, if_neg (by decide), if_neg (by decide), hwi.out]
          have := (hun 100 (by omega)).out
          rw [show ((100 : Nat) : Int) = 100 from rfl] at this
          rw [this]
          rw [show unit 0 = 100 from rfl] at key ⊢
          exact key
        rw [if_neg (by omega), decorumref09_Delay.j3]
        rw [hmod, hwi.out]
        by_cases hb1 : b = 1
        · subst hb1
          rw [if_pos (by rfl), if_neg (by decide)]
          have := (hun 10 (by omega)).out
          rw [show ((10 : Nat) : Int) = 10 from rfl] at this
          rw [this]
          rw [show unit 1 = 10 from rfl] at key ⊢
          exact key
        rw [if_neg (by omega)]
        by_cases hb2 : b = 2
        · subst hb2
          rw [if_pos (by rfl)]
          have := (hun 1 (by omega)).out
          rw [show ((1 : Nat) : Int) = 1 from rfl, Int.one_mul] at this
          rw [this]
          rw [show unit 2 = 1 from rfl] at key ⊢
          exact key
        rw [if_neg (by omega)]
        have hu0 : unit b = 0 := by unfold unit; rw [if_neg hb0, if_neg hb1, if_neg hb2]
        rw [hu0, Nat.zero_mul, Nat.add_zero] at key
        rw [hu0, Nat.zero_mul, Nat.add_zero]
        exact key
    by_cases h46 : c = 46
    · rw [if_pos ((u8_46 c).mpr h46)]
      cases d with
      | false =>
        rw [show (((if false = true then (1 : Int) else 0)) == 0) = true from rfl, decorumref09_Delay.j1, if_pos rfl, hwi.out, refL, if_pos ⟨h46, rfl⟩]
        have hm1 : ms < 1000000000000 + 900 * b := by
          rcases hm with ⟨a, _, c⟩ | ⟨a, _⟩
          · omega
          · cases a
        exact ih (i + 1) ms g true b (k + 2) h3 (by omega) hg (.inr ⟨rfl, hm1⟩) (by omega) (by omega)
      | true =>
        exact road (fun h => by cases h.2)
    · rw [if_neg (fun h => h46 ((u8_46 c).mp h))]
      exact road (fun h => h46 h.1)

theorem cut_nil (x : UInt8) : Lib.cut [] [x] = ([], [], false) := rfl
theorem cut_hit (x : UInt8) (t : List UInt8) : Lib.cut (x :: t) [x] = ([], t, true) := by
  have h : Lib.index (x :: t) [x] = 0 := by unfold Lib.index; rw [if_pos (by simp)]
  unfold Lib.cut
  rw [h]
  rfl
theorem cut_miss (x c : UInt8) (t : List UInt8) (hne : c ≠ x) : Lib.cut (c :: t) [x] = (c :: (Lib.cut t [x]).1, (Lib.cut t [x]).2.1, (Lib.cut t [x]).2.2) := by
  have h0 : ([x].isPrefixOf (c :: t)) = false := by simp [List.isPrefixOf]; exact fun e => hne e.symm
  have hge := Lib.index_ge t [x]
  unfold Lib.cut
  by_cases hm : Lib.index t [x] = -1
  · have h : Lib.index (c :: t) [x] = -1 := by unfold Lib.index; rw [h0, hm]; rfl
    rw [h, hm]
    rfl
  · have h : Lib.index (c :: t) [x] = Lib.index t [x] + 1 := by
      rw [Lib.index, h0, if_neg (by decide), if_neg (by simpa using hm)]
    rw [h, if_pos (by omega), if_pos (by omega)]
    have e : (Lib.index t [x] + 1).toNat = (Lib.index t [x]).toNat + 1 := by omega
    rw [e]
    simp

def sumU : Nat → List UInt8 → Nat
  | _, [] => 0
  | b, c :: t => unit b * (c.toNat - 48) + sumU (b + 1) t
theorem sumU_far : ∀ (t : List UInt8) (b : Nat), 3 ≤ b → sumU b t = 0
  | [], _, _ => rfl
  | c :: t, b, h => by
    rw [sumU, sumU_far t (b + 1) (by omega)]
    have : unit b = 0 := by unfold unit; rw [if_neg (by omega), if_neg (by omega), if_neg (by omega)]
    rw [this, Nat.zero_mul]
theorem num3 (A : Nat) (x y z : UInt8) : numV A [x, y, z] = 1000 * A + (100 * (x.toNat - 48) + (10 * (y.toNat - 48) + (z.toNat - 48))) := by
  rw [numV_cons, numV_cons, numV_cons, numV_nil, stepV_eq, stepV_eq, stepV_eq]
  omega
theorem numV_app (a b : List UInt8) : ∀ n, numV n (a ++ b) = numV (numV n a) b := by
  intro n
  unfold numV
  rw [List.foldl_append]
theorem sum_num (A : Nat) (t : List UInt8) : 1000 * A + sumU 0 t = numV A ((t ++ [48, 48, 48]).take 3) := by
  match t with
  | [] => rw [show List.take 3 ((([] : List UInt8) ++ [48, 48, 48]) : List UInt8) = ([48, 48, 48] : List UInt8) from rfl, num3]; rfl
  | [a] => rw [show List.take 3 (([a] ++ [48, 48, 48]) : List UInt8) = ([a, 48, 48] : List UInt8) from rfl, num3]; rfl
  | [a, b] => rw [show List.take 3 (([a, b] ++ [48, 48, 48]) : List UInt8) = ([a, b, 48] : List UInt8) from rfl, num3]; rfl
  | a :: b :: c :: r =>
    rw [show List.take 3 (((a :: b :: c :: r) ++ [48, 48, 48]) : List UInt8) = ([a, b, c] : List UInt8) from rfl, num3, sumU, sumU, sumU, sumU_far r _ (by omega)]
    rw [show unit 0 = 100 from rfl, show unit (0 + 1) = 10 from rfl, show unit (0 + 1 + 1) = 1 from rfl]
    omega
theorem ref_two : ∀ (t : List UInt8) (ms g b : Nat), refL t ms g true b = if t.all digB = true then (ms + sumU b t, decide (0 < g + (b + t.length)) && decide (0 < b + t.length)) else (0, false)
  | [], ms, g, b => by simp [refL, sumU]
  | c :: t, ms, g, b => by
    rw [refL, if_neg (fun h => by cases h.2), List.all_cons]
    cases hd : digB c with
    | false => simp
    | true =>
      rw [if_neg (by decide), if_neg (by decide), ref_two t, Bool.true_and, sumU, List.length_cons]
      rw [Nat.add_assoc, show b + 1 + t.length = b + (t.length + 1) by omega]
theorem ref_one : ∀ (l : List UInt8) (n g : Nat), g ≤ 9 → refL l (1000 * n) g false 0 =
    if (Lib.cut l [46]).1.all digB = true ∧ g + (Lib.cut l [46]).1.length ≤ 9 then
      (if (Lib.cut l [46]).2.2 = true then refL (Lib.cut l [46]).2.1 (1000 * numV n (Lib.cut l [46]).1) (g + (Lib.cut l [46]).1.length) true 0 else (1000 * numV n (Lib.cut l [46]).1, decide (0 < g + (Lib.cut l [46]).1.length)))
    else (0, false)
  | [], n, g, hg => by
    rw [cut_nil, refL]
    rw [if_pos ⟨rfl, by simpa using hg⟩, if_neg (by decide)]
    simp [numV_nil]
  | c :: t, n, g, hg => by
    by_cases hc : c = 46
    · subst hc
      rw [cut_hit, refL, if_pos ⟨rfl, rfl⟩, if_pos ⟨rfl, by simpa using hg⟩, if_pos rfl]
      simp [numV_nil]
    · rw [cut_miss 46 c t hc, refL, if_neg (fun h => hc h.1)]
      simp only [List.all_cons, List.length_cons]
      cases hd : digB c with
      | false => simp
      | true =>
        rw [if_neg (by decide), if_pos trivial]
        by_cases h9 : 9 ≤ g
        · rw [if_pos h9, if_neg (fun h => by have := h.2; omega)]
        · have e : 10 * (1000 * n) + 1000 * (c.toNat - 48) = 1000 * stepV n c := by rw [stepV_eq]; omega
          rw [if_neg h9, e, ref_one t (stepV n c) (g + 1) (by omega), Bool.true_and, numV_cons]
          rw [show g + 1 + (Lib.cut t [46]).1.length = g + ((Lib.cut t [46]).1.length + 1) by omega]
/-- One answer, if there is one. -/
theorem delay_one (l : List UInt8) : (refL l 0 0 false 0).2 = (delayV l).2 ∧ ((delayV l).2 = true → (refL l 0 0 false 0).1 = (delayV l).1) ∧ ((delayV l).2 = false → (delayV l).1 = 0) := by
  have h := ref_one l 0 0 (by omega)
  rw [Nat.mul_zero] at h
  rw [h]
  unfold delayV delayP
  have hf : (Lib.cut l [46]).2.2 = false → (Lib.cut l [46]).2.1 = [] := by
    unfold Lib.cut
    split
    · intro h; cases h
    · intro; rfl
  generalize (Lib.cut l [46]).1 = a at *
  generalize (Lib.cut l [46]).2.1 = b at *
  generalize (Lib.cut l [46]).2.2 = d at *
  by_cases h9 : 9 < a.length
  · rw [if_neg (fun h => by have := h.2; omega)]
    simp [h9]
  by_cases ha : a.all digB = true
  · rw [if_pos ⟨ha, by omega⟩]
    cases d with
    | false =>
      obtain rfl := hf rfl
      rw [if_neg (by decide)]
      by_cases hE : a = []
      · subst hE; simp
      · have hl : 0 < a.length := List.length_pos_iff.mpr hE
        have hs := sum_num (numV 0 a) []
        rw [sumU, Nat.add_zero] at hs
        simp [hE, h9, ha, hl, hs, numV_app]
    | true =>
      rw [if_pos rfl, ref_two]
      by_cases hb : b.all digB = true
      · rw [if_pos hb]
        by_cases hE : b = []
        · subst hE; simp
        · have hl : 0 < b.length := List.length_pos_iff.mpr hE
          have hs := sum_num (numV 0 a) b
          simp [hE, h9, ha, hb, hl, hs, numV_app]
          omega
      · rw [if_neg hb]
        by_cases hE : b = []
        · subst hE; simp at hb
        · simp [hE, h9, ha, hb]
  · rw [if_neg (fun h => ha h.1)]
    simp [ha]
end Go.Proofs.YthbmedhejlhclaaDoor.Pure
