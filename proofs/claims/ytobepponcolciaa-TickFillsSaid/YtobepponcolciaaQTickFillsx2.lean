-- A text that a changed copy of the print program wrote for this claim (NOTES.md, changed print); it is not a printed text.
import Derived.Test.YtobepponcolciaaQTickFillsx0
import Derived.Test.YtobepponcolciaaQTickFillsx1
namespace Go.Proofs.Ytobepponcolciaa.QTickFills
open Go.RowKit Go.Proofs.YtobepponcolciaaW.PrintWords Go.Proofs.YtobepponcolciaaW.PrintLast Go.Proofs.YtobepponcolciaaW.PrintMore
attribute [local go_sem] max2_int min2_int max_two min_two max_three min_three max_four min_four   -- for this text's walks alone
set_option linter.unusedVariables false
set_option linter.unusedSimpArgs false

/-! ### decorumref01_Mul: function 13 -/
mutual
def decorumref01_Mul.j0 : Nat → Int → Int → Bool → Option (Int)
  | 0, _, _, _ => none
  | k + 1, x0, x1, x17 => if x17 = true then (some 0) else (if x0 < 0 then (decorumref01_Mul.j1 k x0 x1 (wrap64 (-x0)) x1) else (decorumref01_Mul.j1 k x0 x1 x0 x1))
def decorumref01_Mul.j1 : Nat → Int → Int → Int → Int → Option (Int)
  | 0, _, _, _, _ => none
  | k + 1, x0, x1, x5, x6 => if x6 < 0 then (decorumref01_Mul.j2 k x0 x1 x5 (wrap64 (-x6))) else (decorumref01_Mul.j2 k x0 x1 x5 x6)
def decorumref01_Mul.j2 : Nat → Int → Int → Int → Int → Option (Int)
  | 0, _, _, _, _ => none
  | k + 1, x0, x1, x5, x6 => if x6 = 0 then (none) else (if x5 ≤ (wrap64 (Int.tdiv (4611686018427387903 : Int) x6)) then (if ((decide (x0 < 0)) != (decide (x1 < 0))) = true then (some (wrap64 (-(wrap64 (x5 * x6))))) else (some (wrap64 (x5 * x6)))) else (if ((decide (x0 < 0)) != (decide (x1 < 0))) = true then (some (-4611686018427387903)) else (some 4611686018427387903)))
end
def decorumref01_Mul.f (k : Nat) (a0 : Int) (a1 : Int) : Option (Int) := (decorumref01_Held.f a0).bind fun t121 => ((decorumref01_Held.f a1).bind fun t122 => (if t121 = 0 then (decorumref01_Mul.j0 k t121 t122 true) else (decorumref01_Mul.j0 k t121 t122 (t122 == 0))))
theorem decorumref01_Mul.mono_l : ∀ k, (∀ y0 y1 y2, LeO (decorumref01_Mul.j0 k y0 y1 y2) (decorumref01_Mul.j0 (k + 1) y0 y1 y2)) ∧ (∀ y0 y1 y2 y3, LeO (decorumref01_Mul.j1 k y0 y1 y2 y3) (decorumref01_Mul.j1 (k + 1) y0 y1 y2 y3)) ∧ (∀ y0 y1 y2 y3, LeO (decorumref01_Mul.j2 k y0 y1 y2 y3) (decorumref01_Mul.j2 (k + 1) y0 y1 y2 y3))
  | 0 => ⟨fun _ _ _ r h => by simp [decorumref01_Mul.j0] at h, fun _ _ _ _ r h => by simp [decorumref01_Mul.j1] at h, fun _ _ _ _ r h => by simp [decorumref01_Mul.j2] at h⟩
  | k + 1 => by
    obtain ⟨ih0, ih1, ih2⟩ := decorumref01_Mul.mono_l k
    refine ⟨?_, ?_, ?_⟩
    · intro y0 y1 y2
      unfold decorumref01_Mul.j0
      repeat' first
      | (with_reducible exact ih0 _ _ _)
      | (with_reducible exact ih1 _ _ _ _)
      | (with_reducible exact ih2 _ _ _ _)
      | (with_reducible exact LeO.refl _)
      | (with_reducible exact LeO.none _)
      | (with_reducible refine LeO.ite ?_ ?_)
      | (with_reducible refine LeO.bind ?_ (fun _ => ?_))
      | exact ih0 _ _ _
      | exact ih1 _ _ _ _
      | exact ih2 _ _ _ _
      | exact LeO.none _
      | refine LeO.ite ?_ ?_
      | refine LeO.bind ?_ (fun _ => ?_)
    · intro y0 y1 y2 y3
      unfold decorumref01_Mul.j1
      repeat' first
      | (with_reducible exact ih0 _ _ _)
      | (with_reducible exact ih1 _ _ _ _)
      | (with_reducible exact ih2 _ _ _ _)
      | (with_reducible exact LeO.refl _)
      | (with_reducible exact LeO.none _)
      | (with_reducible refine LeO.ite ?_ ?_)
      | (with_reducible refine LeO.bind ?_ (fun _ => ?_))
      | exact ih0 _ _ _
      | exact ih1 _ _ _ _
      | exact ih2 _ _ _ _
      | exact LeO.none _
      | refine LeO.ite ?_ ?_
      | refine LeO.bind ?_ (fun _ => ?_)
    · intro y0 y1 y2 y3
      unfold decorumref01_Mul.j2
      repeat' first
      | (with_reducible exact ih0 _ _ _)
      | (with_reducible exact ih1 _ _ _ _)
      | (with_reducible exact ih2 _ _ _ _)
      | (with_reducible exact LeO.refl _)
      | (with_reducible exact LeO.none _)
      | (with_reducible refine LeO.ite ?_ ?_)
      | (with_reducible refine LeO.bind ?_ (fun _ => ?_))
      | exact ih0 _ _ _
      | exact ih1 _ _ _ _
      | exact ih2 _ _ _ _
      | exact LeO.none _
      | refine LeO.ite ?_ ?_
      | refine LeO.bind ?_ (fun _ => ?_)
theorem decorumref01_Mul.mono : ∀ a0 a1 k, LeO (decorumref01_Mul.f k a0 a1) (decorumref01_Mul.f (k + 1) a0 a1) := by
  intro a0 a1 k
  obtain ⟨ih0, ih1, ih2⟩ := decorumref01_Mul.mono_l k
  unfold decorumref01_Mul.f
  repeat' first
      | (with_reducible exact ih0 _ _ _)
      | (with_reducible exact ih1 _ _ _ _)
      | (with_reducible exact ih2 _ _ _ _)
      | (with_reducible exact LeO.refl _)
      | (with_reducible exact LeO.none _)
      | (with_reducible refine LeO.ite ?_ ?_)
      | (with_reducible refine LeO.bind ?_ (fun _ => ?_))
      | exact ih0 _ _ _
      | exact ih1 _ _ _ _
      | exact ih2 _ _ _ _
      | exact LeO.none _
      | refine LeO.ite ?_ ?_
      | refine LeO.bind ?_ (fun _ => ?_)
set_option maxHeartbeats 8000000 in
set_option maxRecDepth 100000 in
theorem decorumref01_Mul.calls (k : Nat) (a0 : Int) (a1 : Int) (r : Int) (w : World) (h : decorumref01_Mul.f k a0 a1 = some r) :
    Calls Try.prog 13 #[.int .i64 a0, .int .i64 a1] w fun e w' => e = .returned (.int .i64 r) ∧ Drawn0 w w' := by
  have H : ((decorumref01_Held.f a0).bind fun t121 => ((decorumref01_Held.f a1).bind fun t122 => (if t121 = 0 then (decorumref01_Mul.j0 k t121 t122 true) else (decorumref01_Mul.j0 k t121 t122 (t122 == 0))))) = some r := h
  clear h
  replace H := Option.bind_eq_some_iff.mp H
  obtain ⟨t121, A30, H⟩ := H
  replace H : ((decorumref01_Held.f a1).bind fun t122 => (if t121 = 0 then (decorumref01_Mul.j0 k t121 t122 true) else (decorumref01_Mul.j0 k t121 t122 (t122 == 0)))) = some r := H
  have A3 := Aside0.mk A30
  clear A30
  replace H := Option.bind_eq_some_iff.mp H
  obtain ⟨t122, A40, H⟩ := H
  replace H : (if t121 = 0 then (decorumref01_Mul.j0 k t121 t122 true) else (decorumref01_Mul.j0 k t121 t122 (t122 == 0))) = some r := H
  have A4 := Aside0.mk A40
  clear A40
  have HC5 := Aside0.mk H
  clear H
  go_enter Try.func13, Try.ntmps13
  go_upto_region 2 with (first | ((with_reducible refine gate_callee (f := 14) rfl ?_); refine goesL_ (some 9) rfl rfl Try.func14 (by kernel_rfl) rfl #[.int .i64 a0] rfl (by (try simp only [List.map_toArray, List.map_cons, List.map_nil]); first | done | rfl | (simp only [List.length_drop, List.length_take]; rfl)) ?_; (with_reducible refine (decorumref01_Held.calls a0 t121 _ A3.out).mono ?_); rintro e w' ⟨rfl, ⟨nd, rfl⟩⟩; refine ⟨_, rfl, ?_⟩) | ((with_reducible refine gate_callee (f := 14) rfl ?_); refine goesL_ (some 11) rfl rfl Try.func14 (by kernel_rfl) rfl #[.int .i64 a1] rfl (by (try simp only [List.map_toArray, List.map_cons, List.map_nil]); first | done | rfl | (simp only [List.length_drop, List.length_take]; rfl)) ?_; (with_reducible refine (decorumref01_Held.calls a1 t122 _ A4.out).mono ?_); rintro e w' ⟨rfl, ⟨nd, rfl⟩⟩; refine ⟨_, rfl, ?_⟩))
  (try simp only [Act.put, List.setIfInBounds_toArray, List.set_cons_zero, List.set_cons_succ])
  go_cut [17] (fun v17 wc => ∃ (kq : Nat) (x17_4 : Bool), v17 = .bool x17_4 ∧ Aside0 (decorumref01_Mul.j0 kq t121 t122 x17_4 = some r) ∧ Aside0 (kq ≤ k) ∧ Drawn0 w wc)
  case first =>
    have H := HC5.out
    clear HC5
    by_cases c6 : t121 = 0
    · rw [if_pos c6] at H
      have c6b0 : (t121 == 0) = true := beq_iff_eq.mpr c6
      have c6b1 : (t121 != 0) = false := bne_eq_false_iff_eq.mpr c6
      clear c6
      (first | rw [c6b0] | (simp only [i64_w, i32_w]; rw [c6b0]) | skip)
      have H' := Aside0.mk H
      clear H
      go_wp2
      go_meet
      case rel => exact ⟨_, (true), (by first | rfl | (simp; done) | (simp [*]; done)), H', ⟨by first | omega | exact Nat.le_refl _⟩, by repeat (first | exact Drawn0.refl _ | apply Drawn0.step)⟩
    · rw [if_neg c6] at H
      have c6b0 : (t121 == 0) = false := beq_eq_false_iff_ne.mpr c6
      have c6b1 : (t121 != 0) = true := bne_iff_ne.mpr c6
      (first | rw [c6b0] | (simp only [i64_w, i32_w]; rw [c6b0]) | skip)
      have H' := Aside0.mk H
      clear H
      go_wp2
      go_meet
      case rel => exact ⟨_, ((t122 == 0)), (by first | rfl | (simp; done) | (simp [*]; done)), H', ⟨by first | omega | exact Nat.le_refl _⟩, by repeat (first | exact Drawn0.refl _ | apply Drawn0.step)⟩
  case rest =>
    clear HC5
    try clear c1
    try clear p2
    try clear c6
    try clear c6b0
    try clear c6b1
    obtain ⟨kq, x17_4, rfl, HA, HJ4, ⟨mc4, rfl⟩⟩ := hcut
    cases kq with
    | zero => exact absurd HA.out (by simp [decorumref01_Mul.j0])
    | succ kj4 =>
      have H := HA.out
      clear HA
      simp only [decorumref01_Mul.j0] at H
      by_cases c7 : x17_4 = true
      · subst c7
        have H1 : (some 0) = some r := by rw [if_pos rfl] at H; exact H
        clear H
        have H := H1
        clear H1
        obtain rfl := Option.some.inj H
        go_wp2
        go_ret
        exact ⟨by first | rfl | (simp; done) | (simp [*]; done), by repeat (first | exact Drawn0.refl _ | apply Drawn0.step)⟩
      · replace c7 := Bool.eq_false_iff.mpr c7
        subst c7
        have H1 : (if t121 < 0 then (decorumref01_Mul.j1 kj4 t121 t122 (wrap64 (-t121)) t122) else (decorumref01_Mul.j1 kj4 t121 t122 t121 t122)) = some r := by rw [if_neg (show ¬ (false = true) by decide)] at H; exact H
        clear H
        have H := H1
        clear H1
        have HC8 := Aside0.mk H
        clear H
        go_upto_if 21 with (fail)
        go_cut [5] (fun v5 wc => ∃ (kq : Nat) (x5_7 : Int), v5 = .int .i64 x5_7 ∧ Aside0 (decorumref01_Mul.j1 kq t121 t122 x5_7 t122 = some r) ∧ Aside0 (kq ≤ kj4) ∧ Drawn0 w wc)
        case first =>
          have H := HC8.out
          clear HC8
          by_cases c9 : t121 < 0
          · rw [if_pos c9] at H
            have c9b0 : decide (t121 < 0) = true := decide_eq_true c9
            clear c9
            (first | rw [c9b0] | (simp only [i64_w, i32_w]; rw [c9b0]) | skip)
            have H' := Aside0.mk H
            clear H
            go_wp2
            go_meet
            case rel => exact ⟨_, (wrap64 (-t121)), (by first | rfl | (simp; done) | (simp [*]; done)), H', ⟨by have := HJ4.out; first | omega | exact Nat.le_refl _⟩, by repeat (first | exact Drawn0.refl _ | apply Drawn0.step)⟩
          · rw [if_neg c9] at H
            have c9b0 : decide (t121 < 0) = false := decide_eq_false c9
            clear c9
            (first | rw [c9b0] | (simp only [i64_w, i32_w]; rw [c9b0]) | skip)
            have H' := Aside0.mk H
            clear H
            go_wp2
            go_meet
            case rel => exact ⟨_, (t121), (by first | rfl | (simp; done) | (simp [*]; done)), H', ⟨by have := HJ4.out; first | omega | exact Nat.le_refl _⟩, by repeat (first | exact Drawn0.refl _ | apply Drawn0.step)⟩
        case rest =>
          clear HC8
          try clear c1
          try clear p2
          try clear c4
          try clear c6
          try clear c6b0
          try clear c6b1
          try clear p6
          try clear c7
          try clear c9
          try clear c9b0
          try clear p2
          obtain ⟨kq, x5_7, rfl, HA, HJ7, ⟨mc7, rfl⟩⟩ := hcut
          cases kq with
          | zero => exact absurd HA.out (by simp [decorumref01_Mul.j1])
          | succ kj7 =>
            have H := HA.out
            clear HA
            simp only [decorumref01_Mul.j1] at H
            have HC10 := Aside0.mk H
            clear H
            go_upto_if 25 with (fail)
            go_cut [6] (fun v6 wc => ∃ (kq : Nat) (x6_9 : Int), v6 = .int .i64 x6_9 ∧ Aside0 (decorumref01_Mul.j2 kq t121 t122 x5_7 x6_9 = some r) ∧ Aside0 (kq ≤ kj7) ∧ Drawn0 w wc)
            case first =>
              have H := HC10.out
              clear HC10
              by_cases c11 : t122 < 0
              · rw [if_pos c11] at H
                have c11b0 : decide (t122 < 0) = true := decide_eq_true c11
                clear c11
                (first | rw [c11b0] | (simp only [i64_w, i32_w]; rw [c11b0]) | skip)
                have H' := Aside0.mk H
                clear H
                go_wp2
                go_meet
                case rel => exact ⟨_, (wrap64 (-t122)), (by first | rfl | (simp; done) | (simp [*]; done)), H', ⟨by have := HJ4.out; have := HJ7.out; first | omega | exact Nat.le_refl _⟩, by repeat (first | exact Drawn0.refl _ | apply Drawn0.step)⟩
              · rw [if_neg c11] at H
                have c11b0 : decide (t122 < 0) = false := decide_eq_false c11
                clear c11
                (first | rw [c11b0] | (simp only [i64_w, i32_w]; rw [c11b0]) | skip)
                have H' := Aside0.mk H
                clear H
                go_wp2
                go_meet
                case rel => exact ⟨_, (t122), (by first | rfl | (simp; done) | (simp [*]; done)), H', ⟨by have := HJ4.out; have := HJ7.out; first | omega | exact Nat.le_refl _⟩, by repeat (first | exact Drawn0.refl _ | apply Drawn0.step)⟩
            case rest =>
              clear HC10
              try clear c1
              try clear p2
              try clear c4
              try clear c6
              try clear c6b0
              try clear c6b1
              try clear p6
              try clear c7
              try clear c9
              try clear c9b0
              try clear c11
              try clear c11b0
              try clear p2
              try clear p6
              obtain ⟨kq, x6_9, rfl, HA, HJ9, ⟨mc9, rfl⟩⟩ := hcut
              cases kq with
              | zero => exact absurd HA.out (by simp [decorumref01_Mul.j2])
              | succ kj9 =>
                have H := HA.out
                clear HA
                simp only [decorumref01_Mul.j2] at H
                by_cases c12 : x6_9 = 0
                · rw [if_pos c12] at H
                  exact absurd H (by simp)
                · rw [if_neg c12] at H
                  have c12b0 : (x6_9 == 0) = false := beq_eq_false_iff_ne.mpr c12
                  have c12b1 : (x6_9 != 0) = true := bne_iff_ne.mpr c12
                  by_cases c13 : x5_7 ≤ (wrap64 (Int.tdiv (4611686018427387903 : Int) x6_9))
                  · rw [if_pos c13] at H
                    have c13b0 : decide (x5_7 ≤ (wrap64 (Int.tdiv (4611686018427387903 : Int) x6_9))) = true := decide_eq_true c13
                    clear c13
                    by_cases c14 : ((decide (t121 < 0)) != (decide (t122 < 0))) = true
                    · rw [if_pos c14] at H
                      have c14b0 : ((decide (t121 < 0)) != (decide (t122 < 0))) = true := c14
                      (try (have c14b1 : decide ((decide (t121 < 0)) = (decide (t122 < 0))) = false := by simpa using c14))
                      (try (have c14b2 : ((decide (t121 < 0)) == (decide (t122 < 0))) = false := by simpa using c14))
                      (try (have c14b3 : ¬ ((decide (t121 < 0)) = (decide (t122 < 0))) := by simpa using c14))
                      clear c14
                      obtain rfl := Option.some.inj H
                      go_wp2
                      go_ret
                      exact ⟨by first | rfl | (simp; done) | (simp [*]; done), by repeat (first | exact Drawn0.refl _ | apply Drawn0.step)⟩
                    · rw [if_neg c14] at H
                      have c14b0 : ((decide (t121 < 0)) != (decide (t122 < 0))) = false := by simpa using c14
                      (try (have c14b1 : decide ((decide (t121 < 0)) = (decide (t122 < 0))) = true := by simpa using c14))
                      (try (have c14b2 : ((decide (t121 < 0)) == (decide (t122 < 0))) = true := by simpa using c14))
                      clear c14
                      obtain rfl := Option.some.inj H
                      go_wp2
                      go_ret
                      exact ⟨by first | rfl | (simp; done) | (simp [*]; done), by repeat (first | exact Drawn0.refl _ | apply Drawn0.step)⟩
                  · rw [if_neg c13] at H
                    have c13b0 : decide (x5_7 ≤ (wrap64 (Int.tdiv (4611686018427387903 : Int) x6_9))) = false := decide_eq_false c13
                    clear c13
                    by_cases c15 : ((decide (t121 < 0)) != (decide (t122 < 0))) = true
                    · rw [if_pos c15] at H
                      have c15b0 : ((decide (t121 < 0)) != (decide (t122 < 0))) = true := c15
                      (try (have c15b1 : decide ((decide (t121 < 0)) = (decide (t122 < 0))) = false := by simpa using c15))
                      (try (have c15b2 : ((decide (t121 < 0)) == (decide (t122 < 0))) = false := by simpa using c15))
                      (try (have c15b3 : ¬ ((decide (t121 < 0)) = (decide (t122 < 0))) := by simpa using c15))
                      clear c15
                      obtain rfl := Option.some.inj H
                      go_wp2
                      go_ret
                      exact ⟨by first | rfl | (simp; done) | (simp [*]; done), by repeat (first | exact Drawn0.refl _ | apply Drawn0.step)⟩
                    · rw [if_neg c15] at H
                      have c15b0 : ((decide (t121 < 0)) != (decide (t122 < 0))) = false := by simpa using c15
                      (try (have c15b1 : decide ((decide (t121 < 0)) = (decide (t122 < 0))) = true := by simpa using c15))
                      (try (have c15b2 : ((decide (t121 < 0)) == (decide (t122 < 0))) = true := by simpa using c15))
                      clear c15
                      obtain rfl := Option.some.inj H
                      go_wp2
                      go_ret
                      exact ⟨by first | rfl | (simp; done) | (simp [*]; done), by repeat (first | exact Drawn0.refl _ | apply Drawn0.step)⟩

/-! ### decorumref01_Add: function 15 -/
def decorumref01_Add.j0 : Nat → Int → Int → Bool → Option (Int)
  | 0, _, _, _ => none
  | k + 1, x0, x1, x16 => if x16 = true then (some 4611686018427387903) else (if x1 < 0 then (if x0 < (wrap64 ((-4611686018427387903) - x1)) then (some (-4611686018427387903)) else (some (wrap64 (x0 + x1)))) else (some (wrap64 (x0 + x1))))
def decorumref01_Add.f (k : Nat) (a0 : Int) (a1 : Int) : Option (Int) := (decorumref01_Held.f a0).bind fun t123 => ((decorumref01_Held.f a1).bind fun t124 => (if t124 > 0 then (decorumref01_Add.j0 k t123 t124 (decide (t123 > (wrap64 (4611686018427387903 - t124))))) else (decorumref01_Add.j0 k t123 t124 false)))
theorem decorumref01_Add.mono_l : ∀ k, (∀ y0 y1 y2, LeO (decorumref01_Add.j0 k y0 y1 y2) (decorumref01_Add.j0 (k + 1) y0 y1 y2))
  | 0 => fun _ _ _ r h => by simp [decorumref01_Add.j0] at h
  | k + 1 => by
    have ih0 := decorumref01_Add.mono_l k
    · intro y0 y1 y2
      unfold decorumref01_Add.j0
      repeat' first
      | (with_reducible exact ih0 _ _ _)
      | (with_reducible exact LeO.refl _)
      | (with_reducible exact LeO.none _)
      | (with_reducible refine LeO.ite ?_ ?_)
      | (with_reducible refine LeO.bind ?_ (fun _ => ?_))
      | exact ih0 _ _ _
      | exact LeO.none _
      | refine LeO.ite ?_ ?_
      | refine LeO.bind ?_ (fun _ => ?_)
theorem decorumref01_Add.mono : ∀ a0 a1 k, LeO (decorumref01_Add.f k a0 a1) (decorumref01_Add.f (k + 1) a0 a1) := by
  intro a0 a1 k
  have ih0 := decorumref01_Add.mono_l k
  unfold decorumref01_Add.f
  repeat' first
      | (with_reducible exact ih0 _ _ _)
      | (with_reducible exact LeO.refl _)
      | (with_reducible exact LeO.none _)
      | (with_reducible refine LeO.ite ?_ ?_)
      | (with_reducible refine LeO.bind ?_ (fun _ => ?_))
      | exact ih0 _ _ _
      | exact LeO.none _
      | refine LeO.ite ?_ ?_
      | refine LeO.bind ?_ (fun _ => ?_)
set_option maxHeartbeats 8000000 in
set_option maxRecDepth 100000 in
theorem decorumref01_Add.calls (k : Nat) (a0 : Int) (a1 : Int) (r : Int) (w : World) (h : decorumref01_Add.f k a0 a1 = some r) :
    Calls Try.prog 15 #[.int .i64 a0, .int .i64 a1] w fun e w' => e = .returned (.int .i64 r) ∧ Drawn0 w w' := by
  have H : ((decorumref01_Held.f a0).bind fun t123 => ((decorumref01_Held.f a1).bind fun t124 => (if t124 > 0 then (decorumref01_Add.j0 k t123 t124 (decide (t123 > (wrap64 (4611686018427387903 - t124))))) else (decorumref01_Add.j0 k t123 t124 false)))) = some r := h
  clear h
  replace H := Option.bind_eq_some_iff.mp H
  obtain ⟨t123, A30, H⟩ := H
  replace H : ((decorumref01_Held.f a1).bind fun t124 => (if t124 > 0 then (decorumref01_Add.j0 k t123 t124 (decide (t123 > (wrap64 (4611686018427387903 - t124))))) else (decorumref01_Add.j0 k t123 t124 false))) = some r := H
  have A3 := Aside0.mk A30
  clear A30
  replace H := Option.bind_eq_some_iff.mp H
  obtain ⟨t124, A40, H⟩ := H
  replace H : (if t124 > 0 then (decorumref01_Add.j0 k t123 t124 (decide (t123 > (wrap64 (4611686018427387903 - t124))))) else (decorumref01_Add.j0 k t123 t124 false)) = some r := H
  have A4 := Aside0.mk A40
  clear A40
  have HC5 := Aside0.mk H
  clear H
  go_enter Try.func15, Try.ntmps15
  go_upto_region 2 with (first | ((with_reducible refine gate_callee (f := 14) rfl ?_); refine goesL_ (some 6) rfl rfl Try.func14 (by kernel_rfl) rfl #[.int .i64 a0] rfl (by (try simp only [List.map_toArray, List.map_cons, List.map_nil]); first | done | rfl | (simp only [List.length_drop, List.length_take]; rfl)) ?_; (with_reducible refine (decorumref01_Held.calls a0 t123 _ A3.out).mono ?_); rintro e w' ⟨rfl, ⟨nd, rfl⟩⟩; refine ⟨_, rfl, ?_⟩) | ((with_reducible refine gate_callee (f := 14) rfl ?_); refine goesL_ (some 8) rfl rfl Try.func14 (by kernel_rfl) rfl #[.int .i64 a1] rfl (by (try simp only [List.map_toArray, List.map_cons, List.map_nil]); first | done | rfl | (simp only [List.length_drop, List.length_take]; rfl)) ?_; (with_reducible refine (decorumref01_Held.calls a1 t124 _ A4.out).mono ?_); rintro e w' ⟨rfl, ⟨nd, rfl⟩⟩; refine ⟨_, rfl, ?_⟩))
  (try simp only [Act.put, List.setIfInBounds_toArray, List.set_cons_zero, List.set_cons_succ])
  go_cut [16] (fun v16 wc => ∃ (kq : Nat) (x16_4 : Bool), v16 = .bool x16_4 ∧ Aside0 (decorumref01_Add.j0 kq t123 t124 x16_4 = some r) ∧ Aside0 (kq ≤ k) ∧ Drawn0 w wc)
  case first =>
    have H := HC5.out
    clear HC5
    by_cases c6 : t124 > 0
    · rw [if_pos c6] at H
      have c6b0 : decide (0 < t124) = true := decide_eq_true c6
      clear c6
      (first | rw [c6b0] | (simp only [i64_w, i32_w]; rw [c6b0]) | skip)
      have H' := Aside0.mk H
      clear H
      go_wp2
      go_meet
      case rel => exact ⟨_, (decide (t123 > (wrap64 (4611686018427387903 - t124)))), (by first | rfl | (simp; done) | (simp [*]; done)), H', ⟨by first | omega | exact Nat.le_refl _⟩, by repeat (first | exact Drawn0.refl _ | apply Drawn0.step)⟩
    · rw [if_neg c6] at H
      have c6b0 : decide (0 < t124) = false := decide_eq_false c6
      clear c6
      (first | rw [c6b0] | (simp only [i64_w, i32_w]; rw [c6b0]) | skip)
      have H' := Aside0.mk H
      clear H
      go_wp2
      go_meet
      case rel => exact ⟨_, (false), (by first | rfl | (simp; done) | (simp [*]; done)), H', ⟨by first | omega | exact Nat.le_refl _⟩, by repeat (first | exact Drawn0.refl _ | apply Drawn0.step)⟩
  case rest =>
    clear HC5
    try clear c1
    try clear p2
    try clear c6
    try clear c6b0
    try clear p6
    obtain ⟨kq, x16_4, rfl, HA, HJ4, ⟨mc4, rfl⟩⟩ := hcut
    cases kq with
    | zero => exact absurd HA.out (by simp [decorumref01_Add.j0])
    | succ kj4 =>
      have H := HA.out
      clear HA
      simp only [decorumref01_Add.j0] at H
      by_cases c7 : x16_4 = true
      · subst c7
        have H1 : (some 4611686018427387903) = some r := by rw [if_pos rfl] at H; exact H
        clear H
        have H := H1
        clear H1
        obtain rfl := Option.some.inj H
        go_wp2
        go_ret
        exact ⟨by first | rfl | (simp; done) | (simp [*]; done), by repeat (first | exact Drawn0.refl _ | apply Drawn0.step)⟩
      · replace c7 := Bool.eq_false_iff.mpr c7
        subst c7
        have H1 : (if t124 < 0 then (if t123 < (wrap64 ((-4611686018427387903) - t124)) then (some (-4611686018427387903)) else (some (wrap64 (t123 + t124)))) else (some (wrap64 (t123 + t124)))) = some r := by rw [if_neg (show ¬ (false = true) by decide)] at H; exact H
        clear H
        have H := H1
        clear H1
        by_cases c8 : t124 < 0
        · rw [if_pos c8] at H
          have c8b0 : decide (t124 < 0) = true := decide_eq_true c8
          clear c8
          by_cases c9 : t123 < (wrap64 ((-4611686018427387903) - t124))
          · rw [if_pos c9] at H
            have c9b0 : decide (t123 < (wrap64 ((-4611686018427387903) - t124))) = true := decide_eq_true c9
            clear c9
            obtain rfl := Option.some.inj H
            go_wp2
            go_ret
            exact ⟨by first | rfl | (simp; done) | (simp [*]; done), by repeat (first | exact Drawn0.refl _ | apply Drawn0.step)⟩
          · rw [if_neg c9] at H
            have c9b0 : decide (t123 < (wrap64 ((-4611686018427387903) - t124))) = false := decide_eq_false c9
            clear c9
            obtain rfl := Option.some.inj H
            go_wp2
            go_ret
            exact ⟨by first | rfl | (simp; done) | (simp [*]; done), by repeat (first | exact Drawn0.refl _ | apply Drawn0.step)⟩
        · rw [if_neg c8] at H
          have c8b0 : decide (t124 < 0) = false := decide_eq_false c8
          clear c8
          obtain rfl := Option.some.inj H
          go_wp2
          go_ret
          exact ⟨by first | rfl | (simp; done) | (simp [*]; done), by repeat (first | exact Drawn0.refl _ | apply Drawn0.step)⟩

end Go.Proofs.Ytobepponcolciaa.QTickFills
