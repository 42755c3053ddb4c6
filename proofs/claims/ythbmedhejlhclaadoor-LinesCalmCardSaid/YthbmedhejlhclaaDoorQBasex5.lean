-- A text that a changed copy of the print program wrote for this claim (NOTES.md, changed print); it is not a printed text.
import Derived.Test.YthbmedhejlhclaaDoorQBasex0
namespace Go.Proofs.YthbmedhejlhclaaDoor.QBase
open Go.Proofs.YthbmedhejlhclaaDoor.Given
open Go.RowKit Go.Proofs.YthbmedhejlhclaaDoorW.PrintWords Go.Proofs.YthbmedhejlhclaaDoorW.PrintLast Go.Proofs.YthbmedhejlhclaaDoorW.PrintMore
attribute [local go_sem] max2_int min2_int max_two min_two max_three min_three max_four min_four   -- for this text's walks alone
set_option linter.unusedVariables false
set_option linter.unusedSimpArgs false

/-! ### decorumref09_Delay: function 14 -/
mutual
def decorumref09_Delay.l0 : Nat → ByteArray → Int → Int → Int → Int → Int → Option (Int × Bool)
  | 0, _, _, _, _, _, _ => none
  | k + 1, x0, x4, x5, x6, x7, x8 => if x8 < (x0.size : Int) then (if 0 ≤ x8 then (if (bt x0 x8) = 46 then (decorumref09_Delay.j1 k x0 x4 x5 x6 x7 x8 (bt x0 x8) (x6 == 0)) else (decorumref09_Delay.j1 k x0 x4 x5 x6 x7 x8 (bt x0 x8) false)) else (none)) else (if (wrap64 (x5 + x7)) > 0 then (if x6 = 0 then (some (x4, true)) else (some (x4, decide (x7 > 0)))) else (some (x4, false)))
def decorumref09_Delay.j1 : Nat → ByteArray → Int → Int → Int → Int → Int → Int → Bool → Option (Int × Bool)
  | 0, _, _, _, _, _, _, _, _ => none
  | k + 1, x0, x4, x5, x6, x7, x8, x9, x44 => if x44 = true then (decorumref09_Delay.l0 k x0 x4 x5 1 x7 (wrap64 (x8 + 1))) else (if x9 < 48 then (decorumref09_Delay.j2 k x0 x4 x5 x6 x7 x8 x9 true) else (decorumref09_Delay.j2 k x0 x4 x5 x6 x7 x8 x9 (decide (x9 > 57))))
def decorumref09_Delay.j2 : Nat → ByteArray → Int → Int → Int → Int → Int → Int → Bool → Option (Int × Bool)
  | 0, _, _, _, _, _, _, _, _ => none
  | k + 1, x0, x4, x5, x6, x7, x8, x9, x51 => if x51 = true then (some (0, false)) else (if x6 = 0 then (if (wrap64 (x5 + 1)) > 9 then (some (0, false)) else (decorumref09_Delay.l0 k x0 (wrap64 ((wrap64 (10 * x4)) + (1000 * ((x9 - 48) % 256)))) (wrap64 (x5 + 1)) x6 x7 (wrap64 (x8 + 1)))) else (if (wrap64 (x7 + 1)) = 1 then (decorumref09_Delay.j3 k x0 (wrap64 (x4 + (100 * ((x9 - 48) % 256)))) x5 x6 (wrap64 (x7 + 1)) x8 x9) else (decorumref09_Delay.j3 k x0 x4 x5 x6 (wrap64 (x7 + 1)) x8 x9)))
def decorumref09_Delay.j3 : Nat → ByteArray → Int → Int → Int → Int → Int → Int → Option (Int × Bool)
  | 0, _, _, _, _, _, _, _ => none
  | k + 1, x0, x4, x5, x6, x7, x8, x9 => if x7 = 2 then (if x7 = 3 then (decorumref09_Delay.l0 k x0 (wrap64 ((wrap64 (x4 + (10 * ((x9 - 48) % 256)))) + ((x9 - 48) % 256))) x5 x6 x7 (wrap64 (x8 + 1))) else (decorumref09_Delay.l0 k x0 (wrap64 (x4 + (10 * ((x9 - 48) % 256)))) x5 x6 x7 (wrap64 (x8 + 1)))) else (if x7 = 3 then (decorumref09_Delay.l0 k x0 (wrap64 (x4 + ((x9 - 48) % 256))) x5 x6 x7 (wrap64 (x8 + 1))) else (decorumref09_Delay.l0 k x0 x4 x5 x6 x7 (wrap64 (x8 + 1))))
end
def decorumref09_Delay.f (k : Nat) (a0 : ByteArray) : Option (Int × Bool) := decorumref09_Delay.l0 k a0 0 0 0 0 0
theorem decorumref09_Delay.mono_l : ∀ k, (∀ y0 y1 y2 y3 y4 y5, LeO (decorumref09_Delay.l0 k y0 y1 y2 y3 y4 y5) (decorumref09_Delay.l0 (k + 1) y0 y1 y2 y3 y4 y5)) ∧ (∀ y0 y1 y2 y3 y4 y5 y6 y7, LeO (decorumref09_Delay.j1 k y0 y1 y2 y3 y4 y5 y6 y7) (decorumref09_Delay.j1 (k + 1) y0 y1 y2 y3 y4 y5 y6 y7)) ∧ (∀ y0 y1 y2 y3 y4 y5 y6 y7, LeO (decorumref09_Delay.j2 k y0 y1 y2 y3 y4 y5 y6 y7) (decorumref09_Delay.j2 (k + 1) y0 y1 y2 y3 y4 y5 y6 y7)) ∧ (∀ y0 y1 y2 y3 y4 y5 y6, LeO (decorumref09_Delay.j3 k y0 y1 y2 y3 y4 y5 y6) (decorumref09_Delay.j3 (k + 1) y0 y1 y2 y3 y4 y5 y6))
  | 0 => ⟨fun _ _ _ _ _ _ r h => by simp [decorumref09_Delay.l0] at h, fun _ _ _ _ _ _ _ _ r h => by simp [decorumref09_Delay.j1] at h, fun _ _ _ _ _ _ _ _ r h => by simp [decorumref09_Delay.j2] at h, fun _ _ _ _ _ _ _ r h => by simp [decorumref09_Delay.j3] at h⟩
  | k + 1 => by
    obtain ⟨ih0, ih1, ih2, ih3⟩ := decorumref09_Delay.mono_l k
    refine ⟨?_, ?_, ?_, ?_⟩
    · intro y0 y1 y2 y3 y4 y5
      unfold decorumref09_Delay.l0
      repeat' first
      | (with_reducible exact ih0 _ _ _ _ _ _)
      | (with_reducible exact ih1 _ _ _ _ _ _ _ _)
      | (with_reducible exact ih2 _ _ _ _ _ _ _ _)
      | (with_reducible exact ih3 _ _ _ _ _ _ _)
      | (with_reducible exact LeO.refl _)
      | (with_reducible exact LeO.none _)
      | (with_reducible refine LeO.ite ?_ ?_)
      | (with_reducible refine LeO.bind ?_ (fun _ => ?_))
      | exact ih0 _ _ _ _ _ _
      | exact ih1 _ _ _ _ _ _ _ _
      | exact ih2 _ _ _ _ _ _ _ _
      | exact ih3 _ _ _ _ _ _ _
      | exact LeO.none _
      | refine LeO.ite ?_ ?_
      | refine LeO.bind ?_ (fun _ => ?_)
    · intro y0 y1 y2 y3 y4 y5 y6 y7
      unfold decorumref09_Delay.j1
      repeat' first
      | (with_reducible exact ih0 _ _ _ _ _ _)
      | (with_reducible exact ih1 _ _ _ _ _ _ _ _)
      | (with_reducible exact ih2 _ _ _ _ _ _ _ _)
      | (with_reducible exact ih3 _ _ _ _ _ _ _)
      | (with_reducible exact LeO.refl _)
      | (with_reducible exact LeO.none _)
      | (with_reducible refine LeO.ite ?_ ?_)
      | (with_reducible refine LeO.bind ?_ (fun _ => ?_))
      | exact ih0 _ _ _ _ _ _
      | exact ih1 _ _ _ _ _ _ _ _
      | exact ih2 _ _ _ _ _ _ _ _
      | exact ih3 _ _ _ _ _ _ _
      | exact LeO.none _
      | refine LeO.ite ?_ ?_
      | refine LeO.bind ?_ (fun _ => ?_)
    · intro y0 y1 y2 y3 y4 y5 y6 y7
      unfold decorumref09_Delay.j2
      repeat' first
      | (with_reducible exact ih0 _ _ _ _ _ _)
      | (with_reducible exact ih1 _ _ _ _ _ _ _ _)
      | (with_reducible exact ih2 _ _ _ _ _ _ _ _)
      | (with_reducible exact ih3 _ _ _ _ _ _ _)
      | (with_reducible exact LeO.refl _)
      | (with_reducible exact LeO.none _)
      | (with_reducible refine LeO.ite ?_ ?_)
      | (with_reducible refine LeO.bind ?_ (fun _ => ?_))
      | exact ih0 _ _ _ _ _ _
      | exact ih1 _ _ _ _ _ _ _ _
      | exact ih2 _ _ _ _ _ _ _ _
      | exact ih3 _ _ _ _ _ _ _
      | exact LeO.none _
      | refine LeO.ite ?_ ?_
      | refine LeO.bind ?_ (fun _ => ?_)
    · intro y0 y1 y2 y3 y4 y5 y6
      unfold decorumref09_Delay.j3
      repeat' first
      | (with_reducible exact ih0 _ _ _ _ _ _)
      | (with_reducible exact ih1 _ _ _ _ _ _ _ _)
      | (with_reducible exact ih2 _ _ _ _ _ _ _ _)
      | (with_reducible exact ih3 _ _ _ _ _ _ _)
      | (with_reducible exact LeO.refl _)
      | (with_reducible exact LeO.none _)
      | (with_reducible refine LeO.ite ?_ ?_)
      | (with_reducible refine LeO.bind ?_ (fun _ => ?_))
      | exact ih0 _ _ _ _ _ _
      | exact ih1 _ _ _ _ _ _ _ _
      | exact ih2 _ _ _ _ _ _ _ _
      | exact ih3 _ _ _ _ _ _ _
      | exact LeO.none _
      | refine LeO.ite ?_ ?_
      | refine LeO.bind ?_ (fun _ => ?_)
theorem decorumref09_Delay.mono : ∀ a0 k, LeO (decorumref09_Delay.f k a0) (decorumref09_Delay.f (k + 1) a0) := by
  intro a0 k
  obtain ⟨ih0, ih1, ih2, ih3⟩ := decorumref09_Delay.mono_l k
  unfold decorumref09_Delay.f
  repeat' first
      | (with_reducible exact ih0 _ _ _ _ _ _)
      | (with_reducible exact ih1 _ _ _ _ _ _ _ _)
      | (with_reducible exact ih2 _ _ _ _ _ _ _ _)
      | (with_reducible exact ih3 _ _ _ _ _ _ _)
      | (with_reducible exact LeO.refl _)
      | (with_reducible exact LeO.none _)
      | (with_reducible refine LeO.ite ?_ ?_)
      | (with_reducible refine LeO.bind ?_ (fun _ => ?_))
      | exact ih0 _ _ _ _ _ _
      | exact ih1 _ _ _ _ _ _ _ _
      | exact ih2 _ _ _ _ _ _ _ _
      | exact ih3 _ _ _ _ _ _ _
      | exact LeO.none _
      | refine LeO.ite ?_ ?_
      | refine LeO.bind ?_ (fun _ => ?_)
set_option maxHeartbeats 8000000 in
set_option maxRecDepth 100000 in
theorem decorumref09_Delay.calls (k : Nat) (a0 : ByteArray) (r1 : Int) (r2 : Bool) (w : World) (h : decorumref09_Delay.f k a0 = some (r1, r2)) :
    Calls Tryd.prog 14 #[.string a0] w fun e w' => e = .returned (.tuple #[.int .i64 r1, .bool r2]) ∧ Drawn0 w w' := by
  have H : (decorumref09_Delay.l0 k a0 0 0 0 0 0) = some (r1, r2) := h
  clear h
  have H' := Aside0.mk H
  clear H
  go_enter Tryd.func14, Tryd.ntmps14
  go_wp2
  go_loopg [4, 5, 6, 7, 8] k (fun kq v4 v5 v6 v7 v8 w' => ∃ (x4_1 : Int) (x5_1 : Int) (x6_1 : Int) (x7_1 : Int) (x8_1 : Int), v4 = .int .i64 x4_1 ∧ v5 = .int .i64 x5_1 ∧ v6 = .int .i64 x6_1 ∧ v7 = .int .i64 x7_1 ∧ v8 = .int .i64 x8_1 ∧ Aside0 (decorumref09_Delay.l0 kq a0 x4_1 x5_1 x6_1 x7_1 x8_1 = some (r1, r2)) ∧ Aside0 (kq ≤ k) ∧ Drawn0 w w')
  case atStart => exact ⟨(0), (0), (0), (0), (0), (by first | rfl | (simp; done) | (simp [*]; done)), (by first | rfl | (simp; done) | (simp [*]; done)), (by first | rfl | (simp; done) | (simp [*]; done)), (by first | rfl | (simp; done) | (simp [*]; done)), (by first | rfl | (simp; done) | (simp [*]; done)), H', ⟨Nat.le_refl _⟩, by repeat (first | exact Drawn0.refl _ | apply Drawn0.step)⟩
  case round =>
    clear H'
    try clear c1
    obtain ⟨x4_1, x5_1, x6_1, x7_1, x8_1, rfl, rfl, rfl, rfl, rfl, HA, HK1, ⟨m1, rfl⟩⟩ := hrel
    cases gk with
    | zero => exact absurd HA.out (by simp [decorumref09_Delay.l0])
    | succ k1 =>
      have H := HA.out
      clear HA
      simp only [decorumref09_Delay.l0] at H
      by_cases c2 : x8_1 < (a0.size : Int)
      · rw [if_pos c2] at H
        have c2b0 : decide (x8_1 < (a0.size : Int)) = true := decide_eq_true c2
        clear c2
        by_cases c3 : 0 ≤ x8_1
        · rw [if_pos c3] at H
          have c3b0 : decide (0 ≤ x8_1) = true := decide_eq_true c3
          clear c3
          have HC5 := Aside0.mk H
          clear H
          have p4 : 0 ≤ (x8_1 : Int) := of_decide_eq_true (by first | (with_reducible assumption) | assumption)
          have q4 : x8_1 < (a0.size : Int) := of_decide_eq_true (by first | (with_reducible assumption) | assumption)
          have hx4 := bt_at a0 x8_1
          replace p4 := eq_true p4
          replace q4 := eq_true q4
          go_upto_region 13 with (fail)
          go_cut [44] (fun v44 wc => ∃ (kq : Nat) (x44_4 : Bool), v44 = .bool x44_4 ∧ Aside0 (decorumref09_Delay.j1 kq a0 x4_1 x5_1 x6_1 x7_1 x8_1 (bt a0 x8_1) x44_4 = some (r1, r2)) ∧ Aside0 (kq ≤ k1) ∧ Drawn0 w wc)
          case first =>
            have H := HC5.out
            clear HC5
            by_cases c6 : (bt a0 x8_1) = 46
            · rw [if_pos c6] at H
              have c6b0 : ((bt a0 x8_1) == 46) = true := beq_iff_eq.mpr c6
              have c6b1 : ((bt a0 x8_1) != 46) = false := bne_eq_false_iff_eq.mpr c6
              clear c6
              (first | rw [c6b0] | (simp only [i64_w, i32_w]; rw [c6b0]) | skip)
              have H' := Aside0.mk H
              clear H
              go_wp2
              go_meet
              case rel => exact ⟨_, ((x6_1 == 0)), (by first | rfl | (simp; done) | (simp [*]; done)), H', ⟨by have := HK1.out; first | omega | exact Nat.le_refl _⟩, by repeat (first | exact Drawn0.refl _ | apply Drawn0.step)⟩
            · rw [if_neg c6] at H
              have c6b0 : ((bt a0 x8_1) == 46) = false := beq_eq_false_iff_ne.mpr c6
              have c6b1 : ((bt a0 x8_1) != 46) = true := bne_iff_ne.mpr c6
              (first | rw [c6b0] | (simp only [i64_w, i32_w]; rw [c6b0]) | skip)
              have H' := Aside0.mk H
              clear H
              go_wp2
              go_meet
              case rel => exact ⟨_, (false), (by first | rfl | (simp; done) | (simp [*]; done)), H', ⟨by have := HK1.out; first | omega | exact Nat.le_refl _⟩, by repeat (first | exact Drawn0.refl _ | apply Drawn0.step)⟩
          case rest =>
            clear HC5
            try clear c1
            try clear c2
            try clear c2b0
            try clear p2
            try clear c3
            try clear c3b0
            try clear p4
            try clear q4
            try clear hx4
            try clear c6
            try clear c6b0
            try clear c6b1
            try clear p4
            try clear q4
            obtain ⟨kq, x44_4, rfl, HA, HJ4, ⟨mc4, rfl⟩⟩ := hcut
            cases kq with
            | zero => exact absurd HA.out (by simp [decorumref09_Delay.j1])
            | succ kj4 =>
              have H := HA.out
              clear HA
              simp only [decorumref09_Delay.j1] at H
              by_cases c7 : x44_4 = true
              · subst c7
                have H1 : (decorumref09_Delay.l0 kj4 a0 x4_1 x5_1 1 x7_1 (wrap64 (x8_1 + 1))) = some (r1, r2) := by rw [if_pos rfl] at H; exact H
                clear H
                have H := H1
                clear H1
                have H' := Aside0.mk H
                clear H
                go_wp2
                go_roundg kj4
                case measure => have := HK1.out; have := HJ4.out; omega
                case rel => exact ⟨(x4_1), (x5_1), (1), (x7_1), (wrap64 (x8_1 + 1)), (by first | rfl | (simp; done) | (simp [*]; done)), (by first | rfl | (simp; done) | (simp [*]; done)), (by first | rfl | (simp; done) | (simp [*]; done)), (by first | rfl | (simp; done) | (simp [*]; done)), (by first | rfl | (simp; done) | (simp [*]; done)), H', ⟨by have := HK1.out; have := HJ4.out; omega⟩, by repeat (first | exact Drawn0.refl _ | apply Drawn0.step)⟩
              · replace c7 := Bool.eq_false_iff.mpr c7
                subst c7
                have H1 : (if (bt a0 x8_1) < 48 then (decorumref09_Delay.j2 kj4 a0 x4_1 x5_1 x6_1 x7_1 x8_1 (bt a0 x8_1) true) else (decorumref09_Delay.j2 kj4 a0 x4_1 x5_1 x6_1 x7_1 x8_1 (bt a0 x8_1) (decide ((bt a0 x8_1) > 57)))) = some (r1, r2) := by rw [if_neg (show ¬ (false = true) by decide)] at H; exact H
                clear H
                have H := H1
                clear H1
                have HC8 := Aside0.mk H
                clear H
                go_upto_region 15 with (fail)
                go_cut [51] (fun v51 wc => ∃ (kq : Nat) (x51_7 : Bool), v51 = .bool x51_7 ∧ Aside0 (decorumref09_Delay.j2 kq a0 x4_1 x5_1 x6_1 x7_1 x8_1 (bt a0 x8_1) x51_7 = some (r1, r2)) ∧ Aside0 (kq ≤ kj4) ∧ Drawn0 w wc)
                case first =>
                  have H := HC8.out
                  clear HC8
                  by_cases c9 : (bt a0 x8_1) < 48
                  · rw [if_pos c9] at H
                    have c9b0 : decide ((bt a0 x8_1) < 48) = true := decide_eq_true c9
                    clear c9
                    (first | rw [c9b0] | (simp only [i64_w, i32_w]; rw [c9b0]) | skip)
                    have H' := Aside0.mk H
                    clear H
                    go_wp2
                    go_meet
                    case rel => exact ⟨_, (true), (by first | rfl | (simp; done) | (simp [*]; done)), H', ⟨by have := HK1.out; have := HJ4.out; first | omega | exact Nat.le_refl _⟩, by repeat (first | exact Drawn0.refl _ | apply Drawn0.step)⟩
                  · rw [if_neg c9] at H
                    have c9b0 : decide ((bt a0 x8_1) < 48) = false := decide_eq_false c9
                    clear c9
                    (first | rw [c9b0] | (simp only [i64_w, i32_w]; rw [c9b0]) | skip)
                    have H' := Aside0.mk H
                    clear H
                    go_wp2
                    go_meet
                    case rel => exact ⟨_, (decide ((bt a0 x8_1) > 57)), (by first | rfl | (simp; done) | (simp [*]; done)), H', ⟨by have := HK1.out; have := HJ4.out; first | omega | exact Nat.le_refl _⟩, by repeat (first | exact Drawn0.refl _ | apply Drawn0.step)⟩
                case rest =>
                  clear HC8
                  try clear c1
                  try clear c2
                  try clear c2b0
                  try clear p2
                  try clear c3
                  try clear c3b0
                  try clear c4
                  try clear p4
                  try clear q4
                  try clear hx4
                  try clear c6
                  try clear c6b0
                  try clear c6b1
                  try clear p6
                  try clear c7
                  try clear c9
                  try clear c9b0
                  try clear p2
                  try clear p4
                  try clear q4
                  obtain ⟨kq, x51_7, rfl, HA, HJ7, ⟨mc7, rfl⟩⟩ := hcut
                  cases kq with
                  | zero => exact absurd HA.out (by simp [decorumref09_Delay.j2])
                  | succ kj7 =>
                    have H := HA.out
                    clear HA
                    simp only [decorumref09_Delay.j2] at H
                    by_cases c10 : x51_7 = true
                    · subst c10
                      have H1 : (some (0, false)) = some (r1, r2) := by rw [if_pos rfl] at H; exact H
                      clear H
                      have H := H1
                      clear H1
                      simp only [Option.some.injEq, Prod.mk.injEq] at H
                      obtain ⟨rfl, rfl⟩ := H
                      go_wp2
                      go_ret2
                      exact ⟨by first | rfl | (simp; done) | (simp [*]; done), by repeat (first | exact Drawn0.refl _ | apply Drawn0.step)⟩
                    · replace c10 := Bool.eq_false_iff.mpr c10
                      subst c10
                      have H1 : (if x6_1 = 0 then (if (wrap64 (x5_1 + 1)) > 9 then (some (0, false)) else (decorumref09_Delay.l0 kj7 a0 (wrap64 ((wrap64 (10 * x4_1)) + (1000 * (((bt a0 x8_1) - 48) % 256)))) (wrap64 (x5_1 + 1)) x6_1 x7_1 (wrap64 (x8_1 + 1)))) else (if (wrap64 (x7_1 + 1)) = 1 then (decorumref09_Delay.j3 kj7 a0 (wrap64 (x4_1 + (100 * (((bt a0 x8_1) - 48) % 256)))) x5_1 x6_1 (wrap64 (x7_1 + 1)) x8_1 (bt a0 x8_1)) else (decorumref09_Delay.j3 kj7 a0 x4_1 x5_1 x6_1 (wrap64 (x7_1 + 1)) x8_1 (bt a0 x8_1)))) = some (r1, r2) := by rw [if_neg (show ¬ (false = true) by decide)] at H; exact H
                      clear H
                      have H := H1
                      clear H1
                      by_cases c11 : x6_1 = 0
                      · rw [if_pos c11] at H
                        have c11b0 : (x6_1 == 0) = true := beq_iff_eq.mpr c11
                        have c11b1 : (x6_1 != 0) = false := bne_eq_false_iff_eq.mpr c11
                        clear c11
                        by_cases c12 : (wrap64 (x5_1 + 1)) > 9
                        · rw [if_pos c12] at H
                          have c12b0 : decide (9 < (wrap64 (x5_1 + 1))) = true := decide_eq_true c12
                          clear c12
                          simp only [Option.some.injEq, Prod.mk.injEq] at H
                          obtain ⟨rfl, rfl⟩ := H
                          go_wp2
                          go_ret2
                          exact ⟨by first | rfl | (simp; done) | (simp [*]; done), by repeat (first | exact Drawn0.refl _ | apply Drawn0.step)⟩
                        · rw [if_neg c12] at H
                          have c12b0 : decide (9 < (wrap64 (x5_1 + 1))) = false := decide_eq_false c12
                          clear c12
                          have H' := Aside0.mk H
                          clear H
                          go_wp2
                          go_roundg kj7
                          case measure => have := HK1.out; have := HJ4.out; have := HJ7.out; omega
                          case rel => exact ⟨(wrap64 ((wrap64 (10 * x4_1)) + (1000 * (((bt a0 x8_1) - 48) % 256)))), (wrap64 (x5_1 + 1)), (x6_1), (x7_1), (wrap64 (x8_1 + 1)), (by first | rfl | (simp; done) | (simp [*]; done)), (by first | rfl | (simp; done) | (simp [*]; done)), (by first | rfl | (simp; done) | (simp [*]; done)), (by first | rfl | (simp; done) | (simp [*]; done)), (by first | rfl | (simp; done) | (simp [*]; done)), H', ⟨by have := HK1.out; have := HJ4.out; have := HJ7.out; omega⟩, by repeat (first | exact Drawn0.refl _ | apply Drawn0.step)⟩
                      · rw [if_neg c11] at H
                        have c11b0 : (x6_1 == 0) = false := beq_eq_false_iff_ne.mpr c11
                        have c11b1 : (x6_1 != 0) = true := bne_iff_ne.mpr c11
                        have HC13 := Aside0.mk H
                        clear H
                        go_upto_if 22 with (fail)
                        go_cut [4] (fun v4 wc => ∃ (kq : Nat) (x4_12 : Int), v4 = .int .i64 x4_12 ∧ Aside0 (decorumref09_Delay.j3 kq a0 x4_12 x5_1 x6_1 (wrap64 (x7_1 + 1)) x8_1 (bt a0 x8_1) = some (r1, r2)) ∧ Aside0 (kq ≤ kj7) ∧ Drawn0 w wc)
                        case first =>
                          have H := HC13.out
                          clear HC13
                          by_cases c14 : (wrap64 (x7_1 + 1)) = 1
                          · rw [if_pos c14] at H
                            have c14b0 : ((wrap64 (x7_1 + 1)) == 1) = true := beq_iff_eq.mpr c14
                            have c14b1 : ((wrap64 (x7_1 + 1)) != 1) = false := bne_eq_false_iff_eq.mpr c14
                            clear c14
                            (first | rw [c14b0] | (simp only [i64_w, i32_w]; rw [c14b0]) | skip)
                            have H' := Aside0.mk H
                            clear H
                            go_wp2
                            go_meet
                            case rel => exact ⟨_, (wrap64 (x4_1 + (100 * (((bt a0 x8_1) - 48) % 256)))), (by first | rfl | (simp; done) | (simp [*]; done)), H', ⟨by have := HK1.out; have := HJ4.out; have := HJ7.out; first | omega | exact Nat.le_refl _⟩, by repeat (first | exact Drawn0.refl _ | apply Drawn0.step)⟩
                          · rw [if_neg c14] at H
                            have c14b0 : ((wrap64 (x7_1 + 1)) == 1) = false := beq_eq_false_iff_ne.mpr c14
                            have c14b1 : ((wrap64 (x7_1 + 1)) != 1) = true := bne_iff_ne.mpr c14
                            (first | rw [c14b0] | (simp only [i64_w, i32_w]; rw [c14b0]) | skip)
                            have H' := Aside0.mk H
                            clear H
                            go_wp2
                            go_meet
                            case rel => exact ⟨_, (x4_1), (by first | rfl | (simp; done) | (simp [*]; done)), H', ⟨by have := HK1.out; have := HJ4.out; have := HJ7.out; first | omega | exact Nat.le_refl _⟩, by repeat (first | exact Drawn0.refl _ | apply Drawn0.step)⟩
                        case rest =>
                          clear HC13
                          try clear c1
                          try clear c2
                          try clear c2b0
                          try clear p2
                          try clear c3
                          try clear c3b0
                          try clear c4
                          try clear p4
                          try clear q4
                          try clear hx4
                          try clear c6
                          try clear c6b0
                          try clear c6b1
                          try clear p6
                          try clear c7
                          try clear c9
                          try clear c9b0
                          try clear c10
                          try clear c11
                          try clear c11b0
                          try clear c11b1
                          try clear c12
                          try clear c12b0
                          try clear c14
                          try clear c14b0
                          try clear c14b1
                          try clear p2
                          try clear p4
                          try clear p6
                          try clear q4
                          obtain ⟨kq, x4_12, rfl, HA, HJ12, ⟨mc12, rfl⟩⟩ := hcut
                          cases kq with
                          | zero => exact absurd HA.out (by simp [decorumref09_Delay.j3])
                          | succ kj12 =>
                            have H := HA.out
                            clear HA
                            simp only [decorumref09_Delay.j3] at H
                            by_cases c15 : (wrap64 (x7_1 + 1)) = 2
                            · rw [if_pos c15] at H
                              have c15b0 : ((wrap64 (x7_1 + 1)) == 2) = true := beq_iff_eq.mpr c15
                              have c15b1 : ((wrap64 (x7_1 + 1)) != 2) = false := bne_eq_false_iff_eq.mpr c15
                              clear c15
                              by_cases c16 : (wrap64 (x7_1 + 1)) = 3
                              · rw [if_pos c16] at H
                                have c16b0 : ((wrap64 (x7_1 + 1)) == 3) = true := beq_iff_eq.mpr c16
                                have c16b1 : ((wrap64 (x7_1 + 1)) != 3) = false := bne_eq_false_iff_eq.mpr c16
                                clear c16
                                have H' := Aside0.mk H
                                clear H
                                go_wp2
                                go_roundg kj12
                                case measure => have := HK1.out; have := HJ4.out; have := HJ7.out; have := HJ12.out; omega
                                case rel => exact ⟨(wrap64 ((wrap64 (x4_12 + (10 * (((bt a0 x8_1) - 48) % 256)))) + (((bt a0 x8_1) - 48) % 256))), (x5_1), (x6_1), ((wrap64 (x7_1 + 1))), (wrap64 (x8_1 + 1)), (by first | rfl | (simp; done) | (simp [*]; done)), (by first | rfl | (simp; done) | (simp [*]; done)), (by first | rfl | (simp; done) | (simp [*]; done)), (by first | rfl | (simp; done) | (simp [*]; done)), (by first | rfl | (simp; done) | (simp [*]; done)), H', ⟨by have := HK1.out; have := HJ4.out; have := HJ7.out; have := HJ12.out; omega⟩, by repeat (first | exact Drawn0.refl _ | apply Drawn0.step)⟩
                              · rw [if_neg c16] at H
                                have c16b0 : ((wrap64 (x7_1 + 1)) == 3) = false := beq_eq_false_iff_ne.mpr c16
                                have c16b1 : ((wrap64 (x7_1 + 1)) != 3) = true := bne_iff_ne.mpr c16
                                have H' := Aside0.mk H
                                clear H
                                go_wp2
                                go_roundg kj12
                                case measure => have := HK1.out; have := HJ4.out; have := HJ7.out; have := HJ12.out; omega
                                case rel => exact ⟨(wrap64 (x4_12 + (10 * (((bt a0 x8_1) - 48) % 256)))), (x5_1), (x6_1), ((wrap64 (x7_1 + 1))), (wrap64 (x8_1 + 1)), (by first | rfl | (simp; done) | (simp [*]; done)), (by first | rfl | (simp; done) | (simp [*]; done)), (by first | rfl | (simp; done) | (simp [*]; done)), (by first | rfl | (simp; done) | (simp [*]; done)), (by first | rfl | (simp; done) | (simp [*]; done)), H', ⟨by have := HK1.out; have := HJ4.out; have := HJ7.out; have := HJ12.out; omega⟩, by repeat (first | exact Drawn0.refl _ | apply Drawn0.step)⟩
                            · rw [if_neg c15] at H
                              have c15b0 : ((wrap64 (x7_1 + 1)) == 2) = false := beq_eq_false_iff_ne.mpr c15
                              have c15b1 : ((wrap64 (x7_1 + 1)) != 2) = true := bne_iff_ne.mpr c15
                              by_cases c17 : (wrap64 (x7_1 + 1)) = 3
                              · rw [if_pos c17] at H
                                have c17b0 : ((wrap64 (x7_1 + 1)) == 3) = true := beq_iff_eq.mpr c17
                                have c17b1 : ((wrap64 (x7_1 + 1)) != 3) = false := bne_eq_false_iff_eq.mpr c17
                                clear c17
                                have H' := Aside0.mk H
                                clear H
                                go_wp2
                                go_roundg kj12
                                case measure => have := HK1.out; have := HJ4.out; have := HJ7.out; have := HJ12.out; omega
                                case rel => exact ⟨(wrap64 (x4_12 + (((bt a0 x8_1) - 48) % 256))), (x5_1), (x6_1), ((wrap64 (x7_1 + 1))), (wrap64 (x8_1 + 1)), (by first | rfl | (simp; done) | (simp [*]; done)), (by first | rfl | (simp; done) | (simp [*]; done)), (by first | rfl | (simp; done) | (simp [*]; done)), (by first | rfl | (simp; done) | (simp [*]; done)), (by first | rfl | (simp; done) | (simp [*]; done)), H', ⟨by have := HK1.out; have := HJ4.out; have := HJ7.out; have := HJ12.out; omega⟩, by repeat (first | exact Drawn0.refl _ | apply Drawn0.step)⟩
                              · rw [if_neg c17] at H
                                have c17b0 : ((wrap64 (x7_1 + 1)) == 3) = false := beq_eq_false_iff_ne.mpr c17
                                have c17b1 : ((wrap64 (x7_1 + 1)) != 3) = true := bne_iff_ne.mpr c17
                                have H' := Aside0.mk H
                                clear H
                                go_wp2
                                go_roundg kj12
                                case measure => have := HK1.out; have := HJ4.out; have := HJ7.out; have := HJ12.out; omega
                                case rel => exact ⟨(x4_12), (x5_1), (x6_1), ((wrap64 (x7_1 + 1))), (wrap64 (x8_1 + 1)), (by first | rfl | (simp; done) | (simp [*]; done)), (by first | rfl | (simp; done) | (simp [*]; done)), (by first | rfl | (simp; done) | (simp [*]; done)), (by first | rfl | (simp; done) | (simp [*]; done)), (by first | rfl | (simp; done) | (simp [*]; done)), H', ⟨by have := HK1.out; have := HJ4.out; have := HJ7.out; have := HJ12.out; omega⟩, by repeat (first | exact Drawn0.refl _ | apply Drawn0.step)⟩
        · rw [if_neg c3] at H
          exact absurd H (by simp)
      · rw [if_neg c2] at H
        have c2b0 : decide (x8_1 < (a0.size : Int)) = false := decide_eq_false c2
        clear c2
        by_cases c18 : (wrap64 (x5_1 + x7_1)) > 0
        · rw [if_pos c18] at H
          have c18b0 : decide (0 < (wrap64 (x5_1 + x7_1))) = true := decide_eq_true c18
          clear c18
          by_cases c19 : x6_1 = 0
          · rw [if_pos c19] at H
            have c19b0 : (x6_1 == 0) = true := beq_iff_eq.mpr c19
            have c19b1 : (x6_1 != 0) = false := bne_eq_false_iff_eq.mpr c19
            clear c19
            simp only [Option.some.injEq, Prod.mk.injEq] at H
            obtain ⟨rfl, rfl⟩ := H
            go_wp2
            go_ret2
            exact ⟨by first | rfl | (simp; done) | (simp [*]; done), by repeat (first | exact Drawn0.refl _ | apply Drawn0.step)⟩
          · rw [if_neg c19] at H
            have c19b0 : (x6_1 == 0) = false := beq_eq_false_iff_ne.mpr c19
            have c19b1 : (x6_1 != 0) = true := bne_iff_ne.mpr c19
            simp only [Option.some.injEq, Prod.mk.injEq] at H
            obtain ⟨rfl, rfl⟩ := H
            go_wp2
            go_ret2
            exact ⟨by first | rfl | (simp; done) | (simp [*]; done), by repeat (first | exact Drawn0.refl _ | apply Drawn0.step)⟩
        · rw [if_neg c18] at H
          have c18b0 : decide (0 < (wrap64 (x5_1 + x7_1))) = false := decide_eq_false c18
          clear c18
          simp only [Option.some.injEq, Prod.mk.injEq] at H
          obtain ⟨rfl, rfl⟩ := H
          go_wp2
          go_ret2
          exact ⟨by first | rfl | (simp; done) | (simp [*]; done), by repeat (first | exact Drawn0.refl _ | apply Drawn0.step)⟩

-- NOT PRINTED: function 17 (decorumref09_Groups)

/-! ### decorumlaw09_pairs: function 9 -/
def decorumlaw09_pairs.l0 : Nat → List (S40) → List (S28) → Int → Option ((List (S28)))
  | 0, _, _, _ => none
  | k + 1, x0, x3, x4 => if x4 < (x0.length : Int) then (if 0 ≤ x4 then (if x3.length < 4398046511104 then (decorumlaw09_pairs.l0 k x0 (x3 ++ [(⟨(rd_T40 x0 x4).f0, (rd_T40 x0 x4).f1⟩ : S28)]) (wrap64 (x4 + 1))) else (none)) else (none)) else (some x3)
def decorumlaw09_pairs.f (k : Nat) (l0 : List (S40)) : Option ((List (S28))) := decorumlaw09_pairs.l0 k l0 (([] : List (S28))) 0
theorem decorumlaw09_pairs.mono_l : ∀ k, (∀ y0 y1 y2, LeO (decorumlaw09_pairs.l0 k y0 y1 y2) (decorumlaw09_pairs.l0 (k + 1) y0 y1 y2))
  | 0 => fun _ _ _ r h => by simp [decorumlaw09_pairs.l0] at h
  | k + 1 => by
    have ih0 := decorumlaw09_pairs.mono_l k
    · intro y0 y1 y2
      unfold decorumlaw09_pairs.l0
      repeat' first
      | (with_reducible exact ih0 _ _ _)
      | (with_reducible exact LeO.refl _)
      | (with_reducible exact LeO.none _)
      | (with_reducible refine LeO.ite ?_ ?_)
      | (with_reducible refine LeO.bind ?_ (fun _ => ?_))
      | exact ih0 _ _ _
      | exact LeO.none _
      | refine LeO.ite ?_ ?_
      | refine LeO.bind ?_ (fun _ => ?_)
theorem decorumlaw09_pairs.mono : ∀ a0 k, LeO (decorumlaw09_pairs.f k a0) (decorumlaw09_pairs.f (k + 1) a0) := by
  intro a0 k
  have ih0 := decorumlaw09_pairs.mono_l k
  unfold decorumlaw09_pairs.f
  repeat' first
      | (with_reducible exact ih0 _ _ _)
      | (with_reducible exact LeO.refl _)
      | (with_reducible exact LeO.none _)
      | (with_reducible refine LeO.ite ?_ ?_)
      | (with_reducible refine LeO.bind ?_ (fun _ => ?_))
      | exact ih0 _ _ _
      | exact LeO.none _
      | refine LeO.ite ?_ ?_
      | refine LeO.bind ?_ (fun _ => ?_)
def decorumlaw09_pairs.T5 : Bool × List (List Nat × List Nat) := (true, [([], []), ([], []), ([], []), ([1, 2], [1, 2]), ([3], [3]), ([4], [4]), ([], []), ([], []), ([6, 7], [6, 7]), ([8], [8]), ([9], [9]), ([5, 10], [5, 10]), ([11], [11]), ([0, 12], [0, 12]), ([13, 13, 0, 1, 2, 3, 4, 5, 6, 7, 8, 9, 10, 11, 12, 13], [0, 13])])
def decorumlaw09_pairs.B5 : List Nat := [0, 0, 0, 6, 14, 30, 0, 0, 192, 448, 960, 2046, 4094, 8191, 16383]
theorem decorumlaw09_pairs.tab5 : rtab .any (opsOf Tryd.f9 5) = decorumlaw09_pairs.T5 := by kernel_rfl
theorem decorumlaw09_pairs.bits5 : waitsOk decorumlaw09_pairs.T5.2 decorumlaw09_pairs.B5 = true := by kernel_rfl
set_option maxHeartbeats 8000000 in
set_option maxRecDepth 100000 in
theorem decorumlaw09_pairs.calls (k : Nat) (A0 : Option Addr) (c0 : Nat) (l0 : List (S40)) (r : List (S28)) (w : World) (hr0 : Kd.C k40 w A0 l0.length l0) (hc0 : l0.length ≤ c0) (h : decorumlaw09_pairs.f k l0 = some r) :
    Calls Tryd.prog 9 #[.slice A0 l0.length c0] w fun e w' => ∃ v0_ : Value, e = .returned (v0_) ∧ Kd.R k28 28 w' w.heap.size (fun _ => True) v0_ r ∧ Below w.heap.size w w' := by
  have hu28 := Tryd.underlying28
  have HR0 := Aside0.mk hr0
  have HC0 := Aside0.mk hc0
  clear hr0 hc0
  have HB := Aside0.mk (Below.refl w.heap.size w)
  have H : (decorumlaw09_pairs.l0 k l0 (([] : List (S28))) 0) = some r := h
  clear h
  obtain ⟨y152, hy152⟩ : ∃ y_ : List (S28), y_ = (([] : List (S28))) := ⟨_, rfl⟩
  replace H : (decorumlaw09_pairs.l0 k l0 y152 0) = some r := by first | (rw [hy152]; with_reducible exact H) | (have H2_ := (Option.bind_some _ _).symm.trans H; rw [hy152]; with_reducible exact H2_) | (have H2_ := (Option.bind_some _ _).symm.trans H; with_reducible exact H2_) | with_reducible exact H | (rw [hy152]; exact H) | exact H
  have Ny152 := Aside0.mk hy152
  clear hy152
  have H' := Aside0.mk H
  clear H
  go_enter Tryd.func9, Tryd.ntmps9
  go_wp2_with (first | ((with_reducible refine gate_dst (N := 5) rfl ?_); refine Kd.R_lit k28 _ 28 ?hg (N := 5) ?hd (xs := ([] : List (S28))) (inner := []) (ok := fun _ => True) (okp := fun _ => True) ?hr ?hp (fun _ hk => hk) trivial (Below.refl _ _) (Nat.le_refl _) (by simp) ?_; (case hd => rfl); (case hg => rfl); (case hr => first | (go_simp; done) | (go_simp; rfl)); (case hp => exact (Reps.none _ _)); intro v153 w2 ho3 hb hg_ hnew_; clear hg_ hnew_; (first | rw [← Ny152.out] at ho3 | (simp only [Int.reduceToNat] at ho3; rw [← Ny152.out] at ho3)); have n0_ := Aside0.mk (Kd.R_lower ho3 (below_size (by repeat (first | (with_reducible first | exact HB.out | apply below_alloc | apply pw_below_drewN | apply below_drew1) | exact HB.out)))); have n1_ := Aside0.mk (below_step (by repeat (first | (with_reducible first | exact HB.out | apply below_alloc | apply pw_below_drewN | apply below_drew1) | exact HB.out)) hb); clear HB; have HO154 := n0_; have HB := n1_; clear n0_ n1_; clear hb ho3))
  go_loopg [3, 4] k (fun kq v3 v4 w' => ∃ (x3_1 : List (S28)) (x4_1 : Int), v4 = .int .i64 x4_1 ∧ Aside0 (decorumlaw09_pairs.l0 kq l0 x3_1 x4_1 = some r) ∧ Aside0 (kq ≤ k) ∧ Aside0 (Kd.R k28 28 w' w.heap.size (fun _ => True) v3 x3_1) ∧ Aside0 (Below w.heap.size w w'))
  case atStart => exact ⟨(y152), (0), (by first | rfl | (simp; done) | (simp [*]; done)), H', ⟨Nat.le_refl _⟩, ⟨by (with_reducible repeat (first | apply Kd.R_alloc | apply Kd.R_drewN | apply Kd.R_drew)); exact HO154.out⟩, ⟨by repeat (first | (with_reducible first | exact HB.out | apply below_alloc | apply pw_below_drewN | apply below_drew1) | exact HB.out)⟩⟩
  case round =>
    clear H'
    try clear p2
    obtain ⟨x3_1, x4_1, rfl, HA, HK1, HO_3, HB⟩ := hrel
    cases gk with
    | zero => exact absurd HA.out (by simp [decorumlaw09_pairs.l0])
    | succ k1 =>
      have H := HA.out
      clear HA
      simp only [decorumlaw09_pairs.l0] at H
      by_cases c4 : x4_1 < (l0.length : Int)
      · rw [if_pos c4] at H
        have c4b0 : decide (x4_1 < (l0.length : Int)) = true := decide_eq_true c4
        clear c4
        by_cases c5 : 0 ≤ x4_1
        · rw [if_pos c5] at H
          have c5b0 : decide (0 ≤ x4_1) = true := decide_eq_true c5
          clear c5
          by_cases c6 : x3_1.length < 4398046511104
          · rw [if_pos c6] at H
            have LMc6 := Aside0.mk c6
            clear c6
            obtain ⟨y157, hy157⟩ : ∃ y_ : List (S28), y_ = (x3_1 ++ [(⟨(rd_T40 l0 x4_1).f0, (rd_T40 l0 x4_1).f1⟩ : S28)]) := ⟨_, rfl⟩
            replace H : (decorumlaw09_pairs.l0 k1 l0 y157 (wrap64 (x4_1 + 1))) = some r := by first | (rw [hy157]; with_reducible exact H) | (have H2_ := (Option.bind_some _ _).symm.trans H; rw [hy157]; with_reducible exact H2_) | (have H2_ := (Option.bind_some _ _).symm.trans H; with_reducible exact H2_) | with_reducible exact H | (rw [hy157]; exact H) | exact H
            have Ny157 := Aside0.mk hy157
            clear hy157
            have H' := Aside0.mk H
            clear H
            try go_wp2
            have n0_ := Aside0.mk (Kd.R_drew HO_3.out)
            have n1_ := Aside0.mk (below_drew1 HB.out)
            clear HO_3
            clear HB
            have HO_3 := n0_
            have HB := n1_
            clear n0_ n1_
            have p155 : 0 ≤ (x4_1 : Int) := of_decide_eq_true (by first | (with_reducible assumption) | assumption)
            have q155 : x4_1 < (l0.length : Int) := of_decide_eq_true (by first | (with_reducible assumption) | assumption)
            obtain ⟨ad155, e155, hx155_0, hx155_1⟩ := at_T40 HR0.out x4_1 p155 q155
            have hw155_1 := hx155_1
            have hw155_0 := hx155_0
            cases e155
            replace hx155_0 := (HB.out.cell (World.block_lt_of_cell? w _ hx155_0)).trans hx155_0
            replace hx155_1 := (HB.out.cell (World.block_lt_of_cell? w _ hx155_1)).trans hx155_1
            replace p155 := eq_true p155
            replace q155 := eq_true q155
            have p156 : 0 ≤ (x4_1 : Int) := of_decide_eq_true (by first | (with_reducible assumption) | assumption)
            have q156 : x4_1 < (l0.length : Int) := of_decide_eq_true (by first | (with_reducible assumption) | assumption)
            obtain ⟨ad156, e156, hx156_0, hx156_1⟩ := at_T40 HR0.out x4_1 p156 q156
            have hw156_1 := hx156_1
            have hw156_0 := hx156_0
            obtain rfl : ad155 = ad156 := (by injection e156)
            replace hx156_0 := (HB.out.cell (World.block_lt_of_cell? w _ hx156_0)).trans hx156_0
            replace hx156_1 := (HB.out.cell (World.block_lt_of_cell? w _ hx156_1)).trans hx156_1
            replace p156 := eq_true p156
            replace q156 := eq_true q156
            refine start_ (n := 15) (S := fun w' => w'.cell? (ad155.add ((x4_1).toNat * 2)) = some (.string ((rd_T40 l0 x4_1).f0)) ∧ w'.cell? ⟨(ad155.add ((x4_1).toNat * 2)).block, (ad155.add ((x4_1).toNat * 2)).off + 1, none⟩ = some (.string ((rd_T40 l0 x4_1).f1)) ∧ w'.cell? (ad155.add ((x4_1).toNat * 2)) = some (.string ((rd_T40 l0 x4_1).f0)) ∧ w'.cell? ⟨(ad155.add ((x4_1).toNat * 2)).block, (ad155.add ((x4_1).toNat * 2)).off + 1, none⟩ = some (.string ((rd_T40 l0 x4_1).f1))) (ds := []) #[false, false, false, false, false, false, false, false, false, false, false, false, false, false, false] (by kernel_rfl) rfl rfl ⟨((HB.out.cell (World.block_lt_of_cell? w _ hw155_0)).trans hw155_0), ((HB.out.cell (World.block_lt_of_cell? w _ hw155_1)).trans hw155_1), ((HB.out.cell (World.block_lt_of_cell? w _ hw156_0)).trans hw156_0), ((HB.out.cell (World.block_lt_of_cell? w _ hw156_1)).trans hw156_1)⟩ (fun hHeld => ?_); refine with_tabW decorumlaw09_pairs.tab5 decorumlaw09_pairs.bits5 (fun HT_ HW_ => ?_)
            generalize wr.drew = w7 at HO_3 HB hx155_0 hx155_1 hx156_0 hx156_1 hHeld ⊢
            refine pure_ (i := 0) (N := some 12) (v := ?_) (a' := ?_) #[true, false, false, false, false, false, false, false, false, false, false, false, false, false, false] rfl rfl (any_of HT_.out (by kernel_rfl)) (fun _ _ _ h => h) (Or.inl ⟨by rfl, ?_⟩) ?_ ?_
            rotate_left
            · intro w'
              go_simp
              with_reducible rfl
            rotate_left
            · simp only [Act.put, List.setIfInBounds_toArray, List.set_cons_zero, List.set_cons_succ, i64_w, i32_w]
              rfl
            refine pure_ (i := 1) (N := some 13) (v := ?_) (a' := ?_) #[true, true, false, false, false, false, false, false, false, false, false, false, false, false, false] rfl rfl (any_of HT_.out (by kernel_rfl)) (fun _ _ _ h => h) (Or.inl ⟨by rfl, ?_⟩) ?_ ?_
            rotate_left
            · intro w'
              go_simp
              with_reducible rfl
            rotate_left
            · simp only [Act.put, List.setIfInBounds_toArray, List.set_cons_zero, List.set_cons_succ, i64_w, i32_w]
              rfl
            refine pure_ (i := 2) (N := some 14) (v := ?_) (a' := ?_) #[true, true, true, false, false, false, false, false, false, false, false, false, false, false, false] rfl rfl (any_of HT_.out (by kernel_rfl)) (fun _ _ _ h => h) (Or.inl ⟨by rfl, ?_⟩) ?_ ?_
            rotate_left
            · intro w'
              go_simp
              with_reducible rfl
            rotate_left
            · simp only [Act.put, List.setIfInBounds_toArray, List.set_cons_zero, List.set_cons_succ, i64_w, i32_w]
              rfl
            refine pure_ (i := 3) (N := some 15) (v := ?_) (a' := ?_) #[true, true, true, true, false, false, false, false, false, false, false, false, false, false, false] rfl rfl (any_of HT_.out (by kernel_rfl)) (fun _ _ _ h => h) (Or.inl ⟨by rfl, ?_⟩) ?_ ?_
            rotate_left
            · intro w'
              go_simp
              with_reducible rfl
            rotate_left
            · simp only [Act.put, List.setIfInBounds_toArray, List.set_cons_zero, List.set_cons_succ, i64_w, i32_w]
              rfl
            refine pure_ (i := 4) (N := some 16) (v := ?_) (a' := ?_) #[true, true, true, true, true, false, false, false, false, false, false, false, false, false, false] rfl rfl (any_of HT_.out (by kernel_rfl)) (fun _ _ _ h => h) (Or.inl ⟨by rfl, ?_⟩) ?_ ?_
            rotate_left
            · intro w'
              go_simp
              with_reducible rfl
            rotate_left
            · simp only [Act.put, List.setIfInBounds_toArray, List.set_cons_zero, List.set_cons_succ, i64_w, i32_w]
              rfl
            refine pure_ (i := 6) (N := some 18) (v := ?_) (a' := ?_) #[true, true, true, true, true, false, true, false, false, false, false, false, false, false, false] rfl rfl (any_of HT_.out (by kernel_rfl)) (fun _ _ _ h => h) (Or.inl ⟨by rfl, ?_⟩) ?_ ?_
            rotate_left
            · intro w'
              go_simp
              with_reducible rfl
            rotate_left
            · simp only [Act.put, List.setIfInBounds_toArray, List.set_cons_zero, List.set_cons_succ, i64_w, i32_w]
              rfl
            refine pure_ (i := 7) (N := some 19) (v := ?_) (a' := ?_) #[true, true, true, true, true, false, true, true, false, false, false, false, false, false, false] rfl rfl (any_of HT_.out (by kernel_rfl)) (fun _ _ _ h => h) (Or.inl ⟨by rfl, ?_⟩) ?_ ?_
            rotate_left
            · intro w'
              go_simp
              with_reducible rfl
            rotate_left
            · simp only [Act.put, List.setIfInBounds_toArray, List.set_cons_zero, List.set_cons_succ, i64_w, i32_w]
              rfl
            refine pure_ (i := 8) (N := some 20) (v := ?_) (a' := ?_) #[true, true, true, true, true, false, true, true, true, false, false, false, false, false, false] rfl rfl (any_of HT_.out (by kernel_rfl)) (fun _ _ _ h => h) (Or.inl ⟨by rfl, ?_⟩) ?_ ?_
            rotate_left
            · intro w'
              go_simp
              with_reducible rfl
            rotate_left
            · simp only [Act.put, List.setIfInBounds_toArray, List.set_cons_zero, List.set_cons_succ, i64_w, i32_w]
              rfl
            refine pure_ (i := 9) (N := some 21) (v := ?_) (a' := ?_) #[true, true, true, true, true, false, true, true, true, true, false, false, false, false, false] rfl rfl (any_of HT_.out (by kernel_rfl)) (fun _ _ _ h => h) (Or.inl ⟨by rfl, ?_⟩) ?_ ?_
            rotate_left
            · intro w'
              go_simp
              with_reducible rfl
            rotate_left
            · simp only [Act.put, List.setIfInBounds_toArray, List.set_cons_zero, List.set_cons_succ, i64_w, i32_w]
              rfl
            refine take_ (i := 5) (N := some 17) (v := ?_) (a' := ?_) #[true, true, true, true, true, true, true, true, true, true, false, false, false, false, false] rfl rfl (take_ofW HT_.out HW_.out (by kernel_rfl)) (fun _ _ _ h => h) (Or.inl ⟨by rfl, ?_⟩) hHeld ?_ ?_
            rotate_left
            · rintro w' ⟨s0, s1, s2, s3⟩
              go_simp
              with_reducible rfl
            rotate_left
            · simp only [Act.put, List.setIfInBounds_toArray, List.set_cons_zero, List.set_cons_succ, i64_w, i32_w]
              rfl
            refine take_ (i := 10) (N := some 22) (v := ?_) (a' := ?_) #[true, true, true, true, true, true, true, true, true, true, true, false, false, false, false] rfl rfl (take_ofW HT_.out HW_.out (by kernel_rfl)) (fun _ _ _ h => h) (Or.inl ⟨by rfl, ?_⟩) hHeld ?_ ?_
            rotate_left
            · rintro w' ⟨s0, s1, s2, s3⟩
              go_simp
              with_reducible rfl
            rotate_left
            · simp only [Act.put, List.setIfInBounds_toArray, List.set_cons_zero, List.set_cons_succ, i64_w, i32_w]
              rfl
            refine pure_ (i := 11) (N := some 23) (v := ?_) (a' := ?_) #[true, true, true, true, true, true, true, true, true, true, true, true, false, false, false] rfl rfl (any_of HT_.out (by kernel_rfl)) (fun _ _ _ h => h) (Or.inl ⟨by rfl, ?_⟩) ?_ ?_
            rotate_left
            · intro w'
              go_simp
              with_reducible rfl
            rotate_left
            · simp only [Act.put, List.setIfInBounds_toArray, List.set_cons_zero, List.set_cons_succ, i64_w, i32_w]
              rfl
            refine one_ (i := 12) (N := some 24) #[true, true, true, true, true, true, true, true, true, true, true, true, true, false, false] rfl rfl (one_of HT_.out (by kernel_rfl)) (by decide) (fun K hK => ?_)
            refine value_ (w1 := ?_) (v := ?_) (by rfl) rfl ?_ ?_
            rotate_left 2
            · go_simp
              constructor
              · rfl
              · rfl
            refine hK.out _ _ ⟨(World.cell?_alloc_lt _ _ _ (World.block_lt_of_cell? _ _ (((HB.out.cell (World.block_lt_of_cell? w _ hw155_0)).trans hw155_0)))).trans (((HB.out.cell (World.block_lt_of_cell? w _ hw155_0)).trans hw155_0)), (World.cell?_alloc_lt _ _ _ (World.block_lt_of_cell? _ _ (((HB.out.cell (World.block_lt_of_cell? w _ hw155_1)).trans hw155_1)))).trans (((HB.out.cell (World.block_lt_of_cell? w _ hw155_1)).trans hw155_1)), (World.cell?_alloc_lt _ _ _ (World.block_lt_of_cell? _ _ (((HB.out.cell (World.block_lt_of_cell? w _ hw156_0)).trans hw156_0)))).trans (((HB.out.cell (World.block_lt_of_cell? w _ hw156_0)).trans hw156_0)), (World.cell?_alloc_lt _ _ _ (World.block_lt_of_cell? _ _ (((HB.out.cell (World.block_lt_of_cell? w _ hw156_1)).trans hw156_1)))).trans (((HB.out.cell (World.block_lt_of_cell? w _ hw156_1)).trans hw156_1))⟩ (fun hHeld => ?_)
            clear hK K
            refine norm_ (a' := ?_) ?_ ?_
            rotate_left
            · show Act.put _ (some 24) _ = _
              simp only [Act.put, List.setIfInBounds_toArray, List.set_cons_zero, List.set_cons_succ, i64_w, i32_w]
              rfl
            refine one_ (i := 13) (N := some 25) #[true, true, true, true, true, true, true, true, true, true, true, true, true, true, false] rfl rfl (one_of HT_.out (by kernel_rfl)) (by decide) (fun K hK => ?_)
            refine Kd.R_append_step k28 (w0 := w) w.heap.size (by rfl) (.tmp 12) (.tmp 24) 22 28 (.agg #[(.string ⟨#[]⟩), (.string ⟨#[]⟩)]) 32 rfl Tryd.underlying22 info28 rfl (by decide) (by omega) u3 x3_1 (⟨(rd_T40 l0 x4_1).f0, (rd_T40 l0 x4_1).f1⟩ : S28) [.string ((rd_T40 l0 x4_1).f0), .string ((rd_T40 l0 x4_1).f1)] (fun _ => True) (fun _ => False) rfl rfl ?aP (fun _ hk => hk.elim) ?aF ?aO ?aB ?aS ?aL ?_
            (case aP => exact k28_mkM _ _ _ (⟨(rd_T40 l0 x4_1).f0, (rd_T40 l0 x4_1).f1⟩ : S28))
            (case aB => exact (by repeat (first | (with_reducible first | exact HB.out | apply below_alloc | apply pw_below_drewN | apply below_drew1) | exact HB.out)))
            (case aF => exact (fun _ _ => trivial))
            (case aO => exact (by (with_reducible repeat (first | apply Kd.R_alloc | apply Kd.R_drewN | apply Kd.R_drew)); exact HO_3.out))
            (case aS => exact (below_size (by repeat (first | (with_reducible first | exact HB.out | apply below_alloc | apply pw_below_drewN | apply below_drew1) | exact HB.out))))
            (case aL => have := LMc6.out; omega)
            intro v158 w8 ho hb hg hat
            rw [← Ny157.out] at ho
            have n0_ := Aside0.mk (hb)
            have n1_ := Aside0.mk (ho)
            clear HB
            clear HO_3
            have HB := n0_
            have HO159 := n1_
            clear n0_ n1_
            clear ho hb hg hat
            refine hK.out _ _ ⟨((HB.out.cell (World.block_lt_of_cell? w _ hw155_0)).trans hw155_0), ((HB.out.cell (World.block_lt_of_cell? w _ hw155_1)).trans hw155_1), ((HB.out.cell (World.block_lt_of_cell? w _ hw156_0)).trans hw156_0), ((HB.out.cell (World.block_lt_of_cell? w _ hw156_1)).trans hw156_1)⟩ (fun hHeld => ?_)
            clear hK K
            refine norm_ (a' := ?_) ?_ ?_
            rotate_left
            · show Act.put _ (some 25) _ = _
              simp only [Act.put, List.setIfInBounds_toArray, List.set_cons_zero, List.set_cons_succ, i64_w, i32_w]
              rfl
            refine pure_ (i := 14) (N := some 3) (v := ?_) (a' := ?_) #[true, true, true, true, true, true, true, true, true, true, true, true, true, true, true] rfl rfl (any_of HT_.out (by kernel_rfl)) (fun _ _ _ h => h) (Or.inl ⟨by rfl, ?_⟩) ?_ ?_
            rotate_left
            · intro w'
              go_simp
              with_reducible rfl
            rotate_left
            · simp only [Act.put, List.setIfInBounds_toArray, List.set_cons_zero, List.set_cons_succ, i64_w, i32_w]
              rfl
            refine done_ (done_of HT_.out (by kernel_rfl)) ?_
            try go_wp2
            go_roundg k1
            case measure => have := HK1.out; omega
            case rel => exact ⟨(y157), (wrap64 (x4_1 + 1)), (by first | rfl | (simp; done) | (simp [*]; done)), H', ⟨by have := HK1.out; omega⟩, ⟨by (with_reducible repeat (first | apply Kd.R_alloc | apply Kd.R_drewN | apply Kd.R_drew)); exact HO159.out⟩, ⟨by repeat (first | (with_reducible first | exact HB.out | apply below_alloc | apply pw_below_drewN | apply below_drew1) | exact HB.out)⟩⟩
          · rw [if_neg c6] at H
            exact absurd H (by simp)
        · rw [if_neg c5] at H
          exact absurd H (by simp)
      · rw [if_neg c4] at H
        have c4b0 : decide (x4_1 < (l0.length : Int)) = false := decide_eq_false c4
        clear c4
        obtain rfl := Option.some.inj H
        go_wp2
        go_ret
        exact ⟨_, by first | rfl | (simp [errW_none, errW_some] <;> rfl) | (simp [*, errW_none, errW_some] <;> rfl) | (simp [wrap64]; done) | (simp [errW_none, errW_some] <;> exact empty_bne _), by (with_reducible repeat (first | apply Kd.R_alloc | apply Kd.R_drewN | apply Kd.R_drew)); exact HO_3.out, by repeat (first | (with_reducible first | exact HB.out | apply below_alloc | apply pw_below_drewN | apply below_drew1) | exact HB.out)⟩

end Go.Proofs.YthbmedhejlhclaaDoor.QBase
