-- A text that a changed copy of the print program wrote for this claim (NOTES.md, changed print); it is not a printed text.
import Derived.Test.YtdmebkdikminjaaQBasex0
import Derived.Test.YtdmebkdikminjaaQBasex1
namespace Go.Proofs.Ytdmebkdikminjaa.QBase
open Go.RowKit Go.Proofs.YtdmebkdikminjaaW.PrintWords Go.Proofs.YtdmebkdikminjaaW.PrintLast Go.Proofs.YtdmebkdikminjaaW.PrintMore
attribute [local go_sem] max2_int min2_int max_two min_two max_three min_three max_four min_four   -- for this text's walks alone
set_option linter.unusedVariables false
set_option linter.unusedSimpArgs false

/-! ### decorumref18_Jitter: function 44 -/
def decorumref18_Jitter.f (a0 : Int) (a1 : Int) : Option (Int) := (decorumref18_cut.f a0 0 1099511627776).bind fun t118 => ((decorumref18_cut.f a1 0 1000).bind fun t119 => (some (wrap64 ((wrap64 ((wrap64 (Int.tdiv t118 2)) + (wrap64 ((wrap64 (Int.tdiv (wrap64 (t118 - (wrap64 (Int.tdiv t118 2)))) 1000)) * t119)))) + (wrap64 (Int.tdiv (wrap64 ((Int.tmod (wrap64 (t118 - (wrap64 (Int.tdiv t118 2)))) 1000) * t119)) 1000))))))
set_option maxHeartbeats 8000000 in
set_option maxRecDepth 100000 in
theorem decorumref18_Jitter.calls (a0 : Int) (a1 : Int) (r : Int) (w : World) (h : decorumref18_Jitter.f a0 a1 = some r) :
    Calls Try.prog 44 #[.int .i64 a0, .int .i64 a1] w fun e w' => e = .returned (.int .i64 r) ∧ Drawn0 w w' := by
  have H : ((decorumref18_cut.f a0 0 1099511627776).bind fun t118 => ((decorumref18_cut.f a1 0 1000).bind fun t119 => (some (wrap64 ((wrap64 ((wrap64 (Int.tdiv t118 2)) + (wrap64 ((wrap64 (Int.tdiv (wrap64 (t118 - (wrap64 (Int.tdiv t118 2)))) 1000)) * t119)))) + (wrap64 (Int.tdiv (wrap64 ((Int.tmod (wrap64 (t118 - (wrap64 (Int.tdiv t118 2)))) 1000) * t119)) 1000))))))) = some r := h
  clear h
  replace H := Option.bind_eq_some_iff.mp H
  obtain ⟨t118, A30, H⟩ := H
  replace H : ((decorumref18_cut.f a1 0 1000).bind fun t119 => (some (wrap64 ((wrap64 ((wrap64 (Int.tdiv t118 2)) + (wrap64 ((wrap64 (Int.tdiv (wrap64 (t118 - (wrap64 (Int.tdiv t118 2)))) 1000)) * t119)))) + (wrap64 (Int.tdiv (wrap64 ((Int.tmod (wrap64 (t118 - (wrap64 (Int.tdiv t118 2)))) 1000) * t119)) 1000)))))) = some r := H
  have A3 := Aside0.mk A30
  clear A30
  replace H := Option.bind_eq_some_iff.mp H
  obtain ⟨t119, A40, H⟩ := H
  replace H : (some (wrap64 ((wrap64 ((wrap64 (Int.tdiv t118 2)) + (wrap64 ((wrap64 (Int.tdiv (wrap64 (t118 - (wrap64 (Int.tdiv t118 2)))) 1000)) * t119)))) + (wrap64 (Int.tdiv (wrap64 ((Int.tmod (wrap64 (t118 - (wrap64 (Int.tdiv t118 2)))) 1000) * t119)) 1000))))) = some r := H
  have A4 := Aside0.mk A40
  clear A40
  obtain rfl := Option.some.inj H
  go_enter Try.func44, Try.ntmps44
  go_wp2_with (first | ((with_reducible refine gate_callee (f := 42) rfl ?_); refine goesL_ (some 10) rfl rfl Try.func42 (by kernel_rfl) rfl #[.int .i64 a0, .int .i64 0, .int .i64 1099511627776] rfl (by (try simp only [List.map_toArray, List.map_cons, List.map_nil]); first | done | rfl | (simp only [List.length_drop, List.length_take]; rfl)) ?_; (with_reducible refine (decorumref18_cut.calls a0 0 1099511627776 t118 _ A3.out).mono ?_); rintro e w' ⟨rfl, ⟨nd, rfl⟩⟩; refine ⟨_, rfl, ?_⟩) | ((with_reducible refine gate_callee (f := 42) rfl ?_); refine goesL_ (some 12) rfl rfl Try.func42 (by kernel_rfl) rfl #[.int .i64 a1, .int .i64 0, .int .i64 1000] rfl (by (try simp only [List.map_toArray, List.map_cons, List.map_nil]); first | done | rfl | (simp only [List.length_drop, List.length_take]; rfl)) ?_; (with_reducible refine (decorumref18_cut.calls a1 0 1000 t119 _ A4.out).mono ?_); rintro e w' ⟨rfl, ⟨nd, rfl⟩⟩; refine ⟨_, rfl, ?_⟩))
  go_ret
  exact ⟨by first | rfl | (simp; done) | (simp [*]; done), by repeat (first | exact Drawn0.refl _ | apply Drawn0.step)⟩

/-! ### decorumref18_Most: function 45 -/
mutual
def decorumref18_Most.j0 : Nat → Int → Int → Int → Bool → Option (Int)
  | 0, _, _, _, _ => none
  | k + 1, x0, x1, x2, x14 => if x14 = true then (some 0) else ((decorumref18_cut.f x0 0 4611686018427387903).bind fun t120 => (decorumref18_Most.l0 k x1 x2 t120 1))
def decorumref18_Most.l0 : Nat → Int → Int → Int → Int → Option (Int)
  | 0, _, _, _, _ => none
  | k + 1, x1, x2, x7, x8 => if x8 < x2 then (if x8 < 16 then ((decorumref01_Add.f k x7 x7).bind fun t121 => (decorumref18_Most.l0 k x1 x2 t121 (wrap64 (x8 + 1)))) else ((decorumref18_cut.f x7 0 x1).bind fun t122 => (some t122))) else ((decorumref18_cut.f x7 0 x1).bind fun t123 => (some t123))
end
def decorumref18_Most.f (k : Nat) (a0 : Int) (a1 : Int) (a2 : Int) : Option (Int) := if a2 < 1 then (decorumref18_Most.j0 k a0 a1 a2 true) else (decorumref18_Most.j0 k a0 a1 a2 (decide (a1 < 1)))
theorem decorumref18_Most.mono_l : ∀ k, (∀ y0 y1 y2 y3, LeO (decorumref18_Most.j0 k y0 y1 y2 y3) (decorumref18_Most.j0 (k + 1) y0 y1 y2 y3)) ∧ (∀ y0 y1 y2 y3, LeO (decorumref18_Most.l0 k y0 y1 y2 y3) (decorumref18_Most.l0 (k + 1) y0 y1 y2 y3))
  | 0 => ⟨fun _ _ _ _ r h => by simp [decorumref18_Most.j0] at h, fun _ _ _ _ r h => by simp [decorumref18_Most.l0] at h⟩
  | k + 1 => by
    obtain ⟨ih0, ih1⟩ := decorumref18_Most.mono_l k
    refine ⟨?_, ?_⟩
    · intro y0 y1 y2 y3
      unfold decorumref18_Most.j0
      repeat' first
      | (with_reducible exact ih0 _ _ _ _)
      | (with_reducible exact ih1 _ _ _ _)
      | (with_reducible exact decorumref01_Add.mono _ _ _)
      | (with_reducible exact LeO.refl _)
      | (with_reducible exact LeO.none _)
      | (with_reducible refine LeO.ite ?_ ?_)
      | (with_reducible refine LeO.bind ?_ (fun _ => ?_))
      | exact ih0 _ _ _ _
      | exact ih1 _ _ _ _
      | exact decorumref01_Add.mono _ _ _
      | exact LeO.none _
      | refine LeO.ite ?_ ?_
      | refine LeO.bind ?_ (fun _ => ?_)
    · intro y0 y1 y2 y3
      unfold decorumref18_Most.l0
      repeat' first
      | (with_reducible exact ih0 _ _ _ _)
      | (with_reducible exact ih1 _ _ _ _)
      | (with_reducible exact decorumref01_Add.mono _ _ _)
      | (with_reducible exact LeO.refl _)
      | (with_reducible exact LeO.none _)
      | (with_reducible refine LeO.ite ?_ ?_)
      | (with_reducible refine LeO.bind ?_ (fun _ => ?_))
      | exact ih0 _ _ _ _
      | exact ih1 _ _ _ _
      | exact decorumref01_Add.mono _ _ _
      | exact LeO.none _
      | refine LeO.ite ?_ ?_
      | refine LeO.bind ?_ (fun _ => ?_)
theorem decorumref18_Most.mono : ∀ a0 a1 a2 k, LeO (decorumref18_Most.f k a0 a1 a2) (decorumref18_Most.f (k + 1) a0 a1 a2) := by
  intro a0 a1 a2 k
  obtain ⟨ih0, ih1⟩ := decorumref18_Most.mono_l k
  unfold decorumref18_Most.f
  repeat' first
      | (with_reducible exact ih0 _ _ _ _)
      | (with_reducible exact ih1 _ _ _ _)
      | (with_reducible exact decorumref01_Add.mono _ _ _)
      | (with_reducible exact LeO.refl _)
      | (with_reducible exact LeO.none _)
      | (with_reducible refine LeO.ite ?_ ?_)
      | (with_reducible refine LeO.bind ?_ (fun _ => ?_))
      | exact ih0 _ _ _ _
      | exact ih1 _ _ _ _
      | exact decorumref01_Add.mono _ _ _
      | exact LeO.none _
      | refine LeO.ite ?_ ?_
      | refine LeO.bind ?_ (fun _ => ?_)
set_option maxHeartbeats 8000000 in
set_option maxRecDepth 100000 in
theorem decorumref18_Most.calls (k : Nat) (a0 : Int) (a1 : Int) (a2 : Int) (r : Int) (w : World) (h : decorumref18_Most.f k a0 a1 a2 = some r) :
    Calls Try.prog 45 #[.int .i64 a0, .int .i64 a1, .int .i64 a2] w fun e w' => e = .returned (.int .i64 r) ∧ Drawn0 w w' := by
  have H : (if a2 < 1 then (decorumref18_Most.j0 k a0 a1 a2 true) else (decorumref18_Most.j0 k a0 a1 a2 (decide (a1 < 1)))) = some r := h
  clear h
  have HC4 := Aside0.mk H
  clear H
  go_enter Try.func45, Try.ntmps45
  go_upto_region 1 with (fail)
  go_cut [14] (fun v14 wc => ∃ (kq : Nat) (x14_3 : Bool), v14 = .bool x14_3 ∧ Aside0 (decorumref18_Most.j0 kq a0 a1 a2 x14_3 = some r) ∧ Aside0 (kq ≤ k) ∧ Drawn0 w wc)
  case first =>
    have H := HC4.out
    clear HC4
    by_cases c5 : a2 < 1
    · rw [if_pos c5] at H
      have c5b0 : decide (a2 < 1) = true := decide_eq_true c5
      clear c5
      (first | rw [c5b0] | (simp only [i64_w, i32_w]; rw [c5b0]) | skip)
      have H' := Aside0.mk H
      clear H
      go_wp2
      go_meet
      case rel => exact ⟨_, (true), (by first | rfl | (simp; done) | (simp [*]; done)), H', ⟨by first | omega | exact Nat.le_refl _⟩, by repeat (first | exact Drawn0.refl _ | apply Drawn0.step)⟩
    · rw [if_neg c5] at H
      have c5b0 : decide (a2 < 1) = false := decide_eq_false c5
      clear c5
      (first | rw [c5b0] | (simp only [i64_w, i32_w]; rw [c5b0]) | skip)
      have H' := Aside0.mk H
      clear H
      go_wp2
      go_meet
      case rel => exact ⟨_, (decide (a1 < 1)), (by first | rfl | (simp; done) | (simp [*]; done)), H', ⟨by first | omega | exact Nat.le_refl _⟩, by repeat (first | exact Drawn0.refl _ | apply Drawn0.step)⟩
  case rest =>
    clear HC4
    try clear p2
    try clear c4
    try clear c5
    try clear c5b0
    obtain ⟨kq, x14_3, rfl, HA, HJ3, ⟨mc3, rfl⟩⟩ := hcut
    cases kq with
    | zero => exact absurd HA.out (by simp [decorumref18_Most.j0])
    | succ kj3 =>
      have H := HA.out
      clear HA
      simp only [decorumref18_Most.j0] at H
      by_cases c6 : x14_3 = true
      · subst c6
        have H1 : (some 0) = some r := by rw [if_pos rfl] at H; exact H
        clear H
        have H := H1
        clear H1
        obtain rfl := Option.some.inj H
        go_wp2
        go_ret
        exact ⟨by first | rfl | (simp; done) | (simp [*]; done), by repeat (first | exact Drawn0.refl _ | apply Drawn0.step)⟩
      · replace c6 := Bool.eq_false_iff.mpr c6
        subst c6
        have H1 : ((decorumref18_cut.f a0 0 4611686018427387903).bind fun t120 => (decorumref18_Most.l0 kj3 a1 a2 t120 1)) = some r := by rw [if_neg (show ¬ (false = true) by decide)] at H; exact H
        clear H
        have H := H1
        clear H1
        replace H := Option.bind_eq_some_iff.mp H
        obtain ⟨t120, A70, H⟩ := H
        replace H : (decorumref18_Most.l0 kj3 a1 a2 t120 1) = some r := H
        have A7 := Aside0.mk A70
        clear A70
        have H' := Aside0.mk H
        clear H
        go_wp2_with (first | ((with_reducible refine gate_callee (f := 42) rfl ?_); refine goesL_ (some 16) rfl rfl Try.func42 (by kernel_rfl) rfl #[.int .i64 a0, .int .i64 0, .int .i64 4611686018427387903] rfl (by (try simp only [List.map_toArray, List.map_cons, List.map_nil]); first | done | rfl | (simp only [List.length_drop, List.length_take]; rfl)) ?_; (with_reducible refine (decorumref18_cut.calls a0 0 4611686018427387903 t120 _ A7.out).mono ?_); rintro e w' ⟨rfl, ⟨nd, rfl⟩⟩; refine ⟨_, rfl, ?_⟩))
        go_loopg [7, 8] kj3 (fun kq v7 v8 w' => ∃ (x7_2 : Int) (x8_2 : Int), v7 = .int .i64 x7_2 ∧ v8 = .int .i64 x8_2 ∧ Aside0 (decorumref18_Most.l0 kq a1 a2 x7_2 x8_2 = some r) ∧ Aside0 (kq ≤ kj3) ∧ Drawn0 w w')
        case atStart => exact ⟨(t120), (1), (by first | rfl | (simp; done) | (simp [*]; done)), (by first | rfl | (simp; done) | (simp [*]; done)), H', ⟨Nat.le_refl _⟩, by repeat (first | exact Drawn0.refl _ | apply Drawn0.step)⟩
        case round =>
          clear H'
          try clear p2
          try clear c3
          try clear c4
          try clear c5
          try clear c5b0
          try clear c6
          try clear p2
          obtain ⟨x7_2, x8_2, rfl, rfl, HA, HK2, ⟨m2, rfl⟩⟩ := hrel
          cases gk with
          | zero => exact absurd HA.out (by simp [decorumref18_Most.l0])
          | succ k2 =>
            have H := HA.out
            clear HA
            simp only [decorumref18_Most.l0] at H
            by_cases c8 : x8_2 < a2
            · rw [if_pos c8] at H
              have c8b0 : decide (x8_2 < a2) = true := decide_eq_true c8
              clear c8
              by_cases c9 : x8_2 < 16
              · rw [if_pos c9] at H
                have c9b0 : decide (x8_2 < 16) = true := decide_eq_true c9
                clear c9
                replace H := Option.bind_eq_some_iff.mp H
                obtain ⟨t121, A100, H⟩ := H
                replace H : (decorumref18_Most.l0 k2 a1 a2 t121 (wrap64 (x8_2 + 1))) = some r := H
                have A10 := Aside0.mk A100
                clear A100
                have H' := Aside0.mk H
                clear H
                go_wp2_with (first | ((with_reducible refine gate_callee (f := 26) rfl ?_); refine goesL_ (some 28) rfl rfl Try.func26 (by kernel_rfl) rfl #[.int .i64 x7_2, .int .i64 x7_2] rfl (by (try simp only [List.map_toArray, List.map_cons, List.map_nil]); first | done | rfl | (simp only [List.length_drop, List.length_take]; rfl)) ?_; (with_reducible refine (decorumref01_Add.calls k2 x7_2 x7_2 t121 _ A10.out).mono ?_); rintro e w' ⟨rfl, ⟨nd, rfl⟩⟩; refine ⟨_, rfl, ?_⟩))
                go_roundg k2
                case measure => have := HJ3.out; have := HK2.out; omega
                case rel => exact ⟨(t121), (wrap64 (x8_2 + 1)), (by first | rfl | (simp; done) | (simp [*]; done)), (by first | rfl | (simp; done) | (simp [*]; done)), H', ⟨by have := HJ3.out; have := HK2.out; omega⟩, by repeat (first | exact Drawn0.refl _ | apply Drawn0.step)⟩
              · rw [if_neg c9] at H
                have c9b0 : decide (x8_2 < 16) = false := decide_eq_false c9
                clear c9
                replace H := Option.bind_eq_some_iff.mp H
                obtain ⟨t122, A110, H⟩ := H
                replace H : (some t122) = some r := H
                have A11 := Aside0.mk A110
                clear A110
                obtain rfl := Option.some.inj H
                go_wp2_with (first | ((with_reducible refine gate_callee (f := 42) rfl ?_); refine goesL_ (some 31) rfl rfl Try.func42 (by kernel_rfl) rfl #[.int .i64 x7_2, .int .i64 0, .int .i64 a1] rfl (by (try simp only [List.map_toArray, List.map_cons, List.map_nil]); first | done | rfl | (simp only [List.length_drop, List.length_take]; rfl)) ?_; (with_reducible refine (decorumref18_cut.calls x7_2 0 a1 t122 _ A11.out).mono ?_); rintro e w' ⟨rfl, ⟨nd, rfl⟩⟩; refine ⟨_, rfl, ?_⟩))
                go_ret
                exact ⟨by first | rfl | (simp; done) | (simp [*]; done), by repeat (first | exact Drawn0.refl _ | apply Drawn0.step)⟩
            · rw [if_neg c8] at H
              have c8b0 : decide (x8_2 < a2) = false := decide_eq_false c8
              clear c8
              replace H := Option.bind_eq_some_iff.mp H
              obtain ⟨t123, A120, H⟩ := H
              replace H : (some t123) = some r := H
              have A12 := Aside0.mk A120
              clear A120
              obtain rfl := Option.some.inj H
              go_wp2_with (first | ((with_reducible refine gate_callee (f := 42) rfl ?_); refine goesL_ (some 31) rfl rfl Try.func42 (by kernel_rfl) rfl #[.int .i64 x7_2, .int .i64 0, .int .i64 a1] rfl (by (try simp only [List.map_toArray, List.map_cons, List.map_nil]); first | done | rfl | (simp only [List.length_drop, List.length_take]; rfl)) ?_; (with_reducible refine (decorumref18_cut.calls x7_2 0 a1 t123 _ A12.out).mono ?_); rintro e w' ⟨rfl, ⟨nd, rfl⟩⟩; refine ⟨_, rfl, ?_⟩))
              go_ret
              exact ⟨by first | rfl | (simp; done) | (simp [*]; done), by repeat (first | exact Drawn0.refl _ | apply Drawn0.step)⟩

end Go.Proofs.Ytdmebkdikminjaa.QBase
