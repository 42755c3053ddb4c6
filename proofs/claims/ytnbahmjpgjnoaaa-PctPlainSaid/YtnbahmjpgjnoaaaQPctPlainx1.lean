-- A text that a changed copy of the print program wrote for this claim (NOTES.md, changed print); it is not a printed text.
import Derived.Test.YtnbahmjpgjnoaaaQPctPlainx0
namespace Go.Proofs.Ytnbahmjpgjnoaaa.QPctPlain
open Go.Proofs.Ytnbahmjpgjnoaaa.Given Go.Proofs.Ytnbahmjpgjnoaaa.QBase Go.Proofs.Ytnbahmjpgjnoaaa.QMid
open Go.RowKit Go.Proofs.YtnbahmjpgjnoaaaW.PrintWords Go.Proofs.YtnbahmjpgjnoaaaW.PrintLast Go.Proofs.YtnbahmjpgjnoaaaW.PrintMore
attribute [local go_sem] max2_int min2_int max_two min_two max_three min_three max_four min_four   -- for this text's walks alone
set_option linter.unusedVariables false
set_option linter.unusedSimpArgs false

/-! ### decorumlaw04_PctPlain: function 7 -/
mutual
def decorumlaw04_PctPlain.j0 : Nat → ByteArray → Option (Bool)
  | 0, _ => none
  | k + 1, x0 => (pct_Norm.f x0).bind fun bt101 => (decorumlaw04_PctPlain.l0 k x0 bt101.1 0)
def decorumlaw04_PctPlain.l0 : Nat → ByteArray → ByteArray → Int → Option (Bool)
  | 0, _, _, _ => none
  | k + 1, x0, x3, x5 => if x5 < (x3.size : Int) then (if 0 ≤ x5 then (if (bt x3 x5) ≤ 32 then (some false) else (if (bt x3 x5) ≥ 127 then (some false) else (if (bt x3 x5) = 34 then (some false) else (if (bt x3 x5) = 60 then (some false) else (if (bt x3 x5) = 62 then (some false) else (if (bt x3 x5) = 92 then (some false) else (if (bt x3 x5) = 94 then (some false) else (if (bt x3 x5) = 123 then (some false) else (if (bt x3 x5) = 125 then (some false) else (if (bt x3 x5) = 124 then (some false) else (if (bt x3 x5) = 35 then (some false) else (if (bt x3 x5) = 96 then (some false) else (decorumlaw04_PctPlain.l0 k x0 x3 (wrap64 (x5 + 1))))))))))))))) else (none)) else ((decorumlaw04_awake.f k).bind fun t103 => (if t103 = true then (some (decide ((x3.size : Int) ≤ (wrap64 (3 * (x0.size : Int)))))) else (some false)))
end
def decorumlaw04_PctPlain.f (k : Nat) (a0 : ByteArray) : Option (Bool) := if (a0.size : Int) > 1000 then (if 0 ≤ 1000 then (if 1000 ≤ (a0.size : Int) then (decorumlaw04_PctPlain.j0 k (a0.extract 0 1000)) else (none)) else (none)) else (decorumlaw04_PctPlain.j0 k a0)
theorem decorumlaw04_PctPlain.mono_l : ∀ k, (∀ y0, LeO (decorumlaw04_PctPlain.j0 k y0) (decorumlaw04_PctPlain.j0 (k + 1) y0)) ∧ (∀ y0 y1 y2, LeO (decorumlaw04_PctPlain.l0 k y0 y1 y2) (decorumlaw04_PctPlain.l0 (k + 1) y0 y1 y2))
  | 0 => ⟨fun _ r h => by simp [decorumlaw04_PctPlain.j0] at h, fun _ _ _ r h => by simp [decorumlaw04_PctPlain.l0] at h⟩
  | k + 1 => by
    obtain ⟨ih0, ih1⟩ := decorumlaw04_PctPlain.mono_l k
    refine ⟨?_, ?_⟩
    · intro y0
      unfold decorumlaw04_PctPlain.j0
      repeat' first
      | (with_reducible exact ih0 _)
      | (with_reducible exact ih1 _ _ _)
      | (with_reducible exact decorumlaw04_awake.mono _)
      | (with_reducible exact LeO.refl _)
      | (with_reducible exact LeO.none _)
      | (with_reducible refine LeO.ite ?_ ?_)
      | (with_reducible refine LeO.bind ?_ (fun _ => ?_))
      | exact ih0 _
      | exact ih1 _ _ _
      | exact decorumlaw04_awake.mono _
      | exact LeO.none _
      | refine LeO.ite ?_ ?_
      | refine LeO.bind ?_ (fun _ => ?_)
    · intro y0 y1 y2
      unfold decorumlaw04_PctPlain.l0
      repeat' first
      | (with_reducible exact ih0 _)
      | (with_reducible exact ih1 _ _ _)
      | (with_reducible exact decorumlaw04_awake.mono _)
      | (with_reducible exact LeO.refl _)
      | (with_reducible exact LeO.none _)
      | (with_reducible refine LeO.ite ?_ ?_)
      | (with_reducible refine LeO.bind ?_ (fun _ => ?_))
      | exact ih0 _
      | exact ih1 _ _ _
      | exact decorumlaw04_awake.mono _
      | exact LeO.none _
      | refine LeO.ite ?_ ?_
      | refine LeO.bind ?_ (fun _ => ?_)
theorem decorumlaw04_PctPlain.mono : ∀ a0 k, LeO (decorumlaw04_PctPlain.f k a0) (decorumlaw04_PctPlain.f (k + 1) a0) := by
  intro a0 k
  obtain ⟨ih0, ih1⟩ := decorumlaw04_PctPlain.mono_l k
  unfold decorumlaw04_PctPlain.f
  repeat' first
      | (with_reducible exact ih0 _)
      | (with_reducible exact ih1 _ _ _)
      | (with_reducible exact decorumlaw04_awake.mono _)
      | (with_reducible exact LeO.refl _)
      | (with_reducible exact LeO.none _)
      | (with_reducible refine LeO.ite ?_ ?_)
      | (with_reducible refine LeO.bind ?_ (fun _ => ?_))
      | exact ih0 _
      | exact ih1 _ _ _
      | exact decorumlaw04_awake.mono _
      | exact LeO.none _
      | refine LeO.ite ?_ ?_
      | refine LeO.bind ?_ (fun _ => ?_)
set_option maxHeartbeats 8000000 in
set_option maxRecDepth 100000 in
theorem decorumlaw04_PctPlain.calls (k : Nat) (a0 : ByteArray) (r : Bool) (w : World) (hr_ : r = true) (h : decorumlaw04_PctPlain.f k a0 = some r) :
    Calls Try.prog 7 #[.string a0] w fun e w' => e = .returned (.bool r) ∧ Below w.heap.size w w' := by
  have HR_ := Aside0.mk (hr_)
  have HB := Aside0.mk (Below.refl w.heap.size w)
  have H : (if (a0.size : Int) > 1000 then (if 0 ≤ 1000 then (if 1000 ≤ (a0.size : Int) then (decorumlaw04_PctPlain.j0 k (a0.extract 0 1000)) else (none)) else (none)) else (decorumlaw04_PctPlain.j0 k a0)) = some r := h
  clear h
  have HC2 := Aside0.mk H
  clear H
  go_enter Try.func7, Try.ntmps7
  go_upto_if 9 with (fail)
  go_cut [0] (fun v0 wc => ∃ (kq : Nat) (x0_1 : ByteArray), v0 = .string x0_1 ∧ Aside0 (decorumlaw04_PctPlain.j0 kq x0_1 = some r) ∧ Aside0 (kq ≤ k) ∧ Aside0 (Below w.heap.size w wc))
  case first =>
    have H := HC2.out
    clear HC2
    by_cases c3 : (a0.size : Int) > 1000
    · rw [if_pos c3] at H
      have c3b0 : decide (1000 < (a0.size : Int)) = true := decide_eq_true c3
      have c3b1 : decide (1000 < a0.size) = true := decide_eq_true (by omega)
      clear c3
      (first | rw [c3b0] | (simp only [i64_w, i32_w]; rw [c3b0]) | skip)
      by_cases c4 : 0 ≤ 1000
      · rw [if_pos c4] at H
        have c4b0 := eq_true c4
        have c4b1 : decide (0 ≤ 1000) = true := decide_eq_true c4
        clear c4
        by_cases c5 : 1000 ≤ (a0.size : Int)
        · rw [if_pos c5] at H
          have c5b0 := eq_true c5
          have c5b1 : decide (1000 ≤ (a0.size : Int)) = true := decide_eq_true c5
          clear c5
          have H' := Aside0.mk H
          clear H
          go_wp2
          go_meet
          case rel => exact ⟨_, (a0.extract 0 1000), (by first | rfl | (simp; done) | (simp [*]; done)), H', ⟨by first | omega | exact Nat.le_refl _⟩, ⟨by repeat (first | (with_reducible first | exact HB.out | apply below_alloc | apply pw_below_drewN | apply below_drew1) | exact HB.out)⟩⟩
        · rw [if_neg c5] at H
          exact absurd H (by simp)
      · rw [if_neg c4] at H
        exact absurd H (by simp)
    · rw [if_neg c3] at H
      have c3b0 : decide (1000 < (a0.size : Int)) = false := decide_eq_false c3
      have c3b1 : decide (1000 < a0.size) = false := decide_eq_false (by omega)
      clear c3
      (first | rw [c3b0] | (simp only [i64_w, i32_w]; rw [c3b0]) | skip)
      have H' := Aside0.mk H
      clear H
      go_wp2
      go_meet
      case rel => exact ⟨_, (a0), (by first | rfl | (simp; done) | (simp [*]; done)), H', ⟨by first | omega | exact Nat.le_refl _⟩, ⟨by repeat (first | (with_reducible first | exact HB.out | apply below_alloc | apply pw_below_drewN | apply below_drew1) | exact HB.out)⟩⟩
  case rest =>
    clear HC2
    try clear p2
    try clear c3
    try clear c3b0
    try clear c3b1
    try clear c4
    try clear c4b0
    try clear c4b1
    try clear c5
    try clear c5b0
    try clear c5b1
    obtain ⟨kq, x0_1, rfl, HA, HJ1, HB⟩ := hcut
    cases kq with
    | zero => exact absurd HA.out (by simp [decorumlaw04_PctPlain.j0])
    | succ kj1 =>
      have H := HA.out
      clear HA
      simp only [decorumlaw04_PctPlain.j0] at H
      replace H := Option.bind_eq_some_iff.mp H
      obtain ⟨⟨t101, t102⟩, A60, H⟩ := H
      replace H : (decorumlaw04_PctPlain.l0 kj1 x0_1 t101 0) = some r := H
      have A6 := Aside0.mk A60
      clear A60
      have H' := Aside0.mk H
      clear H
      go_wp2_with (first | ((with_reducible refine gate_callee (f := 9) rfl ?_); refine goesL_ (some 14) rfl rfl Try.func9 (by kernel_rfl) rfl #[.string x0_1] rfl (by (try simp only [List.map_toArray, List.map_cons, List.map_nil]); first | done | rfl | (simp only [List.length_drop, List.length_take]; rfl)) ?_; (with_reducible refine (pct_Norm.calls x0_1 t101 t102 _ A6.out).mono ?_); rintro e w7 ⟨rfl, hb⟩; refine ⟨_, rfl, ?_⟩; have n0_ := Aside0.mk (below_step (by repeat (first | (with_reducible first | exact HB.out | apply below_alloc | apply pw_below_drewN | apply below_drew1) | exact HB.out)) hb); clear HB; have HB := n0_; clear n0_; (try clear hb); (try clear hb2); (try clear hk); (try clear hi)))
      go_loopg [5] kj1 (fun kq v5 w' => ∃ (x5_2 : Int), v5 = .int .i64 x5_2 ∧ Aside0 (decorumlaw04_PctPlain.l0 kq x0_1 t101 x5_2 = some r) ∧ Aside0 (kq ≤ kj1) ∧ Aside0 (Below w.heap.size w w'))
      case atStart => exact ⟨(0), (by first | rfl | (simp; done) | (simp [*]; done)), H', ⟨Nat.le_refl _⟩, ⟨by repeat (first | (with_reducible first | exact HB.out | apply below_alloc | apply pw_below_drewN | apply below_drew1) | exact HB.out)⟩⟩
      case round =>
        clear H'
        try clear p2
        try clear c3
        try clear c3b0
        try clear c3b1
        try clear c4
        try clear c4b0
        try clear c4b1
        try clear c5
        try clear c5b0
        try clear c5b1
        try clear c7
        try clear p2
        obtain ⟨x5_2, rfl, HA, HK2, HB⟩ := hrel
        cases gk with
        | zero => exact absurd HA.out (by simp [decorumlaw04_PctPlain.l0])
        | succ k2 =>
          have H := HA.out
          clear HA
          simp only [decorumlaw04_PctPlain.l0] at H
          by_cases c8 : x5_2 < (t101.size : Int)
          · rw [if_pos c8] at H
            have c8b0 : decide (x5_2 < (t101.size : Int)) = true := decide_eq_true c8
            clear c8
            by_cases c9 : 0 ≤ x5_2
            · rw [if_pos c9] at H
              have c9b0 : decide (0 ≤ x5_2) = true := decide_eq_true c9
              clear c9
              by_cases c11 : (bt t101 x5_2) ≤ 32
              · rw [if_pos c11] at H
                have c11b0 : decide ((bt t101 x5_2) ≤ 32) = true := decide_eq_true c11
                clear c11
                exact absurd ((Option.some.inj H).trans HR_.out) (by decide)
              · rw [if_neg c11] at H
                have c11b0 : decide ((bt t101 x5_2) ≤ 32) = false := decide_eq_false c11
                clear c11
                by_cases c12 : (bt t101 x5_2) ≥ 127
                · rw [if_pos c12] at H
                  have c12b0 : decide (127 ≤ (bt t101 x5_2)) = true := decide_eq_true c12
                  clear c12
                  exact absurd ((Option.some.inj H).trans HR_.out) (by decide)
                · rw [if_neg c12] at H
                  have c12b0 : decide (127 ≤ (bt t101 x5_2)) = false := decide_eq_false c12
                  clear c12
                  by_cases c13 : (bt t101 x5_2) = 34
                  · rw [if_pos c13] at H
                    have c13b0 : ((bt t101 x5_2) == 34) = true := beq_iff_eq.mpr c13
                    have c13b1 : ((bt t101 x5_2) != 34) = false := bne_eq_false_iff_eq.mpr c13
                    clear c13
                    exact absurd ((Option.some.inj H).trans HR_.out) (by decide)
                  · rw [if_neg c13] at H
                    have c13b0 : ((bt t101 x5_2) == 34) = false := beq_eq_false_iff_ne.mpr c13
                    have c13b1 : ((bt t101 x5_2) != 34) = true := bne_iff_ne.mpr c13
                    by_cases c14 : (bt t101 x5_2) = 60
                    · rw [if_pos c14] at H
                      have c14b0 : ((bt t101 x5_2) == 60) = true := beq_iff_eq.mpr c14
                      have c14b1 : ((bt t101 x5_2) != 60) = false := bne_eq_false_iff_eq.mpr c14
                      clear c14
                      exact absurd ((Option.some.inj H).trans HR_.out) (by decide)
                    · rw [if_neg c14] at H
                      have c14b0 : ((bt t101 x5_2) == 60) = false := beq_eq_false_iff_ne.mpr c14
                      have c14b1 : ((bt t101 x5_2) != 60) = true := bne_iff_ne.mpr c14
                      by_cases c15 : (bt t101 x5_2) = 62
                      · rw [if_pos c15] at H
                        have c15b0 : ((bt t101 x5_2) == 62) = true := beq_iff_eq.mpr c15
                        have c15b1 : ((bt t101 x5_2) != 62) = false := bne_eq_false_iff_eq.mpr c15
                        clear c15
                        exact absurd ((Option.some.inj H).trans HR_.out) (by decide)
                      · rw [if_neg c15] at H
                        have c15b0 : ((bt t101 x5_2) == 62) = false := beq_eq_false_iff_ne.mpr c15
                        have c15b1 : ((bt t101 x5_2) != 62) = true := bne_iff_ne.mpr c15
                        by_cases c16 : (bt t101 x5_2) = 92
                        · rw [if_pos c16] at H
                          have c16b0 : ((bt t101 x5_2) == 92) = true := beq_iff_eq.mpr c16
                          have c16b1 : ((bt t101 x5_2) != 92) = false := bne_eq_false_iff_eq.mpr c16
                          clear c16
                          exact absurd ((Option.some.inj H).trans HR_.out) (by decide)
                        · rw [if_neg c16] at H
                          have c16b0 : ((bt t101 x5_2) == 92) = false := beq_eq_false_iff_ne.mpr c16
                          have c16b1 : ((bt t101 x5_2) != 92) = true := bne_iff_ne.mpr c16
                          by_cases c17 : (bt t101 x5_2) = 94
                          · rw [if_pos c17] at H
                            have c17b0 : ((bt t101 x5_2) == 94) = true := beq_iff_eq.mpr c17
                            have c17b1 : ((bt t101 x5_2) != 94) = false := bne_eq_false_iff_eq.mpr c17
                            clear c17
                            exact absurd ((Option.some.inj H).trans HR_.out) (by decide)
                          · rw [if_neg c17] at H
                            have c17b0 : ((bt t101 x5_2) == 94) = false := beq_eq_false_iff_ne.mpr c17
                            have c17b1 : ((bt t101 x5_2) != 94) = true := bne_iff_ne.mpr c17
                            by_cases c18 : (bt t101 x5_2) = 123
                            · rw [if_pos c18] at H
                              have c18b0 : ((bt t101 x5_2) == 123) = true := beq_iff_eq.mpr c18
                              have c18b1 : ((bt t101 x5_2) != 123) = false := bne_eq_false_iff_eq.mpr c18
                              clear c18
                              exact absurd ((Option.some.inj H).trans HR_.out) (by decide)
                            · rw [if_neg c18] at H
                              have c18b0 : ((bt t101 x5_2) == 123) = false := beq_eq_false_iff_ne.mpr c18
                              have c18b1 : ((bt t101 x5_2) != 123) = true := bne_iff_ne.mpr c18
                              by_cases c19 : (bt t101 x5_2) = 125
                              · rw [if_pos c19] at H
                                have c19b0 : ((bt t101 x5_2) == 125) = true := beq_iff_eq.mpr c19
                                have c19b1 : ((bt t101 x5_2) != 125) = false := bne_eq_false_iff_eq.mpr c19
                                clear c19
                                exact absurd ((Option.some.inj H).trans HR_.out) (by decide)
                              · rw [if_neg c19] at H
                                have c19b0 : ((bt t101 x5_2) == 125) = false := beq_eq_false_iff_ne.mpr c19
                                have c19b1 : ((bt t101 x5_2) != 125) = true := bne_iff_ne.mpr c19
                                by_cases c20 : (bt t101 x5_2) = 124
                                · rw [if_pos c20] at H
                                  have c20b0 : ((bt t101 x5_2) == 124) = true := beq_iff_eq.mpr c20
                                  have c20b1 : ((bt t101 x5_2) != 124) = false := bne_eq_false_iff_eq.mpr c20
                                  clear c20
                                  exact absurd ((Option.some.inj H).trans HR_.out) (by decide)
                                · rw [if_neg c20] at H
                                  have c20b0 : ((bt t101 x5_2) == 124) = false := beq_eq_false_iff_ne.mpr c20
                                  have c20b1 : ((bt t101 x5_2) != 124) = true := bne_iff_ne.mpr c20
                                  by_cases c21 : (bt t101 x5_2) = 35
                                  · rw [if_pos c21] at H
                                    have c21b0 : ((bt t101 x5_2) == 35) = true := beq_iff_eq.mpr c21
                                    have c21b1 : ((bt t101 x5_2) != 35) = false := bne_eq_false_iff_eq.mpr c21
                                    clear c21
                                    exact absurd ((Option.some.inj H).trans HR_.out) (by decide)
                                  · rw [if_neg c21] at H
                                    have c21b0 : ((bt t101 x5_2) == 35) = false := beq_eq_false_iff_ne.mpr c21
                                    have c21b1 : ((bt t101 x5_2) != 35) = true := bne_iff_ne.mpr c21
                                    by_cases c22 : (bt t101 x5_2) = 96
                                    · rw [if_pos c22] at H
                                      have c22b0 : ((bt t101 x5_2) == 96) = true := beq_iff_eq.mpr c22
                                      have c22b1 : ((bt t101 x5_2) != 96) = false := bne_eq_false_iff_eq.mpr c22
                                      clear c22
                                      exact absurd ((Option.some.inj H).trans HR_.out) (by decide)
                                    · rw [if_neg c22] at H
                                      have c22b0 : ((bt t101 x5_2) == 96) = false := beq_eq_false_iff_ne.mpr c22
                                      have c22b1 : ((bt t101 x5_2) != 96) = true := bne_iff_ne.mpr c22
                                      have H' := Aside0.mk H
                                      clear H
                                      have p10 : 0 ≤ (x5_2 : Int) := of_decide_eq_true (by first | (with_reducible assumption) | assumption)
                                      have q10 : x5_2 < (t101.size : Int) := of_decide_eq_true (by first | (with_reducible assumption) | assumption)
                                      have hx10 := bt_at t101 x5_2
                                      replace p10 := eq_true p10
                                      replace q10 := eq_true q10
                                      go_wp2
                                      go_roundg k2
                                      case measure => have := HJ1.out; have := HK2.out; omega
                                      case rel => exact ⟨(wrap64 (x5_2 + 1)), (by first | rfl | (simp; done) | (simp [*]; done)), H', ⟨by have := HJ1.out; have := HK2.out; omega⟩, ⟨by repeat (first | (with_reducible first | exact HB.out | apply below_alloc | apply pw_below_drewN | apply below_drew1) | exact HB.out)⟩⟩
            · rw [if_neg c9] at H
              exact absurd H (by simp)
          · rw [if_neg c8] at H
            have c8b0 : decide (x5_2 < (t101.size : Int)) = false := decide_eq_false c8
            clear c8
            replace H := Option.bind_eq_some_iff.mp H
            obtain ⟨t103, A230, H⟩ := H
            replace H : (if t103 = true then (some (decide ((t101.size : Int) ≤ (wrap64 (3 * (x0_1.size : Int)))))) else (some false)) = some r := H
            have A23 := Aside0.mk A230
            clear A230
            by_cases c24 : t103 = true
            · subst c24
              have H1 : (some (decide ((t101.size : Int) ≤ (wrap64 (3 * (x0_1.size : Int)))))) = some r := by rw [if_pos rfl] at H; exact H
              clear H
              have H := H1
              clear H1
              obtain rfl := Option.some.inj H
              go_wp2_with (first | ((with_reducible refine gate_callee (f := 11) rfl ?_); refine goesL_ (some 72) rfl rfl Try.func11 (by kernel_rfl) rfl #[] rfl (by (try simp only [List.map_toArray, List.map_cons, List.map_nil]); first | done | rfl | (simp only [List.length_drop, List.length_take]; rfl)) ?_; (with_reducible refine (decorumlaw04_awake.calls k2  true _ A23.out).mono ?_); rintro e w25 ⟨rfl, hb⟩; refine ⟨_, rfl, ?_⟩; have n0_ := Aside0.mk (below_step (by repeat (first | (with_reducible first | exact HB.out | apply below_alloc | apply pw_below_drewN | apply below_drew1) | exact HB.out)) hb); clear HB; have HB := n0_; clear n0_; (try clear hb); (try clear hb2); (try clear hk); (try clear hi)))
              go_ret
              exact ⟨by first | rfl | (simp [errW_none, errW_some] <;> rfl) | (simp [*, errW_none, errW_some] <;> rfl) | (simp [wrap64]; done), by repeat (first | (with_reducible first | exact HB.out | apply below_alloc | apply pw_below_drewN | apply below_drew1) | exact HB.out)⟩
            · replace c24 := Bool.eq_false_iff.mpr c24
              subst c24
              have H1 : (some false) = some r := by rw [if_neg (show ¬ (false = true) by decide)] at H; exact H
              clear H
              have H := H1
              clear H1
              exact absurd ((Option.some.inj H).trans HR_.out) (by decide)

/-- THE ONE PURE STATEMENT of decorumlaw04_PctPlain: yours. -/
def decorumlaw04_PctPlain.Pure : Prop := ∀ (a0 : ByteArray), a0.size ≤ 140737488351232 → ∃ k, decorumlaw04_PctPlain.f k a0 = some true
theorem decorumlaw04_PctPlain.walk (P : decorumlaw04_PctPlain.Pure) (a0 : ByteArray) (w : World) (w0 : a0.size ≤ 140737488351232) :
    Calls Try.prog 7 #[.string a0] w fun e w' => e = .returned (.bool true) ∧ Below w.heap.size w w' := by
  obtain ⟨k, h⟩ := P a0 w0
  refine (decorumlaw04_PctPlain.calls k a0 true w rfl h).mono ?_
  rintro e w' ⟨rfl, hd⟩
  exact ⟨rfl, hd⟩

end Go.Proofs.Ytnbahmjpgjnoaaa.QPctPlain
