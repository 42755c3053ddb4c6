-- A text that a changed copy of the print program wrote for this claim (NOTES.md, changed print); it is not a printed text.
import Derived.Test.YthbmedhejlhclaaDoorQLawx0
import Derived.Test.YthbmedhejlhclaaDoorQLawx2
import Derived.Test.YthbmedhejlhclaaDoorQLawx3
namespace Go.Proofs.YthbmedhejlhclaaDoor.QLaw
open Go.Proofs.YthbmedhejlhclaaDoor.Given Go.Proofs.YthbmedhejlhclaaDoor.QBase
open Go.RowKit Go.Proofs.YthbmedhejlhclaaDoorW.PrintWords Go.Proofs.YthbmedhejlhclaaDoorW.PrintLast Go.Proofs.YthbmedhejlhclaaDoorW.PrintMore
attribute [local go_sem] max2_int min2_int max_two min_two max_three min_three max_four min_four   -- for this text's walks alone
set_option linter.unusedVariables false
set_option linter.unusedSimpArgs false

attribute [local go_sem high] eqA40
/-! ### decorumlaw09_LinesParts: function 8 -/
mutual
def decorumlaw09_LinesParts.j0 : Nat → ByteArray → ByteArray → Bool → Option (Bool)
  | 0, _, _, _ => none
  | k + 1, x0, x1, x39 => if x39 = true then ((decorumlaw09_awake.f).bind fun t132 => (some t132)) else ((lines_Parse.f x0).bind fun t133 => ((lines_Parse.f x1).bind fun t136 => (if x0.size + 1 ≤ 9223372036854775807 then (if (x0 ++ (⟨#[10]⟩ : ByteArray)).size + x1.size ≤ 9223372036854775807 then ((lines_Parse.f ((x0 ++ (⟨#[10]⟩ : ByteArray)) ++ x1)).bind fun t139 => (if (t139.length : Int) = (wrap64 ((t133.length : Int) + (t136.length : Int))) then (decorumlaw09_LinesParts.l0 k t133 t136 t139 0) else (some false))) else (none)) else (none))))
def decorumlaw09_LinesParts.l0 : Nat → List (S40) → List (S40) → List (S40) → Int → Option (Bool)
  | 0, _, _, _, _ => none
  | k + 1, x5, x6, x7, x8 => if x8 < (x7.length : Int) then (if x8 < (x5.length : Int) then (if 0 ≤ x8 then (if (!((((rd_T40 x7 x8).f0).toList) == (((rd_T40 x5 x8).f0).toList)) || (!((((rd_T40 x7 x8).f1).toList) == (((rd_T40 x5 x8).f1).toList)))) = true then (some false) else (if x8 ≥ (x5.length : Int) then (if 0 ≤ (wrap64 (x8 - (x5.length : Int))) then (if (wrap64 (x8 - (x5.length : Int))) < (x6.length : Int) then (if (!((((rd_T40 x7 x8).f0).toList) == (((rd_T40 x6 (wrap64 (x8 - (x5.length : Int)))).f0).toList)) || (!((((rd_T40 x7 x8).f1).toList) == (((rd_T40 x6 (wrap64 (x8 - (x5.length : Int)))).f1).toList)))) = true then (some false) else (decorumlaw09_LinesParts.l0 k x5 x6 x7 (wrap64 (x8 + 1)))) else (none)) else (none)) else (decorumlaw09_LinesParts.l0 k x5 x6 x7 (wrap64 (x8 + 1))))) else (none)) else (if x8 ≥ (x5.length : Int) then (if 0 ≤ x8 then (if 0 ≤ (wrap64 (x8 - (x5.length : Int))) then (if (wrap64 (x8 - (x5.length : Int))) < (x6.length : Int) then (if (!((((rd_T40 x7 x8).f0).toList) == (((rd_T40 x6 (wrap64 (x8 - (x5.length : Int)))).f0).toList)) || (!((((rd_T40 x7 x8).f1).toList) == (((rd_T40 x6 (wrap64 (x8 - (x5.length : Int)))).f1).toList)))) = true then (some false) else (decorumlaw09_LinesParts.l0 k x5 x6 x7 (wrap64 (x8 + 1)))) else (none)) else (none)) else (none)) else (decorumlaw09_LinesParts.l0 k x5 x6 x7 (wrap64 (x8 + 1))))) else ((decorumlaw09_awake.f).bind fun t148 => (some t148))
end
def decorumlaw09_LinesParts.f (k : Nat) (a0 : ByteArray) (a1 : ByteArray) : Option (Bool) := if (wrap64 ((a0.size : Int) + (a1.size : Int))) > 3000 then (decorumlaw09_LinesParts.j0 k a0 a1 true) else (if (a1.size : Int) > 2 then (if 0 < (a1.size : Int) then (if (bt a1 0) = 239 then (decorumlaw09_LinesParts.j0 k a0 a1 true) else (if (a0.size : Int) < 3 then (if (a0.size : Int) > 0 then (if 0 < (a0.size : Int) then (decorumlaw09_LinesParts.j0 k a0 a1 ((bt a0 0) == 239)) else (none)) else (decorumlaw09_LinesParts.j0 k a0 a1 false)) else (decorumlaw09_LinesParts.j0 k a0 a1 false))) else (none)) else (if (a0.size : Int) < 3 then (if (a0.size : Int) > 0 then (if 0 < (a0.size : Int) then (decorumlaw09_LinesParts.j0 k a0 a1 ((bt a0 0) == 239)) else (none)) else (decorumlaw09_LinesParts.j0 k a0 a1 false)) else (decorumlaw09_LinesParts.j0 k a0 a1 false)))
theorem decorumlaw09_LinesParts.mono_l : ∀ k, (∀ y0 y1 y2, LeO (decorumlaw09_LinesParts.j0 k y0 y1 y2) (decorumlaw09_LinesParts.j0 (k + 1) y0 y1 y2)) ∧ (∀ y0 y1 y2 y3, LeO (decorumlaw09_LinesParts.l0 k y0 y1 y2 y3) (decorumlaw09_LinesParts.l0 (k + 1) y0 y1 y2 y3))
  | 0 => ⟨fun _ _ _ r h => by simp [decorumlaw09_LinesParts.j0] at h, fun _ _ _ _ r h => by simp [decorumlaw09_LinesParts.l0] at h⟩
  | k + 1 => by
    obtain ⟨ih0, ih1⟩ := decorumlaw09_LinesParts.mono_l k
    refine ⟨?_, ?_⟩
    · intro y0 y1 y2
      unfold decorumlaw09_LinesParts.j0
      repeat' first
      | (with_reducible exact ih0 _ _ _)
      | (with_reducible exact ih1 _ _ _ _)
      | (with_reducible exact LeO.refl _)
      | (with_reducible exact LeO.none _)
      | (with_reducible refine LeO.ite ?_ ?_)
      | (with_reducible refine LeO.bind ?_ (fun _ => ?_))
      | exact ih0 _ _ _
      | exact ih1 _ _ _ _
      | exact LeO.none _
      | refine LeO.ite ?_ ?_
      | refine LeO.bind ?_ (fun _ => ?_)
    · intro y0 y1 y2 y3
      unfold decorumlaw09_LinesParts.l0
      repeat' first
      | (with_reducible exact ih0 _ _ _)
      | (with_reducible exact ih1 _ _ _ _)
      | (with_reducible exact LeO.refl _)
      | (with_reducible exact LeO.none _)
      | (with_reducible refine LeO.ite ?_ ?_)
      | (with_reducible refine LeO.bind ?_ (fun _ => ?_))
      | exact ih0 _ _ _
      | exact ih1 _ _ _ _
      | exact LeO.none _
      | refine LeO.ite ?_ ?_
      | refine LeO.bind ?_ (fun _ => ?_)
theorem decorumlaw09_LinesParts.mono : ∀ a0 a1 k, LeO (decorumlaw09_LinesParts.f k a0 a1) (decorumlaw09_LinesParts.f (k + 1) a0 a1) := by
  intro a0 a1 k
  obtain ⟨ih0, ih1⟩ := decorumlaw09_LinesParts.mono_l k
  unfold decorumlaw09_LinesParts.f
  repeat' first
      | (with_reducible exact ih0 _ _ _)
      | (with_reducible exact ih1 _ _ _ _)
      | (with_reducible exact LeO.refl _)
      | (with_reducible exact LeO.none _)
      | (with_reducible refine LeO.ite ?_ ?_)
      | (with_reducible refine LeO.bind ?_ (fun _ => ?_))
      | exact ih0 _ _ _
      | exact ih1 _ _ _ _
      | exact LeO.none _
      | refine LeO.ite ?_ ?_
      | refine LeO.bind ?_ (fun _ => ?_)
set_option maxHeartbeats 8000000 in
set_option maxRecDepth 100000 in
theorem decorumlaw09_LinesParts.calls (k : Nat) (a0 : ByteArray) (a1 : ByteArray) (r : Bool) (w : World) (hr_ : r = true) (h : decorumlaw09_LinesParts.f k a0 a1 = some r) (hS_ : Shp w) :
    Calls Tryd.prog 8 #[.string a0, .string a1] w fun e w' => e = .returned (.bool r) ∧ Below w.heap.size w w' := by
  have HR_ := Aside0.mk (hr_)
  have hu40 := Tryd.underlying40
  have HB := Aside0.mk (Below.refl w.heap.size w)
  have HS_ := Aside0.mk hS_
  clear hS_
  have H : (if (wrap64 ((a0.size : Int) + (a1.size : Int))) > 3000 then (decorumlaw09_LinesParts.j0 k a0 a1 true) else (if (a1.size : Int) > 2 then (if 0 < (a1.size : Int) then (if (bt a1 0) = 239 then (decorumlaw09_LinesParts.j0 k a0 a1 true) else (if (a0.size : Int) < 3 then (if (a0.size : Int) > 0 then (if 0 < (a0.size : Int) then (decorumlaw09_LinesParts.j0 k a0 a1 ((bt a0 0) == 239)) else (none)) else (decorumlaw09_LinesParts.j0 k a0 a1 false)) else (decorumlaw09_LinesParts.j0 k a0 a1 false))) else (none)) else (if (a0.size : Int) < 3 then (if (a0.size : Int) > 0 then (if 0 < (a0.size : Int) then (decorumlaw09_LinesParts.j0 k a0 a1 ((bt a0 0) == 239)) else (none)) else (decorumlaw09_LinesParts.j0 k a0 a1 false)) else (decorumlaw09_LinesParts.j0 k a0 a1 false)))) = some r := h
  clear h
  have HC3 := Aside0.mk H
  clear H
  go_enter Tryd.func8, Tryd.ntmps8
  go_upto_region 1 with (fail)
  repeat (go_quiet (fail); go_upto_region 1 with (fail))
  go_cut [39] (fun v39 wc => ∃ (kq : Nat) (x39_2 : Bool), v39 = .bool x39_2 ∧ Aside0 (decorumlaw09_LinesParts.j0 kq a0 a1 x39_2 = some r) ∧ Aside0 (kq ≤ k) ∧ Aside0 (Below w.heap.size w wc))
  case first =>
    have H := HC3.out
    clear HC3
    by_cases c4 : (wrap64 ((a0.size : Int) + (a1.size : Int))) > 3000
    · rw [if_pos c4] at H
      have c4b0 : decide (3000 < (wrap64 ((a0.size : Int) + (a1.size : Int)))) = true := decide_eq_true c4
      clear c4
      (first | rw [c4b0] | (simp only [i64_w, i32_w]; rw [c4b0]) | skip)
      have H' := Aside0.mk H
      clear H
      go_wp2
      repeat (go_quiet (fail); try go_wp2)
      go_meet
      case rel => exact ⟨_, (true), (by first | rfl | (simp; done) | (simp [*]; done)), H', ⟨by first | omega | exact Nat.le_refl _⟩, ⟨by repeat (first | (with_reducible first | exact HB.out | apply below_alloc | apply pw_below_drewN | apply below_drew1) | exact HB.out)⟩⟩
    · rw [if_neg c4] at H
      have c4b0 : decide (3000 < (wrap64 ((a0.size : Int) + (a1.size : Int)))) = false := decide_eq_false c4
      clear c4
      (first | rw [c4b0] | (simp only [i64_w, i32_w]; rw [c4b0]) | skip)
      by_cases c5 : (a1.size : Int) > 2
      · rw [if_pos c5] at H
        have c5b0 : decide (2 < (a1.size : Int)) = true := decide_eq_true c5
        have c5b1 : decide (2 < a1.size) = true := decide_eq_true (by omega)
        clear c5
        by_cases c6 : 0 < (a1.size : Int)
        · rw [if_pos c6] at H
          have c6b0 : decide (0 < (a1.size : Int)) = true := decide_eq_true c6
          have c6b1 : decide (0 < a1.size) = true := decide_eq_true (by omega)
          clear c6
          by_cases c8 : (bt a1 0) = 239
          · rw [if_pos c8] at H
            have c8b0 : ((bt a1 0) == 239) = true := beq_iff_eq.mpr c8
            have c8b1 : ((bt a1 0) != 239) = false := bne_eq_false_iff_eq.mpr c8
            clear c8
            have H' := Aside0.mk H
            clear H
            have p7 : 0 ≤ (0 : Int) := (by omega)
            have q7 : 0 < a1.size := (by have : (0 : Int) < (a1.size : Int) := of_decide_eq_true (by first | (with_reducible assumption) | assumption); omega)
            have hx7 : ∀ h : 0 < a1.size, ((a1[0]'h).toNat : Int) = bt a1 0 := bt_at a1 0
            clear p7
            have qi7 : (0 < (a1.size : Int)) = True := eq_true (of_decide_eq_true (by first | (with_reducible assumption) | assumption))
            replace q7 := eq_true q7
            go_wp2
            repeat (go_quiet (fail); try go_wp2)
            go_meet
            case rel => exact ⟨_, (true), (by first | rfl | (simp; done) | (simp [*]; done)), H', ⟨by first | omega | exact Nat.le_refl _⟩, ⟨by repeat (first | (with_reducible first | exact HB.out | apply below_alloc | apply pw_below_drewN | apply below_drew1) | exact HB.out)⟩⟩
          · rw [if_neg c8] at H
            have c8b0 : ((bt a1 0) == 239) = false := beq_eq_false_iff_ne.mpr c8
            have c8b1 : ((bt a1 0) != 239) = true := bne_iff_ne.mpr c8
            by_cases c9 : (a0.size : Int) < 3
            · rw [if_pos c9] at H
              have c9b0 : decide ((a0.size : Int) < 3) = true := decide_eq_true c9
              have c9b1 : decide (a0.size < 3) = true := decide_eq_true (by omega)
              clear c9
              by_cases c10 : (a0.size : Int) > 0
              · rw [if_pos c10] at H
                have c10b0 : decide (0 < (a0.size : Int)) = true := decide_eq_true c10
                have c10b1 : decide (0 < a0.size) = true := decide_eq_true (by omega)
                clear c10
                by_cases c11 : 0 < (a0.size : Int)
                · rw [if_pos c11] at H
                  have c11b0 : decide (0 < (a0.size : Int)) = true := decide_eq_true c11
                  have c11b1 : decide (0 < a0.size) = true := decide_eq_true (by omega)
                  clear c11
                  have H' := Aside0.mk H
                  clear H
                  have p7 : 0 ≤ (0 : Int) := (by omega)
                  have q7 : 0 < a1.size := (by have : (0 : Int) < (a1.size : Int) := of_decide_eq_true (by first | (with_reducible assumption) | assumption); omega)
                  have hx7 : ∀ h : 0 < a1.size, ((a1[0]'h).toNat : Int) = bt a1 0 := bt_at a1 0
                  clear p7
                  have qi7 : (0 < (a1.size : Int)) = True := eq_true (of_decide_eq_true (by first | (with_reducible assumption) | assumption))
                  replace q7 := eq_true q7
                  have p12 : 0 ≤ (0 : Int) := (by omega)
                  have q12 : 0 < a0.size := (by have : (0 : Int) < (a0.size : Int) := of_decide_eq_true (by first | (with_reducible assumption) | assumption); omega)
                  have hx12 : ∀ h : 0 < a0.size, ((a0[0]'h).toNat : Int) = bt a0 0 := bt_at a0 0
                  clear p12
                  have qi12 : (0 < (a0.size : Int)) = True := eq_true (of_decide_eq_true (by first | (with_reducible assumption) | assumption))
                  replace q12 := eq_true q12
                  go_wp2
                  repeat (go_quiet (fail); try go_wp2)
                  go_meet
                  case rel => exact ⟨_, (((bt a0 0) == 239)), (by first | rfl | (simp; done) | (simp [*]; done)), H', ⟨by first | omega | exact Nat.le_refl _⟩, ⟨by repeat (first | (with_reducible first | exact HB.out | apply below_alloc | apply pw_below_drewN | apply below_drew1) | exact HB.out)⟩⟩
                · rw [if_neg c11] at H
                  exact absurd H (by simp)
              · rw [if_neg c10] at H
                have c10b0 : decide (0 < (a0.size : Int)) = false := decide_eq_false c10
                have c10b1 : decide (0 < a0.size) = false := decide_eq_false (by omega)
                clear c10
                have H' := Aside0.mk H
                clear H
                have p7 : 0 ≤ (0 : Int) := (by omega)
                have q7 : 0 < a1.size := (by have : (0 : Int) < (a1.size : Int) := of_decide_eq_true (by first | (with_reducible assumption) | assumption); omega)
                have hx7 : ∀ h : 0 < a1.size, ((a1[0]'h).toNat : Int) = bt a1 0 := bt_at a1 0
                clear p7
                have qi7 : (0 < (a1.size : Int)) = True := eq_true (of_decide_eq_true (by first | (with_reducible assumption) | assumption))
                replace q7 := eq_true q7
                go_wp2
                repeat (go_quiet (fail); try go_wp2)
                go_meet
                case rel => exact ⟨_, (false), (by first | rfl | (simp; done) | (simp [*]; done)), H', ⟨by first | omega | exact Nat.le_refl _⟩, ⟨by repeat (first | (with_reducible first | exact HB.out | apply below_alloc | apply pw_below_drewN | apply below_drew1) | exact HB.out)⟩⟩
            · rw [if_neg c9] at H
              have c9b0 : decide ((a0.size : Int) < 3) = false := decide_eq_false c9
              have c9b1 : decide (a0.size < 3) = false := decide_eq_false (by omega)
              clear c9
              have H' := Aside0.mk H
              clear H
              have p7 : 0 ≤ (0 : Int) := (by omega)
              have q7 : 0 < a1.size := (by have : (0 : Int) < (a1.size : Int) := of_decide_eq_true (by first | (with_reducible assumption) | assumption); omega)
              have hx7 : ∀ h : 0 < a1.size, ((a1[0]'h).toNat : Int) = bt a1 0 := bt_at a1 0
              clear p7
              have qi7 : (0 < (a1.size : Int)) = True := eq_true (of_decide_eq_true (by first | (with_reducible assumption) | assumption))
              replace q7 := eq_true q7
              go_wp2
              repeat (go_quiet (fail); try go_wp2)
              go_meet
              case rel => exact ⟨_, (false), (by first | rfl | (simp; done) | (simp [*]; done)), H', ⟨by first | omega | exact Nat.le_refl _⟩, ⟨by repeat (first | (with_reducible first | exact HB.out | apply below_alloc | apply pw_below_drewN | apply below_drew1) | exact HB.out)⟩⟩
        · rw [if_neg c6] at H
          exact absurd H (by simp)
      · rw [if_neg c5] at H
        have c5b0 : decide (2 < (a1.size : Int)) = false := decide_eq_false c5
        have c5b1 : decide (2 < a1.size) = false := decide_eq_false (by omega)
        clear c5
        by_cases c13 : (a0.size : Int) < 3
        · rw [if_pos c13] at H
          have c13b0 : decide ((a0.size : Int) < 3) = true := decide_eq_true c13
          have c13b1 : decide (a0.size < 3) = true := decide_eq_true (by omega)
          clear c13
          by_cases c14 : (a0.size : Int) > 0
          · rw [if_pos c14] at H
            have c14b0 : decide (0 < (a0.size : Int)) = true := decide_eq_true c14
            have c14b1 : decide (0 < a0.size) = true := decide_eq_true (by omega)
            clear c14
            by_cases c15 : 0 < (a0.size : Int)
            · rw [if_pos c15] at H
              have c15b0 : decide (0 < (a0.size : Int)) = true := decide_eq_true c15
              have c15b1 : decide (0 < a0.size) = true := decide_eq_true (by omega)
              clear c15
              have H' := Aside0.mk H
              clear H
              have p16 : 0 ≤ (0 : Int) := (by omega)
              have q16 : 0 < a0.size := (by have : (0 : Int) < (a0.size : Int) := of_decide_eq_true (by first | (with_reducible assumption) | assumption); omega)
              have hx16 : ∀ h : 0 < a0.size, ((a0[0]'h).toNat : Int) = bt a0 0 := bt_at a0 0
              clear p16
              have qi16 : (0 < (a0.size : Int)) = True := eq_true (of_decide_eq_true (by first | (with_reducible assumption) | assumption))
              replace q16 := eq_true q16
              go_wp2
              repeat (go_quiet (fail); try go_wp2)
              go_meet
              case rel => exact ⟨_, (((bt a0 0) == 239)), (by first | rfl | (simp; done) | (simp [*]; done)), H', ⟨by first | omega | exact Nat.le_refl _⟩, ⟨by repeat (first | (with_reducible first | exact HB.out | apply below_alloc | apply pw_below_drewN | apply below_drew1) | exact HB.out)⟩⟩
            · rw [if_neg c15] at H
              exact absurd H (by simp)
          · rw [if_neg c14] at H
            have c14b0 : decide (0 < (a0.size : Int)) = false := decide_eq_false c14
            have c14b1 : decide (0 < a0.size) = false := decide_eq_false (by omega)
            clear c14
            have H' := Aside0.mk H
            clear H
            go_wp2
            repeat (go_quiet (fail); try go_wp2)
            go_meet
            case rel => exact ⟨_, (false), (by first | rfl | (simp; done) | (simp [*]; done)), H', ⟨by first | omega | exact Nat.le_refl _⟩, ⟨by repeat (first | (with_reducible first | exact HB.out | apply below_alloc | apply pw_below_drewN | apply below_drew1) | exact HB.out)⟩⟩
        · rw [if_neg c13] at H
          have c13b0 : decide ((a0.size : Int) < 3) = false := decide_eq_false c13
          have c13b1 : decide (a0.size < 3) = false := decide_eq_false (by omega)
          clear c13
          have H' := Aside0.mk H
          clear H
          go_wp2
          repeat (go_quiet (fail); try go_wp2)
          go_meet
          case rel => exact ⟨_, (false), (by first | rfl | (simp; done) | (simp [*]; done)), H', ⟨by first | omega | exact Nat.le_refl _⟩, ⟨by repeat (first | (with_reducible first | exact HB.out | apply below_alloc | apply pw_below_drewN | apply below_drew1) | exact HB.out)⟩⟩
  case rest =>
    clear HC3
    try clear c1
    try clear p1
    try clear q1
    try clear hx1
    try clear qi1
    try clear p2
    try clear c4
    try clear c4b0
    try clear c5
    try clear c5b0
    try clear c5b1
    try clear c6
    try clear c6b0
    try clear c6b1
    try clear p6
    try clear p7
    try clear q7
    try clear hx7
    try clear qi7
    try clear c8
    try clear c8b0
    try clear c8b1
    try clear c9
    try clear c9b0
    try clear c9b1
    try clear c10
    try clear c10b0
    try clear c10b1
    try clear c11
    try clear c11b0
    try clear c11b1
    try clear p12
    try clear q12
    try clear hx12
    try clear qi12
    try clear c13
    try clear c13b0
    try clear c13b1
    try clear c14
    try clear c14b0
    try clear c14b1
    try clear c15
    try clear c15b0
    try clear c15b1
    try clear p16
    try clear q16
    try clear hx16
    try clear qi16
    try clear p12
    try clear p16
    try clear p7
    try clear q12
    try clear q16
    try clear q7
    obtain ⟨kq, x39_2, rfl, HA, HJ2, HB⟩ := hcut
    cases kq with
    | zero => exact absurd HA.out (by simp [decorumlaw09_LinesParts.j0])
    | succ kj2 =>
      have H := HA.out
      clear HA
      simp only [decorumlaw09_LinesParts.j0] at H
      by_cases c17 : x39_2 = true
      · subst c17
        have H1 : ((decorumlaw09_awake.f).bind fun t132 => (some t132)) = some r := by rw [if_pos rfl] at H; exact H
        clear H
        have H := H1
        clear H1
        replace H := Option.bind_eq_some_iff.mp H
        obtain ⟨t132, A180, H⟩ := H
        replace H : (some t132) = some r := H
        have A18 := Aside0.mk A180
        clear A180
        obtain rfl := Option.some.inj H
        go_wp2_with (first | (go_at_call 12; (with_reducible refine (decorumlaw09_awake.calls  t132 _ A18.out (Shp.below HS_.out (by repeat (first | (with_reducible first | exact HB.out | apply below_alloc | apply pw_below_drewN | apply below_drew1) | exact HB.out)))).mono ?_); rintro e w19 ⟨rfl, hb⟩; have n0_ := Aside0.mk (below_step (by repeat (first | (with_reducible first | exact HB.out | apply below_alloc | apply pw_below_drewN | apply below_drew1) | exact HB.out)) hb); clear HB; have HB := n0_; clear n0_; (try clear hb); (try clear hb2); (try clear hk); (try clear hi)))
        repeat (go_quiet (first | (go_at_call 12; (with_reducible refine (decorumlaw09_awake.calls  t132 _ A18.out (Shp.below HS_.out (by repeat (first | (with_reducible first | exact HB.out | apply below_alloc | apply pw_below_drewN | apply below_drew1) | exact HB.out)))).mono ?_); rintro e w19 ⟨rfl, hb⟩; have n0_ := Aside0.mk (below_step (by repeat (first | (with_reducible first | exact HB.out | apply below_alloc | apply pw_below_drewN | apply below_drew1) | exact HB.out)) hb); clear HB; have HB := n0_; clear n0_; (try clear hb); (try clear hb2); (try clear hk); (try clear hi))); try go_wp2_with (first | (go_at_call 12; (with_reducible refine (decorumlaw09_awake.calls  t132 _ A18.out (Shp.below HS_.out (by repeat (first | (with_reducible first | exact HB.out | apply below_alloc | apply pw_below_drewN | apply below_drew1) | exact HB.out)))).mono ?_); rintro e w19 ⟨rfl, hb⟩; have n0_ := Aside0.mk (below_step (by repeat (first | (with_reducible first | exact HB.out | apply below_alloc | apply pw_below_drewN | apply below_drew1) | exact HB.out)) hb); clear HB; have HB := n0_; clear n0_; (try clear hb); (try clear hb2); (try clear hk); (try clear hi))))
        go_ret
        exact ⟨by first | rfl | (simp [Go.Proofs.YthbmedhejlhclaaDoor.QLaw.errW_none, Go.Proofs.YthbmedhejlhclaaDoor.QLaw.errW_some] <;> rfl) | (simp [*, Go.Proofs.YthbmedhejlhclaaDoor.QLaw.errW_none, Go.Proofs.YthbmedhejlhclaaDoor.QLaw.errW_some] <;> rfl) | (simp [wrap64]; done) | (simp [Go.Proofs.YthbmedhejlhclaaDoor.QLaw.errW_none, Go.Proofs.YthbmedhejlhclaaDoor.QLaw.errW_some] <;> exact empty_bne _), by repeat (first | (with_reducible first | exact HB.out | apply below_alloc | apply pw_below_drewN | apply below_drew1) | exact HB.out)⟩
      · replace c17 := Bool.eq_false_iff.mpr c17
        subst c17
        have H1 : ((lines_Parse.f a0).bind fun t133 => ((lines_Parse.f a1).bind fun t136 => (if a0.size + 1 ≤ 9223372036854775807 then (if (a0 ++ (⟨#[10]⟩ : ByteArray)).size + a1.size ≤ 9223372036854775807 then ((lines_Parse.f ((a0 ++ (⟨#[10]⟩ : ByteArray)) ++ a1)).bind fun t139 => (if (t139.length : Int) = (wrap64 ((t133.length : Int) + (t136.length : Int))) then (decorumlaw09_LinesParts.l0 kj2 t133 t136 t139 0) else (some false))) else (none)) else (none)))) = some r := by rw [if_neg (show ¬ (false = true) by decide)] at H; exact H
        clear H
        have H := H1
        clear H1
        replace H := Option.bind_eq_some_iff.mp H
        obtain ⟨t133, A200, H⟩ := H
        replace H : ((lines_Parse.f a1).bind fun t136 => (if a0.size + 1 ≤ 9223372036854775807 then (if (a0 ++ (⟨#[10]⟩ : ByteArray)).size + a1.size ≤ 9223372036854775807 then ((lines_Parse.f ((a0 ++ (⟨#[10]⟩ : ByteArray)) ++ a1)).bind fun t139 => (if (t139.length : Int) = (wrap64 ((t133.length : Int) + (t136.length : Int))) then (decorumlaw09_LinesParts.l0 kj2 t133 t136 t139 0) else (some false))) else (none)) else (none))) = some r := H
        have A20 := Aside0.mk A200
        clear A200
        replace H := Option.bind_eq_some_iff.mp H
        obtain ⟨t136, A210, H⟩ := H
        replace H : (if a0.size + 1 ≤ 9223372036854775807 then (if (a0 ++ (⟨#[10]⟩ : ByteArray)).size + a1.size ≤ 9223372036854775807 then ((lines_Parse.f ((a0 ++ (⟨#[10]⟩ : ByteArray)) ++ a1)).bind fun t139 => (if (t139.length : Int) = (wrap64 ((t133.length : Int) + (t136.length : Int))) then (decorumlaw09_LinesParts.l0 kj2 t133 t136 t139 0) else (some false))) else (none)) else (none)) = some r := H
        have A21 := Aside0.mk A210
        clear A210
        by_cases c22 : a0.size + 1 ≤ 9223372036854775807
        · rw [if_pos c22] at H
          have c22b0 := eq_true c22
          have c22b1 : decide (a0.size + 1 ≤ 9223372036854775807) = true := decide_eq_true c22
          try have c22b2 : (9223372036854775807 < a0.size + 1) = False := eq_false (Nat.not_lt.2 c22)
          by_cases c23 : (a0 ++ (⟨#[10]⟩ : ByteArray)).size + a1.size ≤ 9223372036854775807
          · rw [if_pos c23] at H
            have c23b0 := eq_true c23
            have c23b1 : decide ((a0 ++ (⟨#[10]⟩ : ByteArray)).size + a1.size ≤ 9223372036854775807) = true := decide_eq_true c23
            try have c23b2 : (9223372036854775807 < (a0 ++ (⟨#[10]⟩ : ByteArray)).size + a1.size) = False := eq_false (Nat.not_lt.2 c23)
            replace H := Option.bind_eq_some_iff.mp H
            obtain ⟨t139, A240, H⟩ := H
            replace H : (if (t139.length : Int) = (wrap64 ((t133.length : Int) + (t136.length : Int))) then (decorumlaw09_LinesParts.l0 kj2 t133 t136 t139 0) else (some false)) = some r := H
            have A24 := Aside0.mk A240
            clear A240
            by_cases c25 : (t139.length : Int) = (wrap64 ((t133.length : Int) + (t136.length : Int)))
            · rw [if_pos c25] at H
              have c25b0 : ((t139.length : Int) == (wrap64 ((t133.length : Int) + (t136.length : Int)))) = true := beq_iff_eq.mpr c25
              have c25b1 : ((t139.length : Int) != (wrap64 ((t133.length : Int) + (t136.length : Int)))) = false := bne_eq_false_iff_eq.mpr c25
              clear c25
              have H' := Aside0.mk H
              clear H
              go_wp2_with (first | (go_at_call 10; (with_reducible refine (lines_Parse.calls a0 t133 _ A20.out (Shp.below HS_.out (by repeat (first | (with_reducible first | exact HB.out | apply below_alloc | apply pw_below_drewN | apply below_drew1) | exact HB.out)))).mono ?_); rintro e w26 ⟨v134, rfl, ho0, hb⟩; have n0_ := Aside0.mk (Kd.R_lower ho0 (below_size (by repeat (first | (with_reducible first | exact HB.out | apply below_alloc | apply pw_below_drewN | apply below_drew1) | exact HB.out)))); have n1_ := Aside0.mk (below_step (by repeat (first | (with_reducible first | exact HB.out | apply below_alloc | apply pw_below_drewN | apply below_drew1) | exact HB.out)) hb); clear HB; have HO135 := n0_; have HB := n1_; clear n0_ n1_; (try clear hb); (try clear hb2); (try clear hk); (try clear hi); (try clear ho0)) | (go_at_call 10; (with_reducible refine (lines_Parse.calls a1 t136 _ A21.out (Shp.below HS_.out (by repeat (first | (with_reducible first | exact HB.out | apply below_alloc | apply pw_below_drewN | apply below_drew1) | exact HB.out)))).mono ?_); rintro e w27 ⟨v137, rfl, ho0, hb⟩; have n0_ := Aside0.mk (Kd.R_elder' (by (with_reducible repeat (first | apply Kd.R_alloc | apply Kd.R_drewN | apply Kd.R_drew)); exact HO135.out) (Kd.R_base ho0) hb); have n1_ := Aside0.mk (Kd.R_lower (Kd.R_new' ho0 (Kd.R_lt (by (with_reducible repeat (first | apply Kd.R_alloc | apply Kd.R_drewN | apply Kd.R_drew)); exact HO135.out))) (below_size (by repeat (first | (with_reducible first | exact HB.out | apply below_alloc | apply pw_below_drewN | apply below_drew1) | exact HB.out)))); have n2_ := Aside0.mk (below_step (by repeat (first | (with_reducible first | exact HB.out | apply below_alloc | apply pw_below_drewN | apply below_drew1) | exact HB.out)) hb); clear HO135; clear HB; have HO135 := n0_; have HO138 := n1_; have HB := n2_; clear n0_ n1_ n2_; (try clear hb); (try clear hb2); (try clear hk); (try clear hi); (try clear ho0)) | (go_at_call 10; (with_reducible refine (lines_Parse.calls ((a0 ++ (⟨#[10]⟩ : ByteArray)) ++ a1) t139 _ A24.out (Shp.below HS_.out (by repeat (first | (with_reducible first | exact HB.out | apply below_alloc | apply pw_below_drewN | apply below_drew1) | exact HB.out)))).mono ?_); rintro e w28 ⟨v140, rfl, ho0, hb⟩; have n0_ := Aside0.mk (Kd.R_elder' (by (with_reducible repeat (first | apply Kd.R_alloc | apply Kd.R_drewN | apply Kd.R_drew)); exact HO135.out) (Kd.R_base ho0) hb); have n1_ := Aside0.mk (Kd.R_elder' (by (with_reducible repeat (first | apply Kd.R_alloc | apply Kd.R_drewN | apply Kd.R_drew)); exact HO138.out) (Kd.R_base ho0) hb); have n2_ := Aside0.mk (Kd.R_lower (Kd.R_new' (Kd.R_new' ho0 (Kd.R_lt (by (with_reducible repeat (first | apply Kd.R_alloc | apply Kd.R_drewN | apply Kd.R_drew)); exact HO135.out))) (Kd.R_lt (by (with_reducible repeat (first | apply Kd.R_alloc | apply Kd.R_drewN | apply Kd.R_drew)); exact HO138.out))) (below_size (by repeat (first | (with_reducible first | exact HB.out | apply below_alloc | apply pw_below_drewN | apply below_drew1) | exact HB.out)))); have n3_ := Aside0.mk (below_step (by repeat (first | (with_reducible first | exact HB.out | apply below_alloc | apply pw_below_drewN | apply below_drew1) | exact HB.out)) hb); clear HO135; clear HO138; clear HB; have HO135 := n0_; have HO138 := n1_; have HO141 := n2_; have HB := n3_; clear n0_ n1_ n2_ n3_; (try clear hb); (try clear hb2); (try clear hk); (try clear hi); (try clear ho0); obtain ⟨Ao29, co29, eo29⟩ := Kd.R_slice HO141.out; subst eo29; obtain ⟨Ao30, co30, eo30⟩ := Kd.R_slice HO135.out; subst eo30; obtain ⟨Ao31, co31, eo31⟩ := Kd.R_slice HO138.out; subst eo31))
              repeat (go_quiet (first | (go_at_call 10; (with_reducible refine (lines_Parse.calls a0 t133 _ A20.out (Shp.below HS_.out (by repeat (first | (with_reducible first | exact HB.out | apply below_alloc | apply pw_below_drewN | apply below_drew1) | exact HB.out)))).mono ?_); rintro e w26 ⟨v134, rfl, ho0, hb⟩; have n0_ := Aside0.mk (Kd.R_lower ho0 (below_size (by repeat (first | (with_reducible first | exact HB.out | apply below_alloc | apply pw_below_drewN | apply below_drew1) | exact HB.out)))); have n1_ := Aside0.mk (below_step (by repeat (first | (with_reducible first | exact HB.out | apply below_alloc | apply pw_below_drewN | apply below_drew1) | exact HB.out)) hb); clear HB; have HO135 := n0_; have HB := n1_; clear n0_ n1_; (try clear hb); (try clear hb2); (try clear hk); (try clear hi); (try clear ho0)) | (go_at_call 10; (with_reducible refine (lines_Parse.calls a1 t136 _ A21.out (Shp.below HS_.out (by repeat (first | (with_reducible first | exact HB.out | apply below_alloc | apply pw_below_drewN | apply below_drew1) | exact HB.out)))).mono ?_); rintro e w27 ⟨v137, rfl, ho0, hb⟩; have n0_ := Aside0.mk (Kd.R_elder' (by (with_reducible repeat (first | apply Kd.R_alloc | apply Kd.R_drewN | apply Kd.R_drew)); exact HO135.out) (Kd.R_base ho0) hb); have n1_ := Aside0.mk (Kd.R_lower (Kd.R_new' ho0 (Kd.R_lt (by (with_reducible repeat (first | apply Kd.R_alloc | apply Kd.R_drewN | apply Kd.R_drew)); exact HO135.out))) (below_size (by repeat (first | (with_reducible first | exact HB.out | apply below_alloc | apply pw_below_drewN | apply below_drew1) | exact HB.out)))); have n2_ := Aside0.mk (below_step (by repeat (first | (with_reducible first | exact HB.out | apply below_alloc | apply pw_below_drewN | apply below_drew1) | exact HB.out)) hb); clear HO135; clear HB; have HO135 := n0_; have HO138 := n1_; have HB := n2_; clear n0_ n1_ n2_; (try clear hb); (try clear hb2); (try clear hk); (try clear hi); (try clear ho0)) | (go_at_call 10; (with_reducible refine (lines_Parse.calls ((a0 ++ (⟨#[10]⟩ : ByteArray)) ++ a1) t139 _ A24.out (Shp.below HS_.out (by repeat (first | (with_reducible first | exact HB.out | apply below_alloc | apply pw_below_drewN | apply below_drew1) | exact HB.out)))).mono ?_); rintro e w28 ⟨v140, rfl, ho0, hb⟩; have n0_ := Aside0.mk (Kd.R_elder' (by (with_reducible repeat (first | apply Kd.R_alloc | apply Kd.R_drewN | apply Kd.R_drew)); exact HO135.out) (Kd.R_base ho0) hb); have n1_ := Aside0.mk (Kd.R_elder' (by (with_reducible repeat (first | apply Kd.R_alloc | apply Kd.R_drewN | apply Kd.R_drew)); exact HO138.out) (Kd.R_base ho0) hb); have n2_ := Aside0.mk (Kd.R_lower (Kd.R_new' (Kd.R_new' ho0 (Kd.R_lt (by (with_reducible repeat (first | apply Kd.R_alloc | apply Kd.R_drewN | apply Kd.R_drew)); exact HO135.out))) (Kd.R_lt (by (with_reducible repeat (first | apply Kd.R_alloc | apply Kd.R_drewN | apply Kd.R_drew)); exact HO138.out))) (below_size (by repeat (first | (with_reducible first | exact HB.out | apply below_alloc | apply pw_below_drewN | apply below_drew1) | exact HB.out)))); have n3_ := Aside0.mk (below_step (by repeat (first | (with_reducible first | exact HB.out | apply below_alloc | apply pw_below_drewN | apply below_drew1) | exact HB.out)) hb); clear HO135; clear HO138; clear HB; have HO135 := n0_; have HO138 := n1_; have HO141 := n2_; have HB := n3_; clear n0_ n1_ n2_ n3_; (try clear hb); (try clear hb2); (try clear hk); (try clear hi); (try clear ho0); obtain ⟨Ao29, co29, eo29⟩ := Kd.R_slice HO141.out; subst eo29; obtain ⟨Ao30, co30, eo30⟩ := Kd.R_slice HO135.out; subst eo30; obtain ⟨Ao31, co31, eo31⟩ := Kd.R_slice HO138.out; subst eo31)); try go_wp2_with (first | (go_at_call 10; (with_reducible refine (lines_Parse.calls a0 t133 _ A20.out (Shp.below HS_.out (by repeat (first | (with_reducible first | exact HB.out | apply below_alloc | apply pw_below_drewN | apply below_drew1) | exact HB.out)))).mono ?_); rintro e w26 ⟨v134, rfl, ho0, hb⟩; have n0_ := Aside0.mk (Kd.R_lower ho0 (below_size (by repeat (first | (with_reducible first | exact HB.out | apply below_alloc | apply pw_below_drewN | apply below_drew1) | exact HB.out)))); have n1_ := Aside0.mk (below_step (by repeat (first | (with_reducible first | exact HB.out | apply below_alloc | apply pw_below_drewN | apply below_drew1) | exact HB.out)) hb); clear HB; have HO135 := n0_; have HB := n1_; clear n0_ n1_; (try clear hb); (try clear hb2); (try clear hk); (try clear hi); (try clear ho0)) | (go_at_call 10; (with_reducible refine (lines_Parse.calls a1 t136 _ A21.out (Shp.below HS_.out (by repeat (first | (with_reducible first | exact HB.out | apply below_alloc | apply pw_below_drewN | apply below_drew1) | exact HB.out)))).mono ?_); rintro e w27 ⟨v137, rfl, ho0, hb⟩; have n0_ := Aside0.mk (Kd.R_elder' (by (with_reducible repeat (first | apply Kd.R_alloc | apply Kd.R_drewN | apply Kd.R_drew)); exact HO135.out) (Kd.R_base ho0) hb); have n1_ := Aside0.mk (Kd.R_lower (Kd.R_new' ho0 (Kd.R_lt (by (with_reducible repeat (first | apply Kd.R_alloc | apply Kd.R_drewN | apply Kd.R_drew)); exact HO135.out))) (below_size (by repeat (first | (with_reducible first | exact HB.out | apply below_alloc | apply pw_below_drewN | apply below_drew1) | exact HB.out)))); have n2_ := Aside0.mk (below_step (by repeat (first | (with_reducible first | exact HB.out | apply below_alloc | apply pw_below_drewN | apply below_drew1) | exact HB.out)) hb); clear HO135; clear HB; have HO135 := n0_; have HO138 := n1_; have HB := n2_; clear n0_ n1_ n2_; (try clear hb); (try clear hb2); (try clear hk); (try clear hi); (try clear ho0)) | (go_at_call 10; (with_reducible refine (lines_Parse.calls ((a0 ++ (⟨#[10]⟩ : ByteArray)) ++ a1) t139 _ A24.out (Shp.below HS_.out (by repeat (first | (with_reducible first | exact HB.out | apply below_alloc | apply pw_below_drewN | apply below_drew1) | exact HB.out)))).mono ?_); rintro e w28 ⟨v140, rfl, ho0, hb⟩; have n0_ := Aside0.mk (Kd.R_elder' (by (with_reducible repeat (first | apply Kd.R_alloc | apply Kd.R_drewN | apply Kd.R_drew)); exact HO135.out) (Kd.R_base ho0) hb); have n1_ := Aside0.mk (Kd.R_elder' (by (with_reducible repeat (first | apply Kd.R_alloc | apply Kd.R_drewN | apply Kd.R_drew)); exact HO138.out) (Kd.R_base ho0) hb); have n2_ := Aside0.mk (Kd.R_lower (Kd.R_new' (Kd.R_new' ho0 (Kd.R_lt (by (with_reducible repeat (first | apply Kd.R_alloc | apply Kd.R_drewN | apply Kd.R_drew)); exact HO135.out))) (Kd.R_lt (by (with_reducible repeat (first | apply Kd.R_alloc | apply Kd.R_drewN | apply Kd.R_drew)); exact HO138.out))) (below_size (by repeat (first | (with_reducible first | exact HB.out | apply below_alloc | apply pw_below_drewN | apply below_drew1) | exact HB.out)))); have n3_ := Aside0.mk (below_step (by repeat (first | (with_reducible first | exact HB.out | apply below_alloc | apply pw_below_drewN | apply below_drew1) | exact HB.out)) hb); clear HO135; clear HO138; clear HB; have HO135 := n0_; have HO138 := n1_; have HO141 := n2_; have HB := n3_; clear n0_ n1_ n2_ n3_; (try clear hb); (try clear hb2); (try clear hk); (try clear hi); (try clear ho0); obtain ⟨Ao29, co29, eo29⟩ := Kd.R_slice HO141.out; subst eo29; obtain ⟨Ao30, co30, eo30⟩ := Kd.R_slice HO135.out; subst eo30; obtain ⟨Ao31, co31, eo31⟩ := Kd.R_slice HO138.out; subst eo31)))
              go_loopg [8] kj2 (fun kq v8 w' => ∃ (x8_2 : Int), v8 = .int .i64 x8_2 ∧ Aside0 (decorumlaw09_LinesParts.l0 kq t133 t136 t139 x8_2 = some r) ∧ Aside0 (kq ≤ kj2) ∧ Aside0 (Kd.R k40 40 w' w.heap.size (fun k_ => some k_ ≠ ((.slice Ao31 t136.length co31) : Value).ownBlock ∧ some k_ ≠ ((.slice Ao29 t139.length co29) : Value).ownBlock) (.slice Ao30 t133.length co30) t133) ∧ Aside0 (Kd.R k40 40 w' w.heap.size (fun k_ => some k_ ≠ ((.slice Ao30 t133.length co30) : Value).ownBlock ∧ some k_ ≠ ((.slice Ao29 t139.length co29) : Value).ownBlock) (.slice Ao31 t136.length co31) t136) ∧ Aside0 (Kd.R k40 40 w' w.heap.size (fun k_ => some k_ ≠ ((.slice Ao30 t133.length co30) : Value).ownBlock ∧ some k_ ≠ ((.slice Ao31 t136.length co31) : Value).ownBlock) (.slice Ao29 t139.length co29) t139) ∧ Aside0 (Below w.heap.size w w'))
              case atStart => exact ⟨(0), (by first | rfl | (simp; done) | (simp [*]; done)), H', ⟨Nat.le_refl _⟩, ⟨by (with_reducible repeat (first | apply Kd.R_alloc | apply Kd.R_drewN | apply Kd.R_drew)); exact Kd.R_mono HO135.out (fun _ hk => ⟨hk.1.2, hk.2⟩)⟩, ⟨by (with_reducible repeat (first | apply Kd.R_alloc | apply Kd.R_drewN | apply Kd.R_drew)); exact Kd.R_mono HO138.out (fun _ hk => ⟨hk.1.2, hk.2⟩)⟩, ⟨by (with_reducible repeat (first | apply Kd.R_alloc | apply Kd.R_drewN | apply Kd.R_drew)); exact Kd.R_mono HO141.out (fun _ hk => ⟨hk.1.2, hk.2⟩)⟩, ⟨by repeat (first | (with_reducible first | exact HB.out | apply below_alloc | apply pw_below_drewN | apply below_drew1) | exact HB.out)⟩⟩
              case round =>
                clear H'
                try clear c1
                try clear p1
                try clear q1
                try clear hx1
                try clear qi1
                try clear c2
                try clear p2
                try clear c4
                try clear c4b0
                try clear c5
                try clear c5b0
                try clear c5b1
                try clear c6
                try clear c6b0
                try clear c6b1
                try clear p6
                try clear p7
                try clear q7
                try clear hx7
                try clear qi7
                try clear c8
                try clear c8b0
                try clear c8b1
                try clear c9
                try clear c9b0
                try clear c9b1
                try clear c10
                try clear c10b0
                try clear c10b1
                try clear c11
                try clear c11b0
                try clear c11b1
                try clear p12
                try clear q12
                try clear hx12
                try clear qi12
                try clear c13
                try clear c13b0
                try clear c13b1
                try clear c14
                try clear c14b0
                try clear c14b1
                try clear c15
                try clear c15b0
                try clear c15b1
                try clear p16
                try clear q16
                try clear hx16
                try clear qi16
                try clear c17
                try clear c22
                try clear c22b0
                try clear c22b1
                try clear c22b2
                try clear c23
                try clear c23b0
                try clear c23b1
                try clear c23b2
                try clear c25
                try clear c25b0
                try clear c25b1
                try clear p1
                try clear p12
                try clear p16
                try clear p2
                try clear p6
                try clear p7
                try clear q1
                try clear q12
                try clear q16
                try clear q7
                obtain ⟨x8_2, rfl, HA, HK2, HO_5, HO_6, HO_7, HB⟩ := hrel
                cases gk with
                | zero => exact absurd HA.out (by simp [decorumlaw09_LinesParts.l0])
                | succ k2 =>
                  have H := HA.out
                  clear HA
                  simp only [decorumlaw09_LinesParts.l0] at H
                  by_cases c32 : x8_2 < (t139.length : Int)
                  · rw [if_pos c32] at H
                    have c32b0 : decide (x8_2 < (t139.length : Int)) = true := decide_eq_true c32
                    clear c32
                    by_cases c33 : x8_2 < (t133.length : Int)
                    · rw [if_pos c33] at H
                      have c33b0 : decide (x8_2 < (t133.length : Int)) = true := decide_eq_true c33
                      clear c33
                      by_cases c34 : 0 ≤ x8_2
                      · rw [if_pos c34] at H
                        have c34b0 : decide (0 ≤ x8_2) = true := decide_eq_true c34
                        clear c34
                        by_cases c35 : (!((((rd_T40 t139 x8_2).f0).toList) == (((rd_T40 t133 x8_2).f0).toList)) || (!((((rd_T40 t139 x8_2).f1).toList) == (((rd_T40 t133 x8_2).f1).toList)))) = true
                        · rw [if_pos c35] at H
                          have c35b0 : (!((((rd_T40 t139 x8_2).f0).toList) == (((rd_T40 t133 x8_2).f0).toList)) || (!((((rd_T40 t139 x8_2).f1).toList) == (((rd_T40 t133 x8_2).f1).toList)))) = true := c35
                          clear c35
                          exact absurd ((Option.some.inj H).trans HR_.out) (by decide)
                        · rw [if_neg c35] at H
                          have c35b0 : (!((((rd_T40 t139 x8_2).f0).toList) == (((rd_T40 t133 x8_2).f0).toList)) || (!((((rd_T40 t139 x8_2).f1).toList) == (((rd_T40 t133 x8_2).f1).toList)))) = false := by simpa using c35
                          clear c35
                          by_cases c36 : x8_2 ≥ (t133.length : Int)
                          · rw [if_pos c36] at H
                            have c36b0 : decide ((t133.length : Int) ≤ x8_2) = true := decide_eq_true c36
                            clear c36
                            obtain ⟨ji37, hji37⟩ : ∃ j_ : Int, (wrap64 (x8_2 - (t133.length : Int))) = j_ := ⟨_, rfl⟩
                            replace H : (if 0 ≤ (ji37) then (if (ji37) < (t136.length : Int) then (if (!((((rd_T40 t139 x8_2).f0).toList) == (((rd_T40 t136 (ji37)).f0).toList)) || (!((((rd_T40 t139 x8_2).f1).toList) == (((rd_T40 t136 (ji37)).f1).toList)))) = true then (some false) else (decorumlaw09_LinesParts.l0 k2 t133 t136 t139 (wrap64 (x8_2 + 1)))) else (none)) else (none)) = some r := by first | (rw [hji37] at H; exact H) | (simp only [hji37] at H ⊢; exact H)
                            have hji37w : (IntKind.i64.wrap (x8_2 - (t133.length : Int))) = ji37 := (i64_w _).trans hji37
                            by_cases c38 : 0 ≤ (ji37)
                            · rw [if_pos c38] at H
                              have c38b0 : decide (0 ≤ (ji37)) = true := decide_eq_true c38
                              clear c38
                              by_cases c39 : (ji37) < (t136.length : Int)
                              · rw [if_pos c39] at H
                                have c39b0 : decide ((ji37) < (t136.length : Int)) = true := decide_eq_true c39
                                clear c39
                                by_cases c40 : (!((((rd_T40 t139 x8_2).f0).toList) == (((rd_T40 t136 (ji37)).f0).toList)) || (!((((rd_T40 t139 x8_2).f1).toList) == (((rd_T40 t136 (ji37)).f1).toList)))) = true
                                · rw [if_pos c40] at H
                                  have c40b0 : (!((((rd_T40 t139 x8_2).f0).toList) == (((rd_T40 t136 (ji37)).f0).toList)) || (!((((rd_T40 t139 x8_2).f1).toList) == (((rd_T40 t136 (ji37)).f1).toList)))) = true := c40
                                  clear c40
                                  exact absurd ((Option.some.inj H).trans HR_.out) (by decide)
                                · rw [if_neg c40] at H
                                  have c40b0 : (!((((rd_T40 t139 x8_2).f0).toList) == (((rd_T40 t136 (ji37)).f0).toList)) || (!((((rd_T40 t139 x8_2).f1).toList) == (((rd_T40 t136 (ji37)).f1).toList)))) = false := by simpa using c40
                                  clear c40
                                  have H' := Aside0.mk H
                                  clear H
                                  have p142 : 0 ≤ (x8_2 : Int) := of_decide_eq_true (by first | (with_reducible assumption) | assumption)
                                  have q142 : x8_2 < (t139.length : Int) := of_decide_eq_true (by first | (with_reducible assumption) | assumption)
                                  obtain ⟨ad142, e142, hx142_0, hx142_1⟩ := at_T40 (Kd.R_reads' HO_7.out).2.2 x8_2 p142 q142
                                  cases e142
                                  replace p142 := eq_true p142
                                  replace q142 := eq_true q142
                                  have p143 : 0 ≤ (x8_2 : Int) := of_decide_eq_true (by first | (with_reducible assumption) | assumption)
                                  have q143 : x8_2 < (t133.length : Int) := of_decide_eq_true (by first | (with_reducible assumption) | assumption)
                                  obtain ⟨ad143, e143, hx143_0, hx143_1⟩ := at_T40 (Kd.R_reads' HO_5.out).2.2 x8_2 p143 q143
                                  cases e143
                                  replace p143 := eq_true p143
                                  replace q143 := eq_true q143
                                  have p144 : 0 ≤ (x8_2 : Int) := of_decide_eq_true (by first | (with_reducible assumption) | assumption)
                                  have q144 : x8_2 < (t139.length : Int) := of_decide_eq_true (by first | (with_reducible assumption) | assumption)
                                  obtain ⟨ad144, e144, hx144_0, hx144_1⟩ := at_T40 (Kd.R_reads' HO_7.out).2.2 x8_2 p144 q144
                                  obtain rfl : ad142 = ad144 := (by injection e144)
                                  replace p144 := eq_true p144
                                  replace q144 := eq_true q144
                                  have p145 : 0 ≤ ((ji37) : Int) := of_decide_eq_true (by first | (with_reducible assumption) | assumption)
                                  have q145 : (ji37) < (t136.length : Int) := of_decide_eq_true (by first | (with_reducible assumption) | assumption)
                                  obtain ⟨ad145, e145, hx145_0, hx145_1⟩ := at_T40 (Kd.R_reads' HO_6.out).2.2 (ji37) p145 q145
                                  cases e145
                                  replace p145 := eq_true p145
                                  replace q145 := eq_true q145
                                  go_wp2
                                  repeat (go_quiet (fail); try go_wp2)
                                  go_roundg k2
                                  case measure => have := HJ2.out; have := HK2.out; omega
                                  case rel => exact ⟨(wrap64 (x8_2 + 1)), (by first | rfl | (simp; done) | (simp [*]; done)), H', ⟨by have := HJ2.out; have := HK2.out; omega⟩, ⟨by (with_reducible repeat (first | apply Kd.R_alloc | apply Kd.R_drewN | apply Kd.R_drew)); exact HO_5.out⟩, ⟨by (with_reducible repeat (first | apply Kd.R_alloc | apply Kd.R_drewN | apply Kd.R_drew)); exact HO_6.out⟩, ⟨by (with_reducible repeat (first | apply Kd.R_alloc | apply Kd.R_drewN | apply Kd.R_drew)); exact HO_7.out⟩, ⟨by repeat (first | (with_reducible first | exact HB.out | apply below_alloc | apply pw_below_drewN | apply below_drew1) | exact HB.out)⟩⟩
                              · rw [if_neg c39] at H
                                exact absurd H (by simp)
                            · rw [if_neg c38] at H
                              exact absurd H (by simp)
                          · rw [if_neg c36] at H
                            have c36b0 : decide ((t133.length : Int) ≤ x8_2) = false := decide_eq_false c36
                            clear c36
                            have H' := Aside0.mk H
                            clear H
                            have p142 : 0 ≤ (x8_2 : Int) := of_decide_eq_true (by first | (with_reducible assumption) | assumption)
                            have q142 : x8_2 < (t139.length : Int) := of_decide_eq_true (by first | (with_reducible assumption) | assumption)
                            obtain ⟨ad142, e142, hx142_0, hx142_1⟩ := at_T40 (Kd.R_reads' HO_7.out).2.2 x8_2 p142 q142
                            cases e142
                            replace p142 := eq_true p142
                            replace q142 := eq_true q142
                            have p143 : 0 ≤ (x8_2 : Int) := of_decide_eq_true (by first | (with_reducible assumption) | assumption)
                            have q143 : x8_2 < (t133.length : Int) := of_decide_eq_true (by first | (with_reducible assumption) | assumption)
                            obtain ⟨ad143, e143, hx143_0, hx143_1⟩ := at_T40 (Kd.R_reads' HO_5.out).2.2 x8_2 p143 q143
                            cases e143
                            replace p143 := eq_true p143
                            replace q143 := eq_true q143
                            go_wp2
                            repeat (go_quiet (fail); try go_wp2)
                            go_roundg k2
                            case measure => have := HJ2.out; have := HK2.out; omega
                            case rel => exact ⟨(wrap64 (x8_2 + 1)), (by first | rfl | (simp; done) | (simp [*]; done)), H', ⟨by have := HJ2.out; have := HK2.out; omega⟩, ⟨by (with_reducible repeat (first | apply Kd.R_alloc | apply Kd.R_drewN | apply Kd.R_drew)); exact HO_5.out⟩, ⟨by (with_reducible repeat (first | apply Kd.R_alloc | apply Kd.R_drewN | apply Kd.R_drew)); exact HO_6.out⟩, ⟨by (with_reducible repeat (first | apply Kd.R_alloc | apply Kd.R_drewN | apply Kd.R_drew)); exact HO_7.out⟩, ⟨by repeat (first | (with_reducible first | exact HB.out | apply below_alloc | apply pw_below_drewN | apply below_drew1) | exact HB.out)⟩⟩
                      · rw [if_neg c34] at H
                        exact absurd H (by simp)
                    · rw [if_neg c33] at H
                      have c33b0 : decide (x8_2 < (t133.length : Int)) = false := decide_eq_false c33
                      clear c33
                      by_cases c41 : x8_2 ≥ (t133.length : Int)
                      · rw [if_pos c41] at H
                        have c41b0 : decide ((t133.length : Int) ≤ x8_2) = true := decide_eq_true c41
                        clear c41
                        by_cases c42 : 0 ≤ x8_2
                        · rw [if_pos c42] at H
                          have c42b0 : decide (0 ≤ x8_2) = true := decide_eq_true c42
                          clear c42
                          obtain ⟨ji43, hji43⟩ : ∃ j_ : Int, (wrap64 (x8_2 - (t133.length : Int))) = j_ := ⟨_, rfl⟩
                          replace H : (if 0 ≤ (ji43) then (if (ji43) < (t136.length : Int) then (if (!((((rd_T40 t139 x8_2).f0).toList) == (((rd_T40 t136 (ji43)).f0).toList)) || (!((((rd_T40 t139 x8_2).f1).toList) == (((rd_T40 t136 (ji43)).f1).toList)))) = true then (some false) else (decorumlaw09_LinesParts.l0 k2 t133 t136 t139 (wrap64 (x8_2 + 1)))) else (none)) else (none)) = some r := by first | (rw [hji43] at H; exact H) | (simp only [hji43] at H ⊢; exact H)
                          have hji43w : (IntKind.i64.wrap (x8_2 - (t133.length : Int))) = ji43 := (i64_w _).trans hji43
                          by_cases c44 : 0 ≤ (ji43)
                          · rw [if_pos c44] at H
                            have c44b0 : decide (0 ≤ (ji43)) = true := decide_eq_true c44
                            clear c44
                            by_cases c45 : (ji43) < (t136.length : Int)
                            · rw [if_pos c45] at H
                              have c45b0 : decide ((ji43) < (t136.length : Int)) = true := decide_eq_true c45
                              clear c45
                              by_cases c46 : (!((((rd_T40 t139 x8_2).f0).toList) == (((rd_T40 t136 (ji43)).f0).toList)) || (!((((rd_T40 t139 x8_2).f1).toList) == (((rd_T40 t136 (ji43)).f1).toList)))) = true
                              · rw [if_pos c46] at H
                                have c46b0 : (!((((rd_T40 t139 x8_2).f0).toList) == (((rd_T40 t136 (ji43)).f0).toList)) || (!((((rd_T40 t139 x8_2).f1).toList) == (((rd_T40 t136 (ji43)).f1).toList)))) = true := c46
                                clear c46
                                exact absurd ((Option.some.inj H).trans HR_.out) (by decide)
                              · rw [if_neg c46] at H
                                have c46b0 : (!((((rd_T40 t139 x8_2).f0).toList) == (((rd_T40 t136 (ji43)).f0).toList)) || (!((((rd_T40 t139 x8_2).f1).toList) == (((rd_T40 t136 (ji43)).f1).toList)))) = false := by simpa using c46
                                clear c46
                                have H' := Aside0.mk H
                                clear H
                                have p146 : 0 ≤ (x8_2 : Int) := of_decide_eq_true (by first | (with_reducible assumption) | assumption)
                                have q146 : x8_2 < (t139.length : Int) := of_decide_eq_true (by first | (with_reducible assumption) | assumption)
                                obtain ⟨ad146, e146, hx146_0, hx146_1⟩ := at_T40 (Kd.R_reads' HO_7.out).2.2 x8_2 p146 q146
                                cases e146
                                replace p146 := eq_true p146
                                replace q146 := eq_true q146
                                have p147 : 0 ≤ ((ji43) : Int) := of_decide_eq_true (by first | (with_reducible assumption) | assumption)
                                have q147 : (ji43) < (t136.length : Int) := of_decide_eq_true (by first | (with_reducible assumption) | assumption)
                                obtain ⟨ad147, e147, hx147_0, hx147_1⟩ := at_T40 (Kd.R_reads' HO_6.out).2.2 (ji43) p147 q147
                                cases e147
                                replace p147 := eq_true p147
                                replace q147 := eq_true q147
                                go_wp2
                                repeat (go_quiet (fail); try go_wp2)
                                go_roundg k2
                                case measure => have := HJ2.out; have := HK2.out; omega
                                case rel => exact ⟨(wrap64 (x8_2 + 1)), (by first | rfl | (simp; done) | (simp [*]; done)), H', ⟨by have := HJ2.out; have := HK2.out; omega⟩, ⟨by (with_reducible repeat (first | apply Kd.R_alloc | apply Kd.R_drewN | apply Kd.R_drew)); exact HO_5.out⟩, ⟨by (with_reducible repeat (first | apply Kd.R_alloc | apply Kd.R_drewN | apply Kd.R_drew)); exact HO_6.out⟩, ⟨by (with_reducible repeat (first | apply Kd.R_alloc | apply Kd.R_drewN | apply Kd.R_drew)); exact HO_7.out⟩, ⟨by repeat (first | (with_reducible first | exact HB.out | apply below_alloc | apply pw_below_drewN | apply below_drew1) | exact HB.out)⟩⟩
                            · rw [if_neg c45] at H
                              exact absurd H (by simp)
                          · rw [if_neg c44] at H
                            exact absurd H (by simp)
                        · rw [if_neg c42] at H
                          exact absurd H (by simp)
                      · rw [if_neg c41] at H
                        have c41b0 : decide ((t133.length : Int) ≤ x8_2) = false := decide_eq_false c41
                        clear c41
                        have H' := Aside0.mk H
                        clear H
                        go_wp2
                        repeat (go_quiet (fail); try go_wp2)
                        go_roundg k2
                        case measure => have := HJ2.out; have := HK2.out; omega
                        case rel => exact ⟨(wrap64 (x8_2 + 1)), (by first | rfl | (simp; done) | (simp [*]; done)), H', ⟨by have := HJ2.out; have := HK2.out; omega⟩, ⟨by (with_reducible repeat (first | apply Kd.R_alloc | apply Kd.R_drewN | apply Kd.R_drew)); exact HO_5.out⟩, ⟨by (with_reducible repeat (first | apply Kd.R_alloc | apply Kd.R_drewN | apply Kd.R_drew)); exact HO_6.out⟩, ⟨by (with_reducible repeat (first | apply Kd.R_alloc | apply Kd.R_drewN | apply Kd.R_drew)); exact HO_7.out⟩, ⟨by repeat (first | (with_reducible first | exact HB.out | apply below_alloc | apply pw_below_drewN | apply below_drew1) | exact HB.out)⟩⟩
                  · rw [if_neg c32] at H
                    have c32b0 : decide (x8_2 < (t139.length : Int)) = false := decide_eq_false c32
                    clear c32
                    replace H := Option.bind_eq_some_iff.mp H
                    obtain ⟨t148, A470, H⟩ := H
                    replace H : (some t148) = some r := H
                    have A47 := Aside0.mk A470
                    clear A470
                    obtain rfl := Option.some.inj H
                    go_wp2_with (first | (go_at_call 12; (with_reducible refine (decorumlaw09_awake.calls  t148 _ A47.out (Shp.below HS_.out (by repeat (first | (with_reducible first | exact HB.out | apply below_alloc | apply pw_below_drewN | apply below_drew1) | exact HB.out)))).mono ?_); rintro e w48 ⟨rfl, hb⟩; have n0_ := Aside0.mk (Kd.R_below (by (with_reducible repeat (first | apply Kd.R_alloc | apply Kd.R_drewN | apply Kd.R_drew)); exact HO_5.out) hb); have n1_ := Aside0.mk (Kd.R_below (by (with_reducible repeat (first | apply Kd.R_alloc | apply Kd.R_drewN | apply Kd.R_drew)); exact HO_6.out) hb); have n2_ := Aside0.mk (Kd.R_below (by (with_reducible repeat (first | apply Kd.R_alloc | apply Kd.R_drewN | apply Kd.R_drew)); exact HO_7.out) hb); have n3_ := Aside0.mk (below_step (by repeat (first | (with_reducible first | exact HB.out | apply below_alloc | apply pw_below_drewN | apply below_drew1) | exact HB.out)) hb); clear HO_5; clear HO_6; clear HO_7; clear HB; have HO_5 := n0_; have HO_6 := n1_; have HO_7 := n2_; have HB := n3_; clear n0_ n1_ n2_ n3_; (try clear hb); (try clear hb2); (try clear hk); (try clear hi)))
                    repeat (go_quiet (first | (go_at_call 12; (with_reducible refine (decorumlaw09_awake.calls  t148 _ A47.out (Shp.below HS_.out (by repeat (first | (with_reducible first | exact HB.out | apply below_alloc | apply pw_below_drewN | apply below_drew1) | exact HB.out)))).mono ?_); rintro e w48 ⟨rfl, hb⟩; have n0_ := Aside0.mk (Kd.R_below (by (with_reducible repeat (first | apply Kd.R_alloc | apply Kd.R_drewN | apply Kd.R_drew)); exact HO_5.out) hb); have n1_ := Aside0.mk (Kd.R_below (by (with_reducible repeat (first | apply Kd.R_alloc | apply Kd.R_drewN | apply Kd.R_drew)); exact HO_6.out) hb); have n2_ := Aside0.mk (Kd.R_below (by (with_reducible repeat (first | apply Kd.R_alloc | apply Kd.R_drewN | apply Kd.R_drew)); exact HO_7.out) hb); have n3_ := Aside0.mk (below_step (by repeat (first | (with_reducible first | exact HB.out | apply below_alloc | apply pw_below_drewN | apply below_drew1) | exact HB.out)) hb); clear HO_5; clear HO_6; clear HO_7; clear HB; have HO_5 := n0_; have HO_6 := n1_; have HO_7 := n2_; have HB := n3_; clear n0_ n1_ n2_ n3_; (try clear hb); (try clear hb2); (try clear hk); (try clear hi))); try go_wp2_with (first | (go_at_call 12; (with_reducible refine (decorumlaw09_awake.calls  t148 _ A47.out (Shp.below HS_.out (by repeat (first | (with_reducible first | exact HB.out | apply below_alloc | apply pw_below_drewN | apply below_drew1) | exact HB.out)))).mono ?_); rintro e w48 ⟨rfl, hb⟩; have n0_ := Aside0.mk (Kd.R_below (by (with_reducible repeat (first | apply Kd.R_alloc | apply Kd.R_drewN | apply Kd.R_drew)); exact HO_5.out) hb); have n1_ := Aside0.mk (Kd.R_below (by (with_reducible repeat (first | apply Kd.R_alloc | apply Kd.R_drewN | apply Kd.R_drew)); exact HO_6.out) hb); have n2_ := Aside0.mk (Kd.R_below (by (with_reducible repeat (first | apply Kd.R_alloc | apply Kd.R_drewN | apply Kd.R_drew)); exact HO_7.out) hb); have n3_ := Aside0.mk (below_step (by repeat (first | (with_reducible first | exact HB.out | apply below_alloc | apply pw_below_drewN | apply below_drew1) | exact HB.out)) hb); clear HO_5; clear HO_6; clear HO_7; clear HB; have HO_5 := n0_; have HO_6 := n1_; have HO_7 := n2_; have HB := n3_; clear n0_ n1_ n2_ n3_; (try clear hb); (try clear hb2); (try clear hk); (try clear hi))))
                    go_ret
                    exact ⟨by first | rfl | (simp [Go.Proofs.YthbmedhejlhclaaDoor.QLaw.errW_none, Go.Proofs.YthbmedhejlhclaaDoor.QLaw.errW_some] <;> rfl) | (simp [*, Go.Proofs.YthbmedhejlhclaaDoor.QLaw.errW_none, Go.Proofs.YthbmedhejlhclaaDoor.QLaw.errW_some] <;> rfl) | (simp [wrap64]; done) | (simp [Go.Proofs.YthbmedhejlhclaaDoor.QLaw.errW_none, Go.Proofs.YthbmedhejlhclaaDoor.QLaw.errW_some] <;> exact empty_bne _), by repeat (first | (with_reducible first | exact HB.out | apply below_alloc | apply pw_below_drewN | apply below_drew1) | exact HB.out)⟩
            · rw [if_neg c25] at H
              have c25b0 : ((t139.length : Int) == (wrap64 ((t133.length : Int) + (t136.length : Int)))) = false := beq_eq_false_iff_ne.mpr c25
              have c25b1 : ((t139.length : Int) != (wrap64 ((t133.length : Int) + (t136.length : Int)))) = true := bne_iff_ne.mpr c25
              exact absurd ((Option.some.inj H).trans HR_.out) (by decide)
          · rw [if_neg c23] at H
            exact absurd H (by simp)
        · rw [if_neg c22] at H
          exact absurd H (by simp)

/-- THE ONE PURE STATEMENT of decorumlaw09_LinesParts: yours. -/
def decorumlaw09_LinesParts.Pure : Prop := ∀ (a0 : ByteArray) (a1 : ByteArray), a0.size ≤ 140737488351232 → a1.size ≤ 140737488351232 → ∃ k, decorumlaw09_LinesParts.f k a0 a1 = some true
theorem decorumlaw09_LinesParts.walk (P : decorumlaw09_LinesParts.Pure) (a0 : ByteArray) (a1 : ByteArray) (w : World) (w0 : a0.size ≤ 140737488351232) (w1 : a1.size ≤ 140737488351232) (hS_ : Shp w) :
    Calls Tryd.prog 8 #[.string a0, .string a1] w fun e w' => e = .returned (.bool true) ∧ Below w.heap.size w w' := by
  obtain ⟨k, h⟩ := P a0 a1 w0 w1
  refine (decorumlaw09_LinesParts.calls k a0 a1 true w rfl h hS_).mono ?_
  rintro e w' ⟨rfl, hd⟩
  exact ⟨rfl, hd⟩

end Go.Proofs.YthbmedhejlhclaaDoor.QLaw
