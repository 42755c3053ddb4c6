-- A text that a changed copy of the print program wrote for this claim (NOTES.md, changed print); it is not a printed text.
import Derived.Test.YthbmedhejlhclaaDoorQBasex0
import Derived.Test.YthbmedhejlhclaaDoorQBasex1
namespace Go.Proofs.YthbmedhejlhclaaDoor.QBase
open Go.Proofs.YthbmedhejlhclaaDoor.Given
open Go.RowKit Go.Proofs.YthbmedhejlhclaaDoorW.PrintWords Go.Proofs.YthbmedhejlhclaaDoorW.PrintLast Go.Proofs.YthbmedhejlhclaaDoorW.PrintMore
attribute [local go_sem] max2_int min2_int max_two min_two max_three min_three max_four min_four   -- for this text's walks alone
set_option linter.unusedVariables false
set_option linter.unusedSimpArgs false

attribute [local go_sem high] eqA59
/-! ### decorumlaw09_alike: function 15 -/
mutual
def decorumlaw09_alike.l0 : Nat → List (S53) → List (S57) → Int → Option (Bool)
  | 0, _, _, _ => none
  | k + 1, x0, x1, x5 => if x5 < (x0.length : Int) then (if 0 ≤ x5 then (if x5 < (x1.length : Int) then (if ((rd_T53 x0 x5).f2) = ((rd_T57 x1 x5).f2) then (if (((rd_T53 x0 x5).f0).length : Int) = (((rd_T57 x1 x5).f0).length : Int) then (decorumlaw09_alike.j1 k x0 x1 x5 ((((rd_T53 x0 x5).f1).length : Int) != (((rd_T57 x1 x5).f1).length : Int))) else (decorumlaw09_alike.j1 k x0 x1 x5 true)) else (decorumlaw09_alike.j1 k x0 x1 x5 true)) else (none)) else (none)) else (some true)
def decorumlaw09_alike.j1 : Nat → List (S53) → List (S57) → Int → Bool → Option (Bool)
  | 0, _, _, _, _ => none
  | k + 1, x0, x1, x5, x59 => if x59 = true then (some false) else (decorumlaw09_alike.l1 k x0 x1 x5 0)
def decorumlaw09_alike.l1 : Nat → List (S53) → List (S57) → Int → Int → Option (Bool)
  | 0, _, _, _, _ => none
  | k + 1, x0, x1, x5, x6 => if 0 ≤ x5 then (if x5 < (x0.length : Int) then (if x6 < (((rd_T53 x0 x5).f0).length : Int) then (if 0 ≤ x6 then (if x5 < (x1.length : Int) then (if x6 < (((rd_T57 x1 x5).f0).length : Int) then (if (rdOf ByteArray.empty ((rd_T53 x0 x5).f0) x6).toList = (rdOf ByteArray.empty ((rd_T57 x1 x5).f0) x6).toList then (decorumlaw09_alike.l1 k x0 x1 x5 (wrap64 (x6 + 1))) else (some false)) else (none)) else (none)) else (none)) else (decorumlaw09_alike.l2 k x0 x1 x5 0)) else (none)) else (none)
def decorumlaw09_alike.l2 : Nat → List (S53) → List (S57) → Int → Int → Option (Bool)
  | 0, _, _, _, _ => none
  | k + 1, x0, x1, x5, x7 => if 0 ≤ x5 then (if x5 < (x0.length : Int) then (if x7 < (((rd_T53 x0 x5).f1).length : Int) then (if 0 ≤ x7 then (if x5 < (x1.length : Int) then (if x7 < (((rd_T57 x1 x5).f1).length : Int) then (if (!(((rd_T59 ((rd_T53 x0 x5).f1) x7).f0) == ((rd_T59 ((rd_T57 x1 x5).f1) x7).f0)) || (!((((rd_T59 ((rd_T53 x0 x5).f1) x7).f1).toList) == (((rd_T59 ((rd_T57 x1 x5).f1) x7).f1).toList)))) = true then (some false) else (decorumlaw09_alike.l2 k x0 x1 x5 (wrap64 (x7 + 1)))) else (none)) else (none)) else (none)) else (decorumlaw09_alike.l0 k x0 x1 (wrap64 (x5 + 1)))) else (none)) else (none)
end
def decorumlaw09_alike.f (k : Nat) (l0 : List (S53)) (l1 : List (S57)) : Option (Bool) := if (l0.length : Int) = (l1.length : Int) then (decorumlaw09_alike.l0 k l0 l1 0) else (some false)
theorem decorumlaw09_alike.mono_l : ∀ k, (∀ y0 y1 y2, LeO (decorumlaw09_alike.l0 k y0 y1 y2) (decorumlaw09_alike.l0 (k + 1) y0 y1 y2)) ∧ (∀ y0 y1 y2 y3, LeO (decorumlaw09_alike.j1 k y0 y1 y2 y3) (decorumlaw09_alike.j1 (k + 1) y0 y1 y2 y3)) ∧ (∀ y0 y1 y2 y3, LeO (decorumlaw09_alike.l1 k y0 y1 y2 y3) (decorumlaw09_alike.l1 (k + 1) y0 y1 y2 y3)) ∧ (∀ y0 y1 y2 y3, LeO (decorumlaw09_alike.l2 k y0 y1 y2 y3) (decorumlaw09_alike.l2 (k + 1) y0 y1 y2 y3))
  | 0 => ⟨fun _ _ _ r h => by simp [decorumlaw09_alike.l0] at h, fun _ _ _ _ r h => by simp [decorumlaw09_alike.j1] at h, fun _ _ _ _ r h => by simp [decorumlaw09_alike.l1] at h, fun _ _ _ _ r h => by simp [decorumlaw09_alike.l2] at h⟩
  | k + 1 => by
    obtain ⟨ih0, ih1, ih2, ih3⟩ := decorumlaw09_alike.mono_l k
    refine ⟨?_, ?_, ?_, ?_⟩
    · intro y0 y1 y2
      unfold decorumlaw09_alike.l0
      repeat' first
      | (with_reducible exact ih0 _ _ _)
      | (with_reducible exact ih1 _ _ _ _)
      | (with_reducible exact ih2 _ _ _ _)
      | (with_reducible exact ih3 _ _ _ _)
      | (with_reducible exact LeO.refl _)
      | (with_reducible exact LeO.none _)
      | (with_reducible refine LeO.ite ?_ ?_)
      | (with_reducible refine LeO.bind ?_ (fun _ => ?_))
      | exact ih0 _ _ _
      | exact ih1 _ _ _ _
      | exact ih2 _ _ _ _
      | exact ih3 _ _ _ _
      | exact LeO.none _
      | refine LeO.ite ?_ ?_
      | refine LeO.bind ?_ (fun _ => ?_)
    · intro y0 y1 y2 y3
      unfold decorumlaw09_alike.j1
      repeat' first
      | (with_reducible exact ih0 _ _ _)
      | (with_reducible exact ih1 _ _ _ _)
      | (with_reducible exact ih2 _ _ _ _)
      | (with_reducible exact ih3 _ _ _ _)
      | (with_reducible exact LeO.refl _)
      | (with_reducible exact LeO.none _)
      | (with_reducible refine LeO.ite ?_ ?_)
      | (with_reducible refine LeO.bind ?_ (fun _ => ?_))
      | exact ih0 _ _ _
      | exact ih1 _ _ _ _
      | exact ih2 _ _ _ _
      | exact ih3 _ _ _ _
      | exact LeO.none _
      | refine LeO.ite ?_ ?_
      | refine LeO.bind ?_ (fun _ => ?_)
    · intro y0 y1 y2 y3
      unfold decorumlaw09_alike.l1
      repeat' first
      | (with_reducible exact ih0 _ _ _)
      | (with_reducible exact ih1 _ _ _ _)
      | (with_reducible exact ih2 _ _ _ _)
      | (with_reducible exact ih3 _ _ _ _)
      | (with_reducible exact LeO.refl _)
      | (with_reducible exact LeO.none _)
      | (with_reducible refine LeO.ite ?_ ?_)
      | (with_reducible refine LeO.bind ?_ (fun _ => ?_))
      | exact ih0 _ _ _
      | exact ih1 _ _ _ _
      | exact ih2 _ _ _ _
      | exact ih3 _ _ _ _
      | exact LeO.none _
      | refine LeO.ite ?_ ?_
      | refine LeO.bind ?_ (fun _ => ?_)
    · intro y0 y1 y2 y3
      unfold decorumlaw09_alike.l2
      repeat' first
      | (with_reducible exact ih0 _ _ _)
      | (with_reducible exact ih1 _ _ _ _)
      | (with_reducible exact ih2 _ _ _ _)
      | (with_reducible exact ih3 _ _ _ _)
      | (with_reducible exact LeO.refl _)
      | (with_reducible exact LeO.none _)
      | (with_reducible refine LeO.ite ?_ ?_)
      | (with_reducible refine LeO.bind ?_ (fun _ => ?_))
      | exact ih0 _ _ _
      | exact ih1 _ _ _ _
      | exact ih2 _ _ _ _
      | exact ih3 _ _ _ _
      | exact LeO.none _
      | refine LeO.ite ?_ ?_
      | refine LeO.bind ?_ (fun _ => ?_)
theorem decorumlaw09_alike.mono : ∀ a0 a1 k, LeO (decorumlaw09_alike.f k a0 a1) (decorumlaw09_alike.f (k + 1) a0 a1) := by
  intro a0 a1 k
  obtain ⟨ih0, ih1, ih2, ih3⟩ := decorumlaw09_alike.mono_l k
  unfold decorumlaw09_alike.f
  repeat' first
      | (with_reducible exact ih0 _ _ _)
      | (with_reducible exact ih1 _ _ _ _)
      | (with_reducible exact ih2 _ _ _ _)
      | (with_reducible exact ih3 _ _ _ _)
      | (with_reducible exact LeO.refl _)
      | (with_reducible exact LeO.none _)
      | (with_reducible refine LeO.ite ?_ ?_)
      | (with_reducible refine LeO.bind ?_ (fun _ => ?_))
      | exact ih0 _ _ _
      | exact ih1 _ _ _ _
      | exact ih2 _ _ _ _
      | exact ih3 _ _ _ _
      | exact LeO.none _
      | refine LeO.ite ?_ ?_
      | refine LeO.bind ?_ (fun _ => ?_)
set_option maxHeartbeats 8000000 in
set_option maxRecDepth 100000 in
theorem decorumlaw09_alike.calls (k : Nat) (A0 : Option Addr) (c0 : Nat) (l0 : List (S53)) (A1 : Option Addr) (c1 : Nat) (l1 : List (S57)) (r : Bool) (w : World) (hr0 : Kd.C k53 w A0 l0.length l0) (hc0 : l0.length ≤ c0) (hr1 : Kd.C k57 w A1 l1.length l1) (hc1 : l1.length ≤ c1) (h : decorumlaw09_alike.f k l0 l1 = some r) :
    Calls Tryd.prog 15 #[.slice A0 l0.length c0, .slice A1 l1.length c1] w fun e w' => e = .returned (.bool r) ∧ Drawn0 w w' := by
  have hu59 := Tryd.underlying59
  have HR0 := Aside0.mk hr0
  have HC0 := Aside0.mk hc0
  clear hr0 hc0
  have HR1 := Aside0.mk hr1
  have HC1 := Aside0.mk hc1
  clear hr1 hc1
  have H : (if (l0.length : Int) = (l1.length : Int) then (decorumlaw09_alike.l0 k l0 l1 0) else (some false)) = some r := h
  clear h
  by_cases c3 : (l0.length : Int) = (l1.length : Int)
  · rw [if_pos c3] at H
    have c3b0 : ((l0.length : Int) == (l1.length : Int)) = true := beq_iff_eq.mpr c3
    have c3b1 : ((l0.length : Int) != (l1.length : Int)) = false := bne_eq_false_iff_eq.mpr c3
    have c3b2 : (l0.length == l1.length) = true := by first | simpa using c3 | (simp at c3 ⊢; omega)
    clear c3
    have H' := Aside0.mk H
    clear H
    go_enter Tryd.func15, Tryd.ntmps15
    go_wp2
    repeat (go_quiet (fail); try go_wp2)
    go_loopg [5] k (fun kq v5 w' => ∃ (x5_1 : Int), v5 = .int .i64 x5_1 ∧ Aside0 (decorumlaw09_alike.l0 kq l0 l1 x5_1 = some r) ∧ Aside0 (kq ≤ k) ∧ Drawn0 w w')
    case atStart => exact ⟨(0), (by first | rfl | (simp; done) | (simp [*]; done)), H', ⟨Nat.le_refl _⟩, by repeat (first | exact Drawn0.refl _ | apply Drawn0.step)⟩
    case round =>
      clear H'
      try clear c1
      try clear p2
      try clear c3
      try clear c3b0
      try clear c3b1
      try clear c3b2
      obtain ⟨x5_1, rfl, HA, HK1, ⟨m1, rfl⟩⟩ := hrel
      cases gk with
      | zero => exact absurd HA.out (by simp [decorumlaw09_alike.l0])
      | succ k1 =>
        have H := HA.out
        clear HA
        simp only [decorumlaw09_alike.l0] at H
        by_cases c4 : x5_1 < (l0.length : Int)
        · rw [if_pos c4] at H
          have c4b0 : decide (x5_1 < (l0.length : Int)) = true := decide_eq_true c4
          clear c4
          have HC5 := Aside0.mk H
          clear H
          go_upto_region 6 with (fail)
          repeat (go_quiet (fail); go_upto_region 6 with (fail))
          go_cut [59] (fun v59 wc => ∃ (kq : Nat) (x59_4 : Bool), v59 = .bool x59_4 ∧ Aside0 (decorumlaw09_alike.j1 kq l0 l1 x5_1 x59_4 = some r) ∧ Aside0 (kq ≤ k1) ∧ Drawn0 w wc)
          case first =>
            have H := HC5.out
            clear HC5
            by_cases c6 : 0 ≤ x5_1
            · rw [if_pos c6] at H
              have c6b0 : decide (0 ≤ x5_1) = true := decide_eq_true c6
              clear c6
              (first | rw [c6b0] | (simp only [i64_w, i32_w]; rw [c6b0]) | skip)
              by_cases c7 : x5_1 < (l1.length : Int)
              · rw [if_pos c7] at H
                have c7b0 : decide (x5_1 < (l1.length : Int)) = true := decide_eq_true c7
                clear c7
                by_cases c8 : ((rd_T53 l0 x5_1).f2) = ((rd_T57 l1 x5_1).f2)
                · rw [if_pos c8] at H
                  have c8b0 : (((rd_T53 l0 x5_1).f2) == ((rd_T57 l1 x5_1).f2)) = true := beq_iff_eq.mpr c8
                  have c8b1 : (((rd_T53 l0 x5_1).f2) != ((rd_T57 l1 x5_1).f2)) = false := bne_eq_false_iff_eq.mpr c8
                  clear c8
                  by_cases c9 : (((rd_T53 l0 x5_1).f0).length : Int) = (((rd_T57 l1 x5_1).f0).length : Int)
                  · rw [if_pos c9] at H
                    have c9b0 : ((((rd_T53 l0 x5_1).f0).length : Int) == (((rd_T57 l1 x5_1).f0).length : Int)) = true := beq_iff_eq.mpr c9
                    have c9b1 : ((((rd_T53 l0 x5_1).f0).length : Int) != (((rd_T57 l1 x5_1).f0).length : Int)) = false := bne_eq_false_iff_eq.mpr c9
                    have c9b2 : (((rd_T53 l0 x5_1).f0).length == ((rd_T57 l1 x5_1).f0).length) = true := by first | simpa using c9 | (simp at c9 ⊢; omega)
                    clear c9
                    have H' := Aside0.mk H
                    clear H
                    have p160 : 0 ≤ (x5_1 : Int) := of_decide_eq_true (by first | (with_reducible assumption) | assumption)
                    have q160 : x5_1 < (l0.length : Int) := of_decide_eq_true (by first | (with_reducible assumption) | assumption)
                    obtain ⟨ad160, A160_0, c160_0, A160_1, c160_1, e160, hx160_0, hx160_1, hx160_2, hl160_0, hi160_0, hl160_1, hi160_1⟩ := at_T53 HR0.out x5_1 p160 q160
                    cases e160
                    have HR160_0 := Aside0.mk hi160_0
                    have HC160_0 := Aside0.mk hl160_0
                    clear hi160_0 hl160_0
                    have HR160_1 := Aside0.mk hi160_1
                    have HC160_1 := Aside0.mk hl160_1
                    clear hi160_1 hl160_1
                    replace p160 := eq_true p160
                    replace q160 := eq_true q160
                    have p161 : 0 ≤ (x5_1 : Int) := of_decide_eq_true (by first | (with_reducible assumption) | assumption)
                    have q161 : x5_1 < (l1.length : Int) := of_decide_eq_true (by first | (with_reducible assumption) | assumption)
                    obtain ⟨ad161, A161_0, c161_0, A161_1, c161_1, e161, hx161_0, hx161_1, hx161_2, hl161_0, hi161_0, hl161_1, hi161_1⟩ := at_T57 HR1.out x5_1 p161 q161
                    cases e161
                    have HR161_0 := Aside0.mk hi161_0
                    have HC161_0 := Aside0.mk hl161_0
                    clear hi161_0 hl161_0
                    have HR161_1 := Aside0.mk hi161_1
                    have HC161_1 := Aside0.mk hl161_1
                    clear hi161_1 hl161_1
                    replace p161 := eq_true p161
                    replace q161 := eq_true q161
                    have p162 : 0 ≤ (x5_1 : Int) := of_decide_eq_true (by first | (with_reducible assumption) | assumption)
                    have q162 : x5_1 < (l0.length : Int) := of_decide_eq_true (by first | (with_reducible assumption) | assumption)
                    obtain ⟨ad162, A162_0, c162_0, A162_1, c162_1, e162, hx162_0, hx162_1, hx162_2, hl162_0, hi162_0, hl162_1, hi162_1⟩ := at_T53 HR0.out x5_1 p162 q162
                    obtain rfl : ad160 = ad162 := (by injection e162)
                    have HR162_0 := Aside0.mk hi162_0
                    have HC162_0 := Aside0.mk hl162_0
                    clear hi162_0 hl162_0
                    have HR162_1 := Aside0.mk hi162_1
                    have HC162_1 := Aside0.mk hl162_1
                    clear hi162_1 hl162_1
                    replace p162 := eq_true p162
                    replace q162 := eq_true q162
                    have ea_ := Option.some.inj (hx160_0.symm.trans hx162_0)
                    injection ea_ with ea_ en_ ec_
                    subst ea_
                    subst ec_
                    clear en_
                    have ea_ := Option.some.inj (hx160_1.symm.trans hx162_1)
                    injection ea_ with ea_ en_ ec_
                    subst ea_
                    subst ec_
                    clear en_
                    have p163 : 0 ≤ (x5_1 : Int) := of_decide_eq_true (by first | (with_reducible assumption) | assumption)
                    have q163 : x5_1 < (l1.length : Int) := of_decide_eq_true (by first | (with_reducible assumption) | assumption)
                    obtain ⟨ad163, A163_0, c163_0, A163_1, c163_1, e163, hx163_0, hx163_1, hx163_2, hl163_0, hi163_0, hl163_1, hi163_1⟩ := at_T57 HR1.out x5_1 p163 q163
                    obtain rfl : ad161 = ad163 := (by injection e163)
                    have HR163_0 := Aside0.mk hi163_0
                    have HC163_0 := Aside0.mk hl163_0
                    clear hi163_0 hl163_0
                    have HR163_1 := Aside0.mk hi163_1
                    have HC163_1 := Aside0.mk hl163_1
                    clear hi163_1 hl163_1
                    replace p163 := eq_true p163
                    replace q163 := eq_true q163
                    have ea_ := Option.some.inj (hx161_0.symm.trans hx163_0)
                    injection ea_ with ea_ en_ ec_
                    subst ea_
                    subst ec_
                    clear en_
                    have ea_ := Option.some.inj (hx161_1.symm.trans hx163_1)
                    injection ea_ with ea_ en_ ec_
                    subst ea_
                    subst ec_
                    clear en_
                    have p164 : 0 ≤ (x5_1 : Int) := of_decide_eq_true (by first | (with_reducible assumption) | assumption)
                    have q164 : x5_1 < (l0.length : Int) := of_decide_eq_true (by first | (with_reducible assumption) | assumption)
                    obtain ⟨ad164, A164_0, c164_0, A164_1, c164_1, e164, hx164_0, hx164_1, hx164_2, hl164_0, hi164_0, hl164_1, hi164_1⟩ := at_T53 HR0.out x5_1 p164 q164
                    obtain rfl : ad160 = ad164 := (by injection e164)
                    have HR164_0 := Aside0.mk hi164_0
                    have HC164_0 := Aside0.mk hl164_0
                    clear hi164_0 hl164_0
                    have HR164_1 := Aside0.mk hi164_1
                    have HC164_1 := Aside0.mk hl164_1
                    clear hi164_1 hl164_1
                    replace p164 := eq_true p164
                    replace q164 := eq_true q164
                    have ea_ := Option.some.inj (hx160_0.symm.trans hx164_0)
                    injection ea_ with ea_ en_ ec_
                    subst ea_
                    subst ec_
                    clear en_
                    have ea_ := Option.some.inj (hx160_1.symm.trans hx164_1)
                    injection ea_ with ea_ en_ ec_
                    subst ea_
                    subst ec_
                    clear en_
                    have p165 : 0 ≤ (x5_1 : Int) := of_decide_eq_true (by first | (with_reducible assumption) | assumption)
                    have q165 : x5_1 < (l1.length : Int) := of_decide_eq_true (by first | (with_reducible assumption) | assumption)
                    obtain ⟨ad165, A165_0, c165_0, A165_1, c165_1, e165, hx165_0, hx165_1, hx165_2, hl165_0, hi165_0, hl165_1, hi165_1⟩ := at_T57 HR1.out x5_1 p165 q165
                    obtain rfl : ad161 = ad165 := (by injection e165)
                    have HR165_0 := Aside0.mk hi165_0
                    have HC165_0 := Aside0.mk hl165_0
                    clear hi165_0 hl165_0
                    have HR165_1 := Aside0.mk hi165_1
                    have HC165_1 := Aside0.mk hl165_1
                    clear hi165_1 hl165_1
                    replace p165 := eq_true p165
                    replace q165 := eq_true q165
                    have ea_ := Option.some.inj (hx161_0.symm.trans hx165_0)
                    injection ea_ with ea_ en_ ec_
                    subst ea_
                    subst ec_
                    clear en_
                    have ea_ := Option.some.inj (hx161_1.symm.trans hx165_1)
                    injection ea_ with ea_ en_ ec_
                    subst ea_
                    subst ec_
                    clear en_
                    go_wp2
                    repeat (go_quiet (fail); try go_wp2)
                    go_meet
                    case rel => exact ⟨_, (((((rd_T53 l0 x5_1).f1).length : Int) != (((rd_T57 l1 x5_1).f1).length : Int))), (by first | rfl | (simp; done) | (simp [*]; done)), H', ⟨by have := HK1.out; first | omega | exact Nat.le_refl _⟩, by repeat (first | exact Drawn0.refl _ | apply Drawn0.step)⟩
                  · rw [if_neg c9] at H
                    have c9b0 : ((((rd_T53 l0 x5_1).f0).length : Int) == (((rd_T57 l1 x5_1).f0).length : Int)) = false := beq_eq_false_iff_ne.mpr c9
                    have c9b1 : ((((rd_T53 l0 x5_1).f0).length : Int) != (((rd_T57 l1 x5_1).f0).length : Int)) = true := bne_iff_ne.mpr c9
                    have c9b2 : (((rd_T53 l0 x5_1).f0).length == ((rd_T57 l1 x5_1).f0).length) = false := by first | simpa using c9 | (simp at c9 ⊢; omega)
                    have H' := Aside0.mk H
                    clear H
                    have p160 : 0 ≤ (x5_1 : Int) := of_decide_eq_true (by first | (with_reducible assumption) | assumption)
                    have q160 : x5_1 < (l0.length : Int) := of_decide_eq_true (by first | (with_reducible assumption) | assumption)
                    obtain ⟨ad160, A160_0, c160_0, A160_1, c160_1, e160, hx160_0, hx160_1, hx160_2, hl160_0, hi160_0, hl160_1, hi160_1⟩ := at_T53 HR0.out x5_1 p160 q160
                    cases e160
                    have HR160_0 := Aside0.mk hi160_0
                    have HC160_0 := Aside0.mk hl160_0
                    clear hi160_0 hl160_0
                    have HR160_1 := Aside0.mk hi160_1
                    have HC160_1 := Aside0.mk hl160_1
                    clear hi160_1 hl160_1
                    replace p160 := eq_true p160
                    replace q160 := eq_true q160
                    have p161 : 0 ≤ (x5_1 : Int) := of_decide_eq_true (by first | (with_reducible assumption) | assumption)
                    have q161 : x5_1 < (l1.length : Int) := of_decide_eq_true (by first | (with_reducible assumption) | assumption)
                    obtain ⟨ad161, A161_0, c161_0, A161_1, c161_1, e161, hx161_0, hx161_1, hx161_2, hl161_0, hi161_0, hl161_1, hi161_1⟩ := at_T57 HR1.out x5_1 p161 q161
                    cases e161
                    have HR161_0 := Aside0.mk hi161_0
                    have HC161_0 := Aside0.mk hl161_0
                    clear hi161_0 hl161_0
                    have HR161_1 := Aside0.mk hi161_1
                    have HC161_1 := Aside0.mk hl161_1
                    clear hi161_1 hl161_1
                    replace p161 := eq_true p161
                    replace q161 := eq_true q161
                    have p162 : 0 ≤ (x5_1 : Int) := of_decide_eq_true (by first | (with_reducible assumption) | assumption)
                    have q162 : x5_1 < (l0.length : Int) := of_decide_eq_true (by first | (with_reducible assumption) | assumption)
                    obtain ⟨ad162, A162_0, c162_0, A162_1, c162_1, e162, hx162_0, hx162_1, hx162_2, hl162_0, hi162_0, hl162_1, hi162_1⟩ := at_T53 HR0.out x5_1 p162 q162
                    obtain rfl : ad160 = ad162 := (by injection e162)
                    have HR162_0 := Aside0.mk hi162_0
                    have HC162_0 := Aside0.mk hl162_0
                    clear hi162_0 hl162_0
                    have HR162_1 := Aside0.mk hi162_1
                    have HC162_1 := Aside0.mk hl162_1
                    clear hi162_1 hl162_1
                    replace p162 := eq_true p162
                    replace q162 := eq_true q162
                    have ea_ := Option.some.inj (hx160_0.symm.trans hx162_0)
                    injection ea_ with ea_ en_ ec_
                    subst ea_
                    subst ec_
                    clear en_
                    have ea_ := Option.some.inj (hx160_1.symm.trans hx162_1)
                    injection ea_ with ea_ en_ ec_
                    subst ea_
                    subst ec_
                    clear en_
                    have p163 : 0 ≤ (x5_1 : Int) := of_decide_eq_true (by first | (with_reducible assumption) | assumption)
                    have q163 : x5_1 < (l1.length : Int) := of_decide_eq_true (by first | (with_reducible assumption) | assumption)
                    obtain ⟨ad163, A163_0, c163_0, A163_1, c163_1, e163, hx163_0, hx163_1, hx163_2, hl163_0, hi163_0, hl163_1, hi163_1⟩ := at_T57 HR1.out x5_1 p163 q163
                    obtain rfl : ad161 = ad163 := (by injection e163)
                    have HR163_0 := Aside0.mk hi163_0
                    have HC163_0 := Aside0.mk hl163_0
                    clear hi163_0 hl163_0
                    have HR163_1 := Aside0.mk hi163_1
                    have HC163_1 := Aside0.mk hl163_1
                    clear hi163_1 hl163_1
                    replace p163 := eq_true p163
                    replace q163 := eq_true q163
                    have ea_ := Option.some.inj (hx161_0.symm.trans hx163_0)
                    injection ea_ with ea_ en_ ec_
                    subst ea_
                    subst ec_
                    clear en_
                    have ea_ := Option.some.inj (hx161_1.symm.trans hx163_1)
                    injection ea_ with ea_ en_ ec_
                    subst ea_
                    subst ec_
                    clear en_
                    go_wp2
                    repeat (go_quiet (fail); try go_wp2)
                    go_meet
                    case rel => exact ⟨_, (true), (by first | rfl | (simp; done) | (simp [*]; done)), H', ⟨by have := HK1.out; first | omega | exact Nat.le_refl _⟩, by repeat (first | exact Drawn0.refl _ | apply Drawn0.step)⟩
                · rw [if_neg c8] at H
                  have c8b0 : (((rd_T53 l0 x5_1).f2) == ((rd_T57 l1 x5_1).f2)) = false := beq_eq_false_iff_ne.mpr c8
                  have c8b1 : (((rd_T53 l0 x5_1).f2) != ((rd_T57 l1 x5_1).f2)) = true := bne_iff_ne.mpr c8
                  have H' := Aside0.mk H
                  clear H
                  have p160 : 0 ≤ (x5_1 : Int) := of_decide_eq_true (by first | (with_reducible assumption) | assumption)
                  have q160 : x5_1 < (l0.length : Int) := of_decide_eq_true (by first | (with_reducible assumption) | assumption)
                  obtain ⟨ad160, A160_0, c160_0, A160_1, c160_1, e160, hx160_0, hx160_1, hx160_2, hl160_0, hi160_0, hl160_1, hi160_1⟩ := at_T53 HR0.out x5_1 p160 q160
                  cases e160
                  have HR160_0 := Aside0.mk hi160_0
                  have HC160_0 := Aside0.mk hl160_0
                  clear hi160_0 hl160_0
                  have HR160_1 := Aside0.mk hi160_1
                  have HC160_1 := Aside0.mk hl160_1
                  clear hi160_1 hl160_1
                  replace p160 := eq_true p160
                  replace q160 := eq_true q160
                  have p161 : 0 ≤ (x5_1 : Int) := of_decide_eq_true (by first | (with_reducible assumption) | assumption)
                  have q161 : x5_1 < (l1.length : Int) := of_decide_eq_true (by first | (with_reducible assumption) | assumption)
                  obtain ⟨ad161, A161_0, c161_0, A161_1, c161_1, e161, hx161_0, hx161_1, hx161_2, hl161_0, hi161_0, hl161_1, hi161_1⟩ := at_T57 HR1.out x5_1 p161 q161
                  cases e161
                  have HR161_0 := Aside0.mk hi161_0
                  have HC161_0 := Aside0.mk hl161_0
                  clear hi161_0 hl161_0
                  have HR161_1 := Aside0.mk hi161_1
                  have HC161_1 := Aside0.mk hl161_1
                  clear hi161_1 hl161_1
                  replace p161 := eq_true p161
                  replace q161 := eq_true q161
                  go_wp2
                  repeat (go_quiet (fail); try go_wp2)
                  go_meet
                  case rel => exact ⟨_, (true), (by first | rfl | (simp; done) | (simp [*]; done)), H', ⟨by have := HK1.out; first | omega | exact Nat.le_refl _⟩, by repeat (first | exact Drawn0.refl _ | apply Drawn0.step)⟩
              · rw [if_neg c7] at H
                exact absurd H (by simp)
            · rw [if_neg c6] at H
              exact absurd H (by simp)
          case rest =>
            clear HC5
            try clear c1
            try clear p1
            try clear q1
            try clear hx1
            try clear p2
            try clear c3
            try clear c3b0
            try clear c3b1
            try clear c3b2
            try clear c4
            try clear c4b0
            try clear c6
            try clear c6b0
            try clear c7
            try clear c7b0
            try clear c8
            try clear c8b0
            try clear c8b1
            try clear c9
            try clear c9b0
            try clear c9b1
            try clear c9b2
            try clear hx160_0
            try clear hx160_1
            try clear hx160_2
            try clear hx161_0
            try clear hx161_1
            try clear hx161_2
            try clear hx162_0
            try clear hx162_1
            try clear hx162_2
            try clear hx163_0
            try clear hx163_1
            try clear hx163_2
            try clear hx164_0
            try clear hx164_1
            try clear hx164_2
            try clear hx165_0
            try clear hx165_1
            try clear hx165_2
            try clear p160
            try clear p161
            try clear p162
            try clear p163
            try clear p164
            try clear p165
            try clear p2
            try clear q160
            try clear q161
            try clear q162
            try clear q163
            try clear q164
            try clear q165
            obtain ⟨kq, x59_4, rfl, HA, HJ4, ⟨mc4, rfl⟩⟩ := hcut
            cases kq with
            | zero => exact absurd HA.out (by simp [decorumlaw09_alike.j1])
            | succ kj4 =>
              have H := HA.out
              clear HA
              simp only [decorumlaw09_alike.j1] at H
              by_cases c10 : x59_4 = true
              · subst c10
                have H1 : (some false) = some r := by rw [if_pos rfl] at H; exact H
                clear H
                have H := H1
                clear H1
                obtain rfl := Option.some.inj H
                go_wp2
                repeat (go_quiet (fail); try go_wp2)
                go_ret
                exact ⟨by first | rfl | (simp; done) | (simp [*]; done), by repeat (first | exact Drawn0.refl _ | apply Drawn0.step)⟩
              · replace c10 := Bool.eq_false_iff.mpr c10
                subst c10
                have H1 : (decorumlaw09_alike.l1 kj4 l0 l1 x5_1 0) = some r := by rw [if_neg (show ¬ (false = true) by decide)] at H; exact H
                clear H
                have H := H1
                clear H1
                have H' := Aside0.mk H
                clear H
                go_wp2
                repeat (go_quiet (fail); try go_wp2)
                go_loopg [6] kj4 (fun kq v6 w' => ∃ (x6_3 : Int), v6 = .int .i64 x6_3 ∧ Aside0 (decorumlaw09_alike.l1 kq l0 l1 x5_1 x6_3 = some r) ∧ Aside0 (kq ≤ kj4) ∧ Drawn0 w w')
                case atStart => exact ⟨(0), (by first | rfl | (simp; done) | (simp [*]; done)), H', ⟨Nat.le_refl _⟩, by repeat (first | exact Drawn0.refl _ | apply Drawn0.step)⟩
                case round =>
                  clear H'
                  try clear c1
                  try clear p1
                  try clear q1
                  try clear hx1
                  try clear p2
                  try clear c3
                  try clear c3b0
                  try clear c3b1
                  try clear c3b2
                  try clear c4
                  try clear c4b0
                  try clear c6
                  try clear c6b0
                  try clear c7
                  try clear c7b0
                  try clear c8
                  try clear c8b0
                  try clear c8b1
                  try clear c9
                  try clear c9b0
                  try clear c9b1
                  try clear c9b2
                  try clear c10
                  try clear hx160_0
                  try clear hx160_1
                  try clear hx160_2
                  try clear hx161_0
                  try clear hx161_1
                  try clear hx161_2
                  try clear hx162_0
                  try clear hx162_1
                  try clear hx162_2
                  try clear hx163_0
                  try clear hx163_1
                  try clear hx163_2
                  try clear hx164_0
                  try clear hx164_1
                  try clear hx164_2
                  try clear hx165_0
                  try clear hx165_1
                  try clear hx165_2
                  try clear p1
                  try clear p160
                  try clear p161
                  try clear p162
                  try clear p163
                  try clear p164
                  try clear p165
                  try clear p2
                  try clear q1
                  try clear q160
                  try clear q161
                  try clear q162
                  try clear q163
                  try clear q164
                  try clear q165
                  obtain ⟨x6_3, rfl, HA, HK3, ⟨m3, rfl⟩⟩ := hrel
                  cases gk with
                  | zero => exact absurd HA.out (by simp [decorumlaw09_alike.l1])
                  | succ k3 =>
                    have H := HA.out
                    clear HA
                    simp only [decorumlaw09_alike.l1] at H
                    by_cases c11 : 0 ≤ x5_1
                    · rw [if_pos c11] at H
                      have c11b0 : decide (0 ≤ x5_1) = true := decide_eq_true c11
                      clear c11
                      by_cases c12 : x5_1 < (l0.length : Int)
                      · rw [if_pos c12] at H
                        have c12b0 : decide (x5_1 < (l0.length : Int)) = true := decide_eq_true c12
                        clear c12
                        by_cases c13 : x6_3 < (((rd_T53 l0 x5_1).f0).length : Int)
                        · rw [if_pos c13] at H
                          have c13b0 : decide (x6_3 < (((rd_T53 l0 x5_1).f0).length : Int)) = true := decide_eq_true c13
                          clear c13
                          by_cases c14 : 0 ≤ x6_3
                          · rw [if_pos c14] at H
                            have c14b0 : decide (0 ≤ x6_3) = true := decide_eq_true c14
                            clear c14
                            by_cases c15 : x5_1 < (l1.length : Int)
                            · rw [if_pos c15] at H
                              have c15b0 : decide (x5_1 < (l1.length : Int)) = true := decide_eq_true c15
                              clear c15
                              by_cases c16 : x6_3 < (((rd_T57 l1 x5_1).f0).length : Int)
                              · rw [if_pos c16] at H
                                have c16b0 : decide (x6_3 < (((rd_T57 l1 x5_1).f0).length : Int)) = true := decide_eq_true c16
                                clear c16
                                by_cases c17 : (rdOf ByteArray.empty ((rd_T53 l0 x5_1).f0) x6_3).toList = (rdOf ByteArray.empty ((rd_T57 l1 x5_1).f0) x6_3).toList
                                · rw [if_pos c17] at H
                                  have c17b0 : ((rdOf ByteArray.empty ((rd_T53 l0 x5_1).f0) x6_3).toList == (rdOf ByteArray.empty ((rd_T57 l1 x5_1).f0) x6_3).toList) = true := beq_iff_eq.mpr c17
                                  have c17b1 : ((rdOf ByteArray.empty ((rd_T53 l0 x5_1).f0) x6_3).toList != (rdOf ByteArray.empty ((rd_T57 l1 x5_1).f0) x6_3).toList) = false := bne_eq_false_iff_eq.mpr c17
                                  clear c17
                                  have H' := Aside0.mk H
                                  clear H
                                  have p166 : 0 ≤ (x5_1 : Int) := of_decide_eq_true (by first | (with_reducible assumption) | assumption)
                                  have q166 : x5_1 < (l0.length : Int) := of_decide_eq_true (by first | (with_reducible assumption) | assumption)
                                  obtain ⟨ad166, A166_0, c166_0, A166_1, c166_1, e166, hx166_0, hx166_1, hx166_2, hl166_0, hi166_0, hl166_1, hi166_1⟩ := at_T53 HR0.out x5_1 p166 q166
                                  cases e166
                                  have HR166_0 := Aside0.mk hi166_0
                                  have HC166_0 := Aside0.mk hl166_0
                                  clear hi166_0 hl166_0
                                  have HR166_1 := Aside0.mk hi166_1
                                  have HC166_1 := Aside0.mk hl166_1
                                  clear hi166_1 hl166_1
                                  replace p166 := eq_true p166
                                  replace q166 := eq_true q166
                                  have p167 : 0 ≤ (x5_1 : Int) := of_decide_eq_true (by first | (with_reducible assumption) | assumption)
                                  have q167 : x5_1 < (l0.length : Int) := of_decide_eq_true (by first | (with_reducible assumption) | assumption)
                                  obtain ⟨ad167, A167_0, c167_0, A167_1, c167_1, e167, hx167_0, hx167_1, hx167_2, hl167_0, hi167_0, hl167_1, hi167_1⟩ := at_T53 HR0.out x5_1 p167 q167
                                  obtain rfl : ad166 = ad167 := (by injection e167)
                                  have HR167_0 := Aside0.mk hi167_0
                                  have HC167_0 := Aside0.mk hl167_0
                                  clear hi167_0 hl167_0
                                  have HR167_1 := Aside0.mk hi167_1
                                  have HC167_1 := Aside0.mk hl167_1
                                  clear hi167_1 hl167_1
                                  replace p167 := eq_true p167
                                  replace q167 := eq_true q167
                                  have ea_ := Option.some.inj (hx166_0.symm.trans hx167_0)
                                  injection ea_ with ea_ en_ ec_
                                  subst ea_
                                  subst ec_
                                  clear en_
                                  have ea_ := Option.some.inj (hx166_1.symm.trans hx167_1)
                                  injection ea_ with ea_ en_ ec_
                                  subst ea_
                                  subst ec_
                                  clear en_
                                  have p168 : 0 ≤ (x6_3 : Int) := of_decide_eq_true (by first | (with_reducible assumption) | assumption)
                                  have q168 : x6_3 < (((rd_T53 l0 x5_1).f0).length : Int) := of_decide_eq_true (by first | (with_reducible assumption) | assumption)
                                  obtain ⟨ad168, e168, hx168_0⟩ := Kd.at_string HR167_0.out x6_3 p168 q168
                                  cases e168
                                  replace p168 := eq_true p168
                                  replace q168 := eq_true q168
                                  have p169 : 0 ≤ (x5_1 : Int) := of_decide_eq_true (by first | (with_reducible assumption) | assumption)
                                  have q169 : x5_1 < (l1.length : Int) := of_decide_eq_true (by first | (with_reducible assumption) | assumption)
                                  obtain ⟨ad169, A169_0, c169_0, A169_1, c169_1, e169, hx169_0, hx169_1, hx169_2, hl169_0, hi169_0, hl169_1, hi169_1⟩ := at_T57 HR1.out x5_1 p169 q169
                                  cases e169
                                  have HR169_0 := Aside0.mk hi169_0
                                  have HC169_0 := Aside0.mk hl169_0
                                  clear hi169_0 hl169_0
                                  have HR169_1 := Aside0.mk hi169_1
                                  have HC169_1 := Aside0.mk hl169_1
                                  clear hi169_1 hl169_1
                                  replace p169 := eq_true p169
                                  replace q169 := eq_true q169
                                  have p170 : 0 ≤ (x6_3 : Int) := of_decide_eq_true (by first | (with_reducible assumption) | assumption)
                                  have q170 : x6_3 < (((rd_T57 l1 x5_1).f0).length : Int) := of_decide_eq_true (by first | (with_reducible assumption) | assumption)
                                  obtain ⟨ad170, e170, hx170_0⟩ := Kd.at_string HR169_0.out x6_3 p170 q170
                                  cases e170
                                  replace p170 := eq_true p170
                                  replace q170 := eq_true q170
                                  go_wp2
                                  repeat (go_quiet (fail); try go_wp2)
                                  go_roundg k3
                                  case measure => have := HK1.out; have := HJ4.out; have := HK3.out; omega
                                  case rel => exact ⟨(wrap64 (x6_3 + 1)), (by first | rfl | (simp; done) | (simp [*]; done)), H', ⟨by have := HK1.out; have := HJ4.out; have := HK3.out; omega⟩, by repeat (first | exact Drawn0.refl _ | apply Drawn0.step)⟩
                                · rw [if_neg c17] at H
                                  have c17b0 : ((rdOf ByteArray.empty ((rd_T53 l0 x5_1).f0) x6_3).toList == (rdOf ByteArray.empty ((rd_T57 l1 x5_1).f0) x6_3).toList) = false := beq_eq_false_iff_ne.mpr c17
                                  have c17b1 : ((rdOf ByteArray.empty ((rd_T53 l0 x5_1).f0) x6_3).toList != (rdOf ByteArray.empty ((rd_T57 l1 x5_1).f0) x6_3).toList) = true := bne_iff_ne.mpr c17
                                  obtain rfl := Option.some.inj H
                                  have p166 : 0 ≤ (x5_1 : Int) := of_decide_eq_true (by first | (with_reducible assumption) | assumption)
                                  have q166 : x5_1 < (l0.length : Int) := of_decide_eq_true (by first | (with_reducible assumption) | assumption)
                                  obtain ⟨ad166, A166_0, c166_0, A166_1, c166_1, e166, hx166_0, hx166_1, hx166_2, hl166_0, hi166_0, hl166_1, hi166_1⟩ := at_T53 HR0.out x5_1 p166 q166
                                  cases e166
                                  have HR166_0 := Aside0.mk hi166_0
                                  have HC166_0 := Aside0.mk hl166_0
                                  clear hi166_0 hl166_0
                                  have HR166_1 := Aside0.mk hi166_1
                                  have HC166_1 := Aside0.mk hl166_1
                                  clear hi166_1 hl166_1
                                  replace p166 := eq_true p166
                                  replace q166 := eq_true q166
                                  have p167 : 0 ≤ (x5_1 : Int) := of_decide_eq_true (by first | (with_reducible assumption) | assumption)
                                  have q167 : x5_1 < (l0.length : Int) := of_decide_eq_true (by first | (with_reducible assumption) | assumption)
                                  obtain ⟨ad167, A167_0, c167_0, A167_1, c167_1, e167, hx167_0, hx167_1, hx167_2, hl167_0, hi167_0, hl167_1, hi167_1⟩ := at_T53 HR0.out x5_1 p167 q167
                                  obtain rfl : ad166 = ad167 := (by injection e167)
                                  have HR167_0 := Aside0.mk hi167_0
                                  have HC167_0 := Aside0.mk hl167_0
                                  clear hi167_0 hl167_0
                                  have HR167_1 := Aside0.mk hi167_1
                                  have HC167_1 := Aside0.mk hl167_1
                                  clear hi167_1 hl167_1
                                  replace p167 := eq_true p167
                                  replace q167 := eq_true q167
                                  have ea_ := Option.some.inj (hx166_0.symm.trans hx167_0)
                                  injection ea_ with ea_ en_ ec_
                                  subst ea_
                                  subst ec_
                                  clear en_
                                  have ea_ := Option.some.inj (hx166_1.symm.trans hx167_1)
                                  injection ea_ with ea_ en_ ec_
                                  subst ea_
                                  subst ec_
                                  clear en_
                                  have p168 : 0 ≤ (x6_3 : Int) := of_decide_eq_true (by first | (with_reducible assumption) | assumption)
                                  have q168 : x6_3 < (((rd_T53 l0 x5_1).f0).length : Int) := of_decide_eq_true (by first | (with_reducible assumption) | assumption)
                                  obtain ⟨ad168, e168, hx168_0⟩ := Kd.at_string HR167_0.out x6_3 p168 q168
                                  cases e168
                                  replace p168 := eq_true p168
                                  replace q168 := eq_true q168
                                  have p169 : 0 ≤ (x5_1 : Int) := of_decide_eq_true (by first | (with_reducible assumption) | assumption)
                                  have q169 : x5_1 < (l1.length : Int) := of_decide_eq_true (by first | (with_reducible assumption) | assumption)
                                  obtain ⟨ad169, A169_0, c169_0, A169_1, c169_1, e169, hx169_0, hx169_1, hx169_2, hl169_0, hi169_0, hl169_1, hi169_1⟩ := at_T57 HR1.out x5_1 p169 q169
                                  cases e169
                                  have HR169_0 := Aside0.mk hi169_0
                                  have HC169_0 := Aside0.mk hl169_0
                                  clear hi169_0 hl169_0
                                  have HR169_1 := Aside0.mk hi169_1
                                  have HC169_1 := Aside0.mk hl169_1
                                  clear hi169_1 hl169_1
                                  replace p169 := eq_true p169
                                  replace q169 := eq_true q169
                                  have p170 : 0 ≤ (x6_3 : Int) := of_decide_eq_true (by first | (with_reducible assumption) | assumption)
                                  have q170 : x6_3 < (((rd_T57 l1 x5_1).f0).length : Int) := of_decide_eq_true (by first | (with_reducible assumption) | assumption)
                                  obtain ⟨ad170, e170, hx170_0⟩ := Kd.at_string HR169_0.out x6_3 p170 q170
                                  cases e170
                                  replace p170 := eq_true p170
                                  replace q170 := eq_true q170
                                  go_wp2
                                  repeat (go_quiet (fail); try go_wp2)
                                  go_ret
                                  exact ⟨by first | rfl | (simp; done) | (simp [*]; done), by repeat (first | exact Drawn0.refl _ | apply Drawn0.step)⟩
                              · rw [if_neg c16] at H
                                exact absurd H (by simp)
                            · rw [if_neg c15] at H
                              exact absurd H (by simp)
                          · rw [if_neg c14] at H
                            exact absurd H (by simp)
                        · rw [if_neg c13] at H
                          have c13b0 : decide (x6_3 < (((rd_T53 l0 x5_1).f0).length : Int)) = false := decide_eq_false c13
                          clear c13
                          have H' := Aside0.mk H
                          clear H
                          have p166 : 0 ≤ (x5_1 : Int) := of_decide_eq_true (by first | (with_reducible assumption) | assumption)
                          have q166 : x5_1 < (l0.length : Int) := of_decide_eq_true (by first | (with_reducible assumption) | assumption)
                          obtain ⟨ad166, A166_0, c166_0, A166_1, c166_1, e166, hx166_0, hx166_1, hx166_2, hl166_0, hi166_0, hl166_1, hi166_1⟩ := at_T53 HR0.out x5_1 p166 q166
                          cases e166
                          have HR166_0 := Aside0.mk hi166_0
                          have HC166_0 := Aside0.mk hl166_0
                          clear hi166_0 hl166_0
                          have HR166_1 := Aside0.mk hi166_1
                          have HC166_1 := Aside0.mk hl166_1
                          clear hi166_1 hl166_1
                          replace p166 := eq_true p166
                          replace q166 := eq_true q166
                          go_wp2
                          repeat (go_quiet (fail); try go_wp2)
                          go_loopg [7] k3 (fun kq v7 w' => ∃ (x7_4 : Int), v7 = .int .i64 x7_4 ∧ Aside0 (decorumlaw09_alike.l2 kq l0 l1 x5_1 x7_4 = some r) ∧ Aside0 (kq ≤ k3) ∧ Drawn0 w w')
                          case atStart => exact ⟨(0), (by first | rfl | (simp; done) | (simp [*]; done)), H', ⟨Nat.le_refl _⟩, by repeat (first | exact Drawn0.refl _ | apply Drawn0.step)⟩
                          case round =>
                            clear H'
                            try clear c1
                            try clear p1
                            try clear q1
                            try clear hx1
                            try clear p2
                            try clear c3
                            try clear c3b0
                            try clear c3b1
                            try clear c3b2
                            try clear c4
                            try clear c4b0
                            try clear c6
                            try clear c6b0
                            try clear p6
                            try clear c7
                            try clear c7b0
                            try clear c8
                            try clear c8b0
                            try clear c8b1
                            try clear c9
                            try clear c9b0
                            try clear c9b1
                            try clear c9b2
                            try clear c10
                            try clear c11
                            try clear c11b0
                            try clear c12
                            try clear c12b0
                            try clear c13
                            try clear c13b0
                            try clear c14
                            try clear c14b0
                            try clear c15
                            try clear c15b0
                            try clear c16
                            try clear c16b0
                            try clear p16
                            try clear q16
                            try clear hx16
                            try clear c17
                            try clear c17b0
                            try clear c17b1
                            try clear p17
                            try clear q17
                            try clear hx17
                            try clear hx160_0
                            try clear hx160_1
                            try clear hx160_2
                            try clear hx161_0
                            try clear hx161_1
                            try clear hx161_2
                            try clear hx162_0
                            try clear hx162_1
                            try clear hx162_2
                            try clear hx163_0
                            try clear hx163_1
                            try clear hx163_2
                            try clear hx164_0
                            try clear hx164_1
                            try clear hx164_2
                            try clear hx165_0
                            try clear hx165_1
                            try clear hx165_2
                            try clear hx166_0
                            try clear hx166_1
                            try clear hx166_2
                            try clear hx167_0
                            try clear hx167_1
                            try clear hx167_2
                            try clear hx168_0
                            try clear hx169_0
                            try clear hx169_1
                            try clear hx169_2
                            try clear hx170_0
                            try clear p1
                            try clear p160
                            try clear p161
                            try clear p162
                            try clear p163
                            try clear p164
                            try clear p165
                            try clear p166
                            try clear p167
                            try clear p168
                            try clear p169
                            try clear p170
                            try clear p2
                            try clear q1
                            try clear q160
                            try clear q161
                            try clear q162
                            try clear q163
                            try clear q164
                            try clear q165
                            try clear q166
                            try clear q167
                            try clear q168
                            try clear q169
                            try clear q170
                            obtain ⟨x7_4, rfl, HA, HK4, ⟨m4, rfl⟩⟩ := hrel
                            cases gk with
                            | zero => exact absurd HA.out (by simp [decorumlaw09_alike.l2])
                            | succ k4 =>
                              have H := HA.out
                              clear HA
                              simp only [decorumlaw09_alike.l2] at H
                              by_cases c18 : 0 ≤ x5_1
                              · rw [if_pos c18] at H
                                have c18b0 : decide (0 ≤ x5_1) = true := decide_eq_true c18
                                clear c18
                                by_cases c19 : x5_1 < (l0.length : Int)
                                · rw [if_pos c19] at H
                                  have c19b0 : decide (x5_1 < (l0.length : Int)) = true := decide_eq_true c19
                                  clear c19
                                  by_cases c20 : x7_4 < (((rd_T53 l0 x5_1).f1).length : Int)
                                  · rw [if_pos c20] at H
                                    have c20b0 : decide (x7_4 < (((rd_T53 l0 x5_1).f1).length : Int)) = true := decide_eq_true c20
                                    clear c20
                                    by_cases c21 : 0 ≤ x7_4
                                    · rw [if_pos c21] at H
                                      have c21b0 : decide (0 ≤ x7_4) = true := decide_eq_true c21
                                      clear c21
                                      by_cases c22 : x5_1 < (l1.length : Int)
                                      · rw [if_pos c22] at H
                                        have c22b0 : decide (x5_1 < (l1.length : Int)) = true := decide_eq_true c22
                                        clear c22
                                        by_cases c23 : x7_4 < (((rd_T57 l1 x5_1).f1).length : Int)
                                        · rw [if_pos c23] at H
                                          have c23b0 : decide (x7_4 < (((rd_T57 l1 x5_1).f1).length : Int)) = true := decide_eq_true c23
                                          clear c23
                                          by_cases c24 : (!(((rd_T59 ((rd_T53 l0 x5_1).f1) x7_4).f0) == ((rd_T59 ((rd_T57 l1 x5_1).f1) x7_4).f0)) || (!((((rd_T59 ((rd_T53 l0 x5_1).f1) x7_4).f1).toList) == (((rd_T59 ((rd_T57 l1 x5_1).f1) x7_4).f1).toList)))) = true
                                          · rw [if_pos c24] at H
                                            have c24b0 : (!(((rd_T59 ((rd_T53 l0 x5_1).f1) x7_4).f0) == ((rd_T59 ((rd_T57 l1 x5_1).f1) x7_4).f0)) || (!((((rd_T59 ((rd_T53 l0 x5_1).f1) x7_4).f1).toList) == (((rd_T59 ((rd_T57 l1 x5_1).f1) x7_4).f1).toList)))) = true := c24
                                            clear c24
                                            obtain rfl := Option.some.inj H
                                            have p171 : 0 ≤ (x5_1 : Int) := of_decide_eq_true (by first | (with_reducible assumption) | assumption)
                                            have q171 : x5_1 < (l0.length : Int) := of_decide_eq_true (by first | (with_reducible assumption) | assumption)
                                            obtain ⟨ad171, A171_0, c171_0, A171_1, c171_1, e171, hx171_0, hx171_1, hx171_2, hl171_0, hi171_0, hl171_1, hi171_1⟩ := at_T53 HR0.out x5_1 p171 q171
                                            obtain rfl : ad166 = ad171 := (by injection e171)
                                            have HR171_0 := Aside0.mk hi171_0
                                            have HC171_0 := Aside0.mk hl171_0
                                            clear hi171_0 hl171_0
                                            have HR171_1 := Aside0.mk hi171_1
                                            have HC171_1 := Aside0.mk hl171_1
                                            clear hi171_1 hl171_1
                                            replace p171 := eq_true p171
                                            replace q171 := eq_true q171
                                            have p172 : 0 ≤ (x5_1 : Int) := of_decide_eq_true (by first | (with_reducible assumption) | assumption)
                                            have q172 : x5_1 < (l0.length : Int) := of_decide_eq_true (by first | (with_reducible assumption) | assumption)
                                            obtain ⟨ad172, A172_0, c172_0, A172_1, c172_1, e172, hx172_0, hx172_1, hx172_2, hl172_0, hi172_0, hl172_1, hi172_1⟩ := at_T53 HR0.out x5_1 p172 q172
                                            obtain rfl : ad166 = ad172 := (by injection e172)
                                            have HR172_0 := Aside0.mk hi172_0
                                            have HC172_0 := Aside0.mk hl172_0
                                            clear hi172_0 hl172_0
                                            have HR172_1 := Aside0.mk hi172_1
                                            have HC172_1 := Aside0.mk hl172_1
                                            clear hi172_1 hl172_1
                                            replace p172 := eq_true p172
                                            replace q172 := eq_true q172
                                            have ea_ := Option.some.inj (hx171_0.symm.trans hx172_0)
                                            injection ea_ with ea_ en_ ec_
                                            subst ea_
                                            subst ec_
                                            clear en_
                                            have ea_ := Option.some.inj (hx171_1.symm.trans hx172_1)
                                            injection ea_ with ea_ en_ ec_
                                            subst ea_
                                            subst ec_
                                            clear en_
                                            have p173 : 0 ≤ (x7_4 : Int) := of_decide_eq_true (by first | (with_reducible assumption) | assumption)
                                            have q173 : x7_4 < (((rd_T53 l0 x5_1).f1).length : Int) := of_decide_eq_true (by first | (with_reducible assumption) | assumption)
                                            obtain ⟨ad173, e173, hx173_0, hx173_1⟩ := at_T59 HR172_1.out x7_4 p173 q173
                                            cases e173
                                            replace p173 := eq_true p173
                                            replace q173 := eq_true q173
                                            have p174 : 0 ≤ (x5_1 : Int) := of_decide_eq_true (by first | (with_reducible assumption) | assumption)
                                            have q174 : x5_1 < (l1.length : Int) := of_decide_eq_true (by first | (with_reducible assumption) | assumption)
                                            obtain ⟨ad174, A174_0, c174_0, A174_1, c174_1, e174, hx174_0, hx174_1, hx174_2, hl174_0, hi174_0, hl174_1, hi174_1⟩ := at_T57 HR1.out x5_1 p174 q174
                                            cases e174
                                            have HR174_0 := Aside0.mk hi174_0
                                            have HC174_0 := Aside0.mk hl174_0
                                            clear hi174_0 hl174_0
                                            have HR174_1 := Aside0.mk hi174_1
                                            have HC174_1 := Aside0.mk hl174_1
                                            clear hi174_1 hl174_1
                                            replace p174 := eq_true p174
                                            replace q174 := eq_true q174
                                            have p175 : 0 ≤ (x7_4 : Int) := of_decide_eq_true (by first | (with_reducible assumption) | assumption)
                                            have q175 : x7_4 < (((rd_T57 l1 x5_1).f1).length : Int) := of_decide_eq_true (by first | (with_reducible assumption) | assumption)
                                            obtain ⟨ad175, e175, hx175_0, hx175_1⟩ := at_T59 HR174_1.out x7_4 p175 q175
                                            cases e175
                                            replace p175 := eq_true p175
                                            replace q175 := eq_true q175
                                            go_wp2
                                            repeat (go_quiet (fail); try go_wp2)
                                            go_ret
                                            exact ⟨by first | rfl | (simp; done) | (simp [*]; done), by repeat (first | exact Drawn0.refl _ | apply Drawn0.step)⟩
                                          · rw [if_neg c24] at H
                                            have c24b0 : (!(((rd_T59 ((rd_T53 l0 x5_1).f1) x7_4).f0) == ((rd_T59 ((rd_T57 l1 x5_1).f1) x7_4).f0)) || (!((((rd_T59 ((rd_T53 l0 x5_1).f1) x7_4).f1).toList) == (((rd_T59 ((rd_T57 l1 x5_1).f1) x7_4).f1).toList)))) = false := by simpa using c24
                                            clear c24
                                            have H' := Aside0.mk H
                                            clear H
                                            have p171 : 0 ≤ (x5_1 : Int) := of_decide_eq_true (by first | (with_reducible assumption) | assumption)
                                            have q171 : x5_1 < (l0.length : Int) := of_decide_eq_true (by first | (with_reducible assumption) | assumption)
                                            obtain ⟨ad171, A171_0, c171_0, A171_1, c171_1, e171, hx171_0, hx171_1, hx171_2, hl171_0, hi171_0, hl171_1, hi171_1⟩ := at_T53 HR0.out x5_1 p171 q171
                                            obtain rfl : ad166 = ad171 := (by injection e171)
                                            have HR171_0 := Aside0.mk hi171_0
                                            have HC171_0 := Aside0.mk hl171_0
                                            clear hi171_0 hl171_0
                                            have HR171_1 := Aside0.mk hi171_1
                                            have HC171_1 := Aside0.mk hl171_1
                                            clear hi171_1 hl171_1
                                            replace p171 := eq_true p171
                                            replace q171 := eq_true q171
                                            have p172 : 0 ≤ (x5_1 : Int) := of_decide_eq_true (by first | (with_reducible assumption) | assumption)
                                            have q172 : x5_1 < (l0.length : Int) := of_decide_eq_true (by first | (with_reducible assumption) | assumption)
                                            obtain ⟨ad172, A172_0, c172_0, A172_1, c172_1, e172, hx172_0, hx172_1, hx172_2, hl172_0, hi172_0, hl172_1, hi172_1⟩ := at_T53 HR0.out x5_1 p172 q172
                                            obtain rfl : ad166 = ad172 := (by injection e172)
                                            have HR172_0 := Aside0.mk hi172_0
                                            have HC172_0 := Aside0.mk hl172_0
                                            clear hi172_0 hl172_0
                                            have HR172_1 := Aside0.mk hi172_1
                                            have HC172_1 := Aside0.mk hl172_1
                                            clear hi172_1 hl172_1
                                            replace p172 := eq_true p172
                                            replace q172 := eq_true q172
                                            have ea_ := Option.some.inj (hx171_0.symm.trans hx172_0)
                                            injection ea_ with ea_ en_ ec_
                                            subst ea_
                                            subst ec_
                                            clear en_
                                            have ea_ := Option.some.inj (hx171_1.symm.trans hx172_1)
                                            injection ea_ with ea_ en_ ec_
                                            subst ea_
                                            subst ec_
                                            clear en_
                                            have p173 : 0 ≤ (x7_4 : Int) := of_decide_eq_true (by first | (with_reducible assumption) | assumption)
                                            have q173 : x7_4 < (((rd_T53 l0 x5_1).f1).length : Int) := of_decide_eq_true (by first | (with_reducible assumption) | assumption)
                                            obtain ⟨ad173, e173, hx173_0, hx173_1⟩ := at_T59 HR172_1.out x7_4 p173 q173
                                            cases e173
                                            replace p173 := eq_true p173
                                            replace q173 := eq_true q173
                                            have p174 : 0 ≤ (x5_1 : Int) := of_decide_eq_true (by first | (with_reducible assumption) | assumption)
                                            have q174 : x5_1 < (l1.length : Int) := of_decide_eq_true (by first | (with_reducible assumption) | assumption)
                                            obtain ⟨ad174, A174_0, c174_0, A174_1, c174_1, e174, hx174_0, hx174_1, hx174_2, hl174_0, hi174_0, hl174_1, hi174_1⟩ := at_T57 HR1.out x5_1 p174 q174
                                            cases e174
                                            have HR174_0 := Aside0.mk hi174_0
                                            have HC174_0 := Aside0.mk hl174_0
                                            clear hi174_0 hl174_0
                                            have HR174_1 := Aside0.mk hi174_1
                                            have HC174_1 := Aside0.mk hl174_1
                                            clear hi174_1 hl174_1
                                            replace p174 := eq_true p174
                                            replace q174 := eq_true q174
                                            have p175 : 0 ≤ (x7_4 : Int) := of_decide_eq_true (by first | (with_reducible assumption) | assumption)
                                            have q175 : x7_4 < (((rd_T57 l1 x5_1).f1).length : Int) := of_decide_eq_true (by first | (with_reducible assumption) | assumption)
                                            obtain ⟨ad175, e175, hx175_0, hx175_1⟩ := at_T59 HR174_1.out x7_4 p175 q175
                                            cases e175
                                            replace p175 := eq_true p175
                                            replace q175 := eq_true q175
                                            go_wp2
                                            repeat (go_quiet (fail); try go_wp2)
                                            go_roundg k4
                                            case measure => have := HK1.out; have := HJ4.out; have := HK3.out; have := HK4.out; omega
                                            case rel => exact ⟨(wrap64 (x7_4 + 1)), (by first | rfl | (simp; done) | (simp [*]; done)), H', ⟨by have := HK1.out; have := HJ4.out; have := HK3.out; have := HK4.out; omega⟩, by repeat (first | exact Drawn0.refl _ | apply Drawn0.step)⟩
                                        · rw [if_neg c23] at H
                                          exact absurd H (by simp)
                                      · rw [if_neg c22] at H
                                        exact absurd H (by simp)
                                    · rw [if_neg c21] at H
                                      exact absurd H (by simp)
                                  · rw [if_neg c20] at H
                                    have c20b0 : decide (x7_4 < (((rd_T53 l0 x5_1).f1).length : Int)) = false := decide_eq_false c20
                                    clear c20
                                    have H' := Aside0.mk H
                                    clear H
                                    have p171 : 0 ≤ (x5_1 : Int) := of_decide_eq_true (by first | (with_reducible assumption) | assumption)
                                    have q171 : x5_1 < (l0.length : Int) := of_decide_eq_true (by first | (with_reducible assumption) | assumption)
                                    obtain ⟨ad171, A171_0, c171_0, A171_1, c171_1, e171, hx171_0, hx171_1, hx171_2, hl171_0, hi171_0, hl171_1, hi171_1⟩ := at_T53 HR0.out x5_1 p171 q171
                                    obtain rfl : ad166 = ad171 := (by injection e171)
                                    have HR171_0 := Aside0.mk hi171_0
                                    have HC171_0 := Aside0.mk hl171_0
                                    clear hi171_0 hl171_0
                                    have HR171_1 := Aside0.mk hi171_1
                                    have HC171_1 := Aside0.mk hl171_1
                                    clear hi171_1 hl171_1
                                    replace p171 := eq_true p171
                                    replace q171 := eq_true q171
                                    go_wp2
                                    repeat (go_quiet (fail); try go_wp2)
                                    go_roundg k4
                                    case measure => have := HK1.out; have := HJ4.out; have := HK3.out; have := HK4.out; omega
                                    case rel => exact ⟨(wrap64 (x5_1 + 1)), (by first | rfl | (simp; done) | (simp [*]; done)), H', ⟨by have := HK1.out; have := HJ4.out; have := HK3.out; have := HK4.out; omega⟩, by repeat (first | exact Drawn0.refl _ | apply Drawn0.step)⟩
                                · rw [if_neg c19] at H
                                  exact absurd H (by simp)
                              · rw [if_neg c18] at H
                                exact absurd H (by simp)
                      · rw [if_neg c12] at H
                        exact absurd H (by simp)
                    · rw [if_neg c11] at H
                      exact absurd H (by simp)
        · rw [if_neg c4] at H
          have c4b0 : decide (x5_1 < (l0.length : Int)) = false := decide_eq_false c4
          clear c4
          obtain rfl := Option.some.inj H
          go_wp2
          repeat (go_quiet (fail); try go_wp2)
          go_ret
          exact ⟨by first | rfl | (simp; done) | (simp [*]; done), by repeat (first | exact Drawn0.refl _ | apply Drawn0.step)⟩
  · rw [if_neg c3] at H
    have c3b0 : ((l0.length : Int) == (l1.length : Int)) = false := beq_eq_false_iff_ne.mpr c3
    have c3b1 : ((l0.length : Int) != (l1.length : Int)) = true := bne_iff_ne.mpr c3
    have c3b2 : (l0.length == l1.length) = false := by first | simpa using c3 | (simp at c3 ⊢; omega)
    obtain rfl := Option.some.inj H
    go_enter Tryd.func15, Tryd.ntmps15
    go_wp2
    repeat (go_quiet (fail); try go_wp2)
    go_ret
    exact ⟨by first | rfl | (simp; done) | (simp [*]; done), by repeat (first | exact Drawn0.refl _ | apply Drawn0.step)⟩

end Go.Proofs.YthbmedhejlhclaaDoor.QBase
