-- A text that a changed copy of the print program wrote for this claim (NOTES.md, changed print); it is not a printed text.
import Derived.Test.YthbmedhejlhclaaDoorQTxtx0
import Derived.Test.YthbmedhejlhclaaDoorQTxtx1
namespace Go.Proofs.YthbmedhejlhclaaDoor.QTxt
open Go.Proofs.YthbmedhejlhclaaDoor.Given Go.Proofs.YthbmedhejlhclaaDoor.QBase
open Go.RowKit Go.Proofs.YthbmedhejlhclaaDoorW.PrintWords Go.Proofs.YthbmedhejlhclaaDoorW.PrintLast Go.Proofs.YthbmedhejlhclaaDoorW.PrintMore
attribute [local go_sem] max2_int min2_int max_two min_two max_three min_three max_four min_four   -- for this text's walks alone
set_option linter.unusedVariables false
set_option linter.unusedSimpArgs false

attribute [local go_sem high] eqA40
/-! ### decorumlaw09_awake: function 12 -/
def decorumlaw09_awake.f  : Option (Bool) := (lines_Parse.f (⟨#[85, 115, 101, 114, 45, 65, 103, 101, 110, 116, 58, 32, 66, 111, 116, 32, 35, 32, 120, 13, 10, 68, 105, 115, 97, 108, 108, 111, 119, 58, 32, 47, 97, 10, 10, 99, 114, 97, 119, 108, 45, 100, 101, 108, 97, 121, 58, 32, 49, 46, 53, 10, 110, 111, 116, 104, 105, 110, 103]⟩ : ByteArray)).bind fun t101 => ((lines_Groups.f t101).bind fun t104 => ((lines_Delay.f (⟨#[50, 46, 48, 52, 55, 57]⟩ : ByteArray)).bind fun bt107 => (if (t101.length : Int) = 3 then (if 0 < (t101.length : Int) then (if ((((rd_T40 t101 0).f0).toList) == ([117, 115, 101, 114, 45, 97, 103, 101, 110, 116] : List UInt8) && ((((rd_T40 t101 0).f1).toList) == ([66, 111, 116] : List UInt8))) = true then (if (t104.length : Int) = 1 then (if 0 < (t104.length : Int) then (if 0 < (((rd_T53 t104 0).f0).length : Int) then (if (rdOf ByteArray.empty ((rd_T53 t104 0).f0) 0).toList = ([98, 111, 116] : List UInt8) then (if ((rd_T53 t104 0).f2) = 1500 then (if (((rd_T53 t104 0).f1).length : Int) = 1 then (if bt107.2 = true then (if bt107.1 = 2047 then ((decorumref09_Lower.f (⟨#[65]⟩ : ByteArray)).bind fun t114 => (some (t114.toList == ([97] : List UInt8)))) else (some false)) else (some false)) else (some false)) else (some false)) else (some false)) else (none)) else (none)) else (some false)) else (some false)) else (none)) else (some false))))
theorem decorumlaw09_awake.only (r : Bool) (h : decorumlaw09_awake.f = some r) : r = true := Option.some.inj (h.symm.trans (by decide +kernel : decorumlaw09_awake.f = some true))

set_option maxHeartbeats 8000000 in
set_option maxRecDepth 100000 in
theorem decorumlaw09_awake.calls  (r : Bool) (w : World) (h : decorumlaw09_awake.f  = some r) (hS_ : Shp w) :
    Calls Tryd.prog 12 #[] w fun e w' => e = .returned (.bool r) ∧ Below w.heap.size w w' := by
  have HR_ := Aside0.mk (decorumlaw09_awake.only r h)
  have hu40 := Tryd.underlying40
  have HB := Aside0.mk (Below.refl w.heap.size w)
  have HS_ := Aside0.mk hS_
  clear hS_
  have H : ((lines_Parse.f (⟨#[85, 115, 101, 114, 45, 65, 103, 101, 110, 116, 58, 32, 66, 111, 116, 32, 35, 32, 120, 13, 10, 68, 105, 115, 97, 108, 108, 111, 119, 58, 32, 47, 97, 10, 10, 99, 114, 97, 119, 108, 45, 100, 101, 108, 97, 121, 58, 32, 49, 46, 53, 10, 110, 111, 116, 104, 105, 110, 103]⟩ : ByteArray)).bind fun t101 => ((lines_Groups.f t101).bind fun t104 => ((lines_Delay.f (⟨#[50, 46, 48, 52, 55, 57]⟩ : ByteArray)).bind fun bt107 => (if (t101.length : Int) = 3 then (if 0 < (t101.length : Int) then (if ((((rd_T40 t101 0).f0).toList) == ([117, 115, 101, 114, 45, 97, 103, 101, 110, 116] : List UInt8) && ((((rd_T40 t101 0).f1).toList) == ([66, 111, 116] : List UInt8))) = true then (if (t104.length : Int) = 1 then (if 0 < (t104.length : Int) then (if 0 < (((rd_T53 t104 0).f0).length : Int) then (if (rdOf ByteArray.empty ((rd_T53 t104 0).f0) 0).toList = ([98, 111, 116] : List UInt8) then (if ((rd_T53 t104 0).f2) = 1500 then (if (((rd_T53 t104 0).f1).length : Int) = 1 then (if bt107.2 = true then (if bt107.1 = 2047 then ((decorumref09_Lower.f (⟨#[65]⟩ : ByteArray)).bind fun t114 => (some (t114.toList == ([97] : List UInt8)))) else (some false)) else (some false)) else (some false)) else (some false)) else (some false)) else (none)) else (none)) else (some false)) else (some false)) else (none)) else (some false))))) = some r := h
  clear h
  replace H := Option.bind_eq_some_iff.mp H
  obtain ⟨t101, A10, H⟩ := H
  replace H : ((lines_Groups.f t101).bind fun t104 => ((lines_Delay.f (⟨#[50, 46, 48, 52, 55, 57]⟩ : ByteArray)).bind fun bt107 => (if (t101.length : Int) = 3 then (if 0 < (t101.length : Int) then (if ((((rd_T40 t101 0).f0).toList) == ([117, 115, 101, 114, 45, 97, 103, 101, 110, 116] : List UInt8) && ((((rd_T40 t101 0).f1).toList) == ([66, 111, 116] : List UInt8))) = true then (if (t104.length : Int) = 1 then (if 0 < (t104.length : Int) then (if 0 < (((rd_T53 t104 0).f0).length : Int) then (if (rdOf ByteArray.empty ((rd_T53 t104 0).f0) 0).toList = ([98, 111, 116] : List UInt8) then (if ((rd_T53 t104 0).f2) = 1500 then (if (((rd_T53 t104 0).f1).length : Int) = 1 then (if bt107.2 = true then (if bt107.1 = 2047 then ((decorumref09_Lower.f (⟨#[65]⟩ : ByteArray)).bind fun t114 => (some (t114.toList == ([97] : List UInt8)))) else (some false)) else (some false)) else (some false)) else (some false)) else (some false)) else (none)) else (none)) else (some false)) else (some false)) else (none)) else (some false)))) = some r := H
  have A1 := Aside0.mk A10
  clear A10
  replace H := Option.bind_eq_some_iff.mp H
  obtain ⟨t104, A20, H⟩ := H
  replace H : ((lines_Delay.f (⟨#[50, 46, 48, 52, 55, 57]⟩ : ByteArray)).bind fun bt107 => (if (t101.length : Int) = 3 then (if 0 < (t101.length : Int) then (if ((((rd_T40 t101 0).f0).toList) == ([117, 115, 101, 114, 45, 97, 103, 101, 110, 116] : List UInt8) && ((((rd_T40 t101 0).f1).toList) == ([66, 111, 116] : List UInt8))) = true then (if (t104.length : Int) = 1 then (if 0 < (t104.length : Int) then (if 0 < (((rd_T53 t104 0).f0).length : Int) then (if (rdOf ByteArray.empty ((rd_T53 t104 0).f0) 0).toList = ([98, 111, 116] : List UInt8) then (if ((rd_T53 t104 0).f2) = 1500 then (if (((rd_T53 t104 0).f1).length : Int) = 1 then (if bt107.2 = true then (if bt107.1 = 2047 then ((decorumref09_Lower.f (⟨#[65]⟩ : ByteArray)).bind fun t114 => (some (t114.toList == ([97] : List UInt8)))) else (some false)) else (some false)) else (some false)) else (some false)) else (some false)) else (none)) else (none)) else (some false)) else (some false)) else (none)) else (some false))) = some r := H
  have A2 := Aside0.mk A20
  clear A20
  replace H := Option.bind_eq_some_iff.mp H
  obtain ⟨⟨t107, t108⟩, A30, H⟩ := H
  replace H : (if (t101.length : Int) = 3 then (if 0 < (t101.length : Int) then (if ((((rd_T40 t101 0).f0).toList) == ([117, 115, 101, 114, 45, 97, 103, 101, 110, 116] : List UInt8) && ((((rd_T40 t101 0).f1).toList) == ([66, 111, 116] : List UInt8))) = true then (if (t104.length : Int) = 1 then (if 0 < (t104.length : Int) then (if 0 < (((rd_T53 t104 0).f0).length : Int) then (if (rdOf ByteArray.empty ((rd_T53 t104 0).f0) 0).toList = ([98, 111, 116] : List UInt8) then (if ((rd_T53 t104 0).f2) = 1500 then (if (((rd_T53 t104 0).f1).length : Int) = 1 then (if t108 = true then (if t107 = 2047 then ((decorumref09_Lower.f (⟨#[65]⟩ : ByteArray)).bind fun t114 => (some (t114.toList == ([97] : List UInt8)))) else (some false)) else (some false)) else (some false)) else (some false)) else (some false)) else (none)) else (none)) else (some false)) else (some false)) else (none)) else (some false)) = some r := H
  have A3 := Aside0.mk A30
  clear A30
  by_cases c4 : (t101.length : Int) = 3
  · rw [if_pos c4] at H
    have c4b0 : ((t101.length : Int) == 3) = true := beq_iff_eq.mpr c4
    have c4b1 : ((t101.length : Int) != 3) = false := bne_eq_false_iff_eq.mpr c4
    clear c4
    by_cases c5 : 0 < (t101.length : Int)
    · rw [if_pos c5] at H
      have c5b0 : decide (0 < (t101.length : Int)) = true := decide_eq_true c5
      have c5b1 : decide (0 < t101.length) = true := decide_eq_true (by omega)
      clear c5
      by_cases c6 : ((((rd_T40 t101 0).f0).toList) == ([117, 115, 101, 114, 45, 97, 103, 101, 110, 116] : List UInt8) && ((((rd_T40 t101 0).f1).toList) == ([66, 111, 116] : List UInt8))) = true
      · rw [if_pos c6] at H
        have c6b0 : ((((rd_T40 t101 0).f0).toList) == ([117, 115, 101, 114, 45, 97, 103, 101, 110, 116] : List UInt8) && ((((rd_T40 t101 0).f1).toList) == ([66, 111, 116] : List UInt8))) = true := c6
        (try (have c6b1 : decide ((((rd_T40 t101 0).f0).toList) = ([117, 115, 101, 114, 45, 97, 103, 101, 110, 116] : List UInt8) && ((((rd_T40 t101 0).f1).toList) == ([66, 111, 116] : List UInt8))) = true := by simpa using c6))
        (try (have c6b2 : ((((rd_T40 t101 0).f0).toList) == ([117, 115, 101, 114, 45, 97, 103, 101, 110, 116] : List UInt8) && ((((rd_T40 t101 0).f1).toList) == ([66, 111, 116] : List UInt8))) = true := by simpa using c6))
        clear c6
        by_cases c7 : (t104.length : Int) = 1
        · rw [if_pos c7] at H
          have c7b0 : ((t104.length : Int) == 1) = true := beq_iff_eq.mpr c7
          have c7b1 : ((t104.length : Int) != 1) = false := bne_eq_false_iff_eq.mpr c7
          clear c7
          by_cases c8 : 0 < (t104.length : Int)
          · rw [if_pos c8] at H
            have c8b0 : decide (0 < (t104.length : Int)) = true := decide_eq_true c8
            have c8b1 : decide (0 < t104.length) = true := decide_eq_true (by omega)
            clear c8
            by_cases c9 : 0 < (((rd_T53 t104 0).f0).length : Int)
            · rw [if_pos c9] at H
              have c9b0 : decide (0 < (((rd_T53 t104 0).f0).length : Int)) = true := decide_eq_true c9
              have c9b1 : decide (0 < ((rd_T53 t104 0).f0).length) = true := decide_eq_true (by omega)
              clear c9
              by_cases c10 : (rdOf ByteArray.empty ((rd_T53 t104 0).f0) 0).toList = ([98, 111, 116] : List UInt8)
              · rw [if_pos c10] at H
                have c10b0 : ((rdOf ByteArray.empty ((rd_T53 t104 0).f0) 0).toList == ([98, 111, 116] : List UInt8)) = true := beq_iff_eq.mpr c10
                have c10b1 : ((rdOf ByteArray.empty ((rd_T53 t104 0).f0) 0).toList != ([98, 111, 116] : List UInt8)) = false := bne_eq_false_iff_eq.mpr c10
                clear c10
                by_cases c11 : ((rd_T53 t104 0).f2) = 1500
                · rw [if_pos c11] at H
                  have c11b0 : (((rd_T53 t104 0).f2) == 1500) = true := beq_iff_eq.mpr c11
                  have c11b1 : (((rd_T53 t104 0).f2) != 1500) = false := bne_eq_false_iff_eq.mpr c11
                  clear c11
                  by_cases c12 : (((rd_T53 t104 0).f1).length : Int) = 1
                  · rw [if_pos c12] at H
                    have c12b0 : ((((rd_T53 t104 0).f1).length : Int) == 1) = true := beq_iff_eq.mpr c12
                    have c12b1 : ((((rd_T53 t104 0).f1).length : Int) != 1) = false := bne_eq_false_iff_eq.mpr c12
                    clear c12
                    by_cases c13 : t108 = true
                    · subst c13
                      have H1 : (if t107 = 2047 then ((decorumref09_Lower.f (⟨#[65]⟩ : ByteArray)).bind fun t114 => (some (t114.toList == ([97] : List UInt8)))) else (some false)) = some r := by rw [if_pos rfl] at H; exact H
                      clear H
                      have H := H1
                      clear H1
                      by_cases c14 : t107 = 2047
                      · rw [if_pos c14] at H
                        have c14b0 : (t107 == 2047) = true := beq_iff_eq.mpr c14
                        have c14b1 : (t107 != 2047) = false := bne_eq_false_iff_eq.mpr c14
                        clear c14
                        replace H := Option.bind_eq_some_iff.mp H
                        obtain ⟨t114, A150, H⟩ := H
                        replace H : (some (t114.toList == ([97] : List UInt8))) = some r := H
                        have A15 := Aside0.mk A150
                        clear A150
                        obtain rfl := Option.some.inj H
                        go_enter Tryd.func12, Tryd.ntmps12
                        go_wp2_with (first | ((with_reducible refine gate_callee (f := 10) rfl ?_); refine goesL_ (some 5) rfl rfl Tryd.func10 (by kernel_rfl) rfl #[.string (⟨#[85, 115, 101, 114, 45, 65, 103, 101, 110, 116, 58, 32, 66, 111, 116, 32, 35, 32, 120, 13, 10, 68, 105, 115, 97, 108, 108, 111, 119, 58, 32, 47, 97, 10, 10, 99, 114, 97, 119, 108, 45, 100, 101, 108, 97, 121, 58, 32, 49, 46, 53, 10, 110, 111, 116, 104, 105, 110, 103]⟩ : ByteArray)] rfl (by (try simp only [List.map_toArray, List.map_cons, List.map_nil]); first | done | rfl | (simp only [List.length_drop, List.length_take]; rfl)) ?_; (with_reducible refine (lines_Parse.calls (⟨#[85, 115, 101, 114, 45, 65, 103, 101, 110, 116, 58, 32, 66, 111, 116, 32, 35, 32, 120, 13, 10, 68, 105, 115, 97, 108, 108, 111, 119, 58, 32, 47, 97, 10, 10, 99, 114, 97, 119, 108, 45, 100, 101, 108, 97, 121, 58, 32, 49, 46, 53, 10, 110, 111, 116, 104, 105, 110, 103]⟩ : ByteArray) t101 _ A1.out (Shp.below HS_.out (by repeat (first | (with_reducible first | exact HB.out | apply below_alloc | apply pw_below_drewN | apply below_drew1) | exact HB.out)))).mono ?_); rintro e w16 ⟨v102, rfl, ho0, hb⟩; refine ⟨_, rfl, ?_⟩; have n0_ := Aside0.mk (Kd.R_lower ho0 (below_size (by repeat (first | (with_reducible first | exact HB.out | apply below_alloc | apply pw_below_drewN | apply below_drew1) | exact HB.out)))); have n1_ := Aside0.mk (below_step (by repeat (first | (with_reducible first | exact HB.out | apply below_alloc | apply pw_below_drewN | apply below_drew1) | exact HB.out)) hb); clear HB; have HO103 := n0_; have HB := n1_; clear n0_ n1_; (try clear hb); (try clear hb2); (try clear hk); (try clear hi); (try clear ho0); obtain ⟨Ao17, co17, eo17⟩ := Kd.R_slice HO103.out; subst eo17) | ((with_reducible refine gate_callee (f := 16) rfl ?_); refine goesL_ (some 7) rfl rfl Tryd.func16 (by kernel_rfl) rfl #[.slice Ao17 t101.length co17] rfl (by (try simp only [List.map_toArray, List.map_cons, List.map_nil]); first | done | rfl | (simp only [List.length_drop, List.length_take]; rfl)) ?_; (with_reducible refine (lines_Groups.calls _ _ t101 t104 _ ?side1 ?side2 A2.out (Shp.below HS_.out (by repeat (first | (with_reducible first | exact HB.out | apply below_alloc | apply pw_below_drewN | apply below_drew1) | exact HB.out)))).mono ?_); (case side1 => repeat (first | exact (Kd.R_reads' HO103.out).2.2 | (with_reducible refine Kd.C_alloc ?_ _) | (with_reducible refine Kd.C_drewN ?_ _) | (with_reducible refine Kd.C_drew ?_))); (case side2 => exact (Kd.R_reads' HO103.out).2.1); rintro e w18 ⟨v105, rfl, ho0, hb⟩; refine ⟨_, rfl, ?_⟩; have n0_ := Aside0.mk (Kd.R_below (by (with_reducible repeat (first | apply Kd.R_alloc | apply Kd.R_drewN | apply Kd.R_drew)); exact HO103.out) hb); have n1_ := Aside0.mk (Kd.S_lower ho0 (below_size (by repeat (first | (with_reducible first | exact HB.out | apply below_alloc | apply pw_below_drewN | apply below_drew1) | exact HB.out)))); have n2_ := Aside0.mk (below_step (by repeat (first | (with_reducible first | exact HB.out | apply below_alloc | apply pw_below_drewN | apply below_drew1) | exact HB.out)) hb); clear HO103; clear HB; have HO103 := n0_; have HO106 := n1_; have HB := n2_; clear n0_ n1_ n2_; (try clear hb); (try clear hb2); (try clear hk); (try clear hi); (try clear ho0)) | ((with_reducible refine gate_callee (f := 13) rfl ?_); refine goesL_ (some 9) rfl rfl Tryd.func13 (by kernel_rfl) rfl #[.string (⟨#[50, 46, 48, 52, 55, 57]⟩ : ByteArray)] rfl (by (try simp only [List.map_toArray, List.map_cons, List.map_nil]); first | done | rfl | (simp only [List.length_drop, List.length_take]; rfl)) ?_; (with_reducible refine (lines_Delay.calls (⟨#[50, 46, 48, 52, 55, 57]⟩ : ByteArray) t107 true _ A3.out (Shp.below HS_.out (by repeat (first | (with_reducible first | exact HB.out | apply below_alloc | apply pw_below_drewN | apply below_drew1) | exact HB.out)))).mono ?_); rintro e w19 ⟨rfl, hb⟩; refine ⟨_, rfl, ?_⟩; have n0_ := Aside0.mk (Kd.R_below (by (with_reducible repeat (first | apply Kd.R_alloc | apply Kd.R_drewN | apply Kd.R_drew)); exact HO103.out) hb); have n1_ := Aside0.mk (Kd.S_below (by (with_reducible repeat (first | apply Kd.S_alloc | apply Kd.S_drewN | apply Kd.S_drew)); exact HO106.out) hb); have n2_ := Aside0.mk (below_step (by repeat (first | (with_reducible first | exact HB.out | apply below_alloc | apply pw_below_drewN | apply below_drew1) | exact HB.out)) hb); clear HO103; clear HO106; clear HB; have HO103 := n0_; have HO106 := n1_; have HB := n2_; clear n0_ n1_ n2_; (try clear hb); (try clear hb2); (try clear hk); (try clear hi); have p109 : 0 ≤ (0 : Int) := (by omega); have q109 : 0 < (t101.length : Int) := of_decide_eq_true (by first | (with_reducible assumption) | assumption); obtain ⟨ad109, e109, hx109_0, hx109_1⟩ := at_T40 (Kd.R_reads' HO103.out).2.2 0 p109 q109; cases e109; have qi109 : (0 < t101.length) = True := eq_true (by omega); (try rw [show ((0 : Int)).toNat = 0 from rfl] at hx109_0); (try rw [show 0 * 2 = 0 from rfl] at hx109_0); (try rw [Addr.add_zero'] at hx109_0); (try rw [show ((0 : Int)).toNat = 0 from rfl] at hx109_1); (try rw [show 0 * 2 = 0 from rfl] at hx109_1); (try rw [Addr.add_zero'] at hx109_1); replace p109 := eq_true p109; replace q109 := eq_true q109; obtain ⟨Ao20, co20, eo20⟩ := Kd.S_slice HO106.out; subst eo20; have p110 : 0 ≤ (0 : Int) := (by omega); have q110 : 0 < (t104.length : Int) := of_decide_eq_true (by first | (with_reducible assumption) | assumption); obtain ⟨ad110, A110_0, c110_0, A110_1, c110_1, e110, hx110_0, hx110_1, hx110_2, hl110_0, hi110_0, hl110_1, hi110_1⟩ := at_T53 (Kd.S_reads' HO106.out).2.2 0 p110 q110; cases e110; obtain ⟨ce110, hce110, hMe110, hcc110⟩ := Kd.S_get HO106.out z53 0 p110 (by first | exact q110 | exact of_decide_eq_true (by first | (with_reducible assumption) | assumption) | (have e_ := (Kd.S_reads' HO106.out).1; omega)); obtain ⟨ve110_0, ve110_1, rfl, ge110_0, ge110_1⟩ := k53_openM hMe110; have hv110_0 := hcc110 0 _ rfl; rw [Nat.add_zero] at hv110_0; replace hv110_0 := Option.some.inj (hv110_0.symm.trans hx110_0); rw [hv110_0] at ge110_0; have HL110_0 := Aside0.mk (show Kd.R Kd.string 9 _ _ _ _ ((rd_T53 t104 0).f0) from ge110_0); clear hv110_0 ge110_0; have hv110_1 := hcc110 1 _ rfl; rw [add_field _ _ 1 (by omega)] at hv110_1; replace hv110_1 := Option.some.inj (hv110_1.symm.trans hx110_1); rw [hv110_1] at ge110_1; have HL110_1 := Aside0.mk (show Kd.R k59 59 _ _ _ _ ((rd_T53 t104 0).f1) from ge110_1); clear hv110_1 ge110_1; clear hcc110 hce110; have qi110 : (0 < t104.length) = True := eq_true (by omega); (try rw [show ((0 : Int)).toNat = 0 from rfl] at hx110_0); (try rw [show 0 * 3 = 0 from rfl] at hx110_0); (try rw [Addr.add_zero'] at hx110_0); (try rw [show ((0 : Int)).toNat = 0 from rfl] at hx110_1); (try rw [show 0 * 3 = 0 from rfl] at hx110_1); (try rw [Addr.add_zero'] at hx110_1); (try rw [show ((0 : Int)).toNat = 0 from rfl] at hx110_2); (try rw [show 0 * 3 = 0 from rfl] at hx110_2); (try rw [Addr.add_zero'] at hx110_2); have HR110_0 := Aside0.mk hi110_0; have HC110_0 := Aside0.mk hl110_0; clear hi110_0 hl110_0; have HR110_1 := Aside0.mk hi110_1; have HC110_1 := Aside0.mk hl110_1; clear hi110_1 hl110_1; replace p110 := eq_true p110; replace q110 := eq_true q110; have p111 : 0 ≤ (0 : Int) := (by omega); have q111 : 0 < (((rd_T53 t104 0).f0).length : Int) := of_decide_eq_true (by first | (with_reducible assumption) | assumption); obtain ⟨ad111, e111, hx111_0⟩ := Kd.at_string (by repeat (first | (with_reducible exact HR110_0.out) | (with_reducible refine Kd.C_alloc ?_ _) | (with_reducible refine Kd.C_drewN ?_ _) | (with_reducible refine Kd.C_drew ?_) | exact HR110_0.out)) 0 p111 q111; cases e111; have qi111 : (0 < ((rd_T53 t104 0).f0).length) = True := eq_true (by omega); (try rw [show ((0 : Int)).toNat = 0 from rfl] at hx111_0); (try rw [Addr.add_zero'] at hx111_0); replace p111 := eq_true p111; replace q111 := eq_true q111; have p112 : 0 ≤ (0 : Int) := (by omega); have q112 : 0 < (t104.length : Int) := of_decide_eq_true (by first | (with_reducible assumption) | assumption); obtain ⟨ad112, A112_0, c112_0, A112_1, c112_1, e112, hx112_0, hx112_1, hx112_2, hl112_0, hi112_0, hl112_1, hi112_1⟩ := at_T53 (Kd.S_reads' HO106.out).2.2 0 p112 q112; obtain rfl : ad110 = ad112 := (by injection e112); obtain ⟨ce112, hce112, hMe112, hcc112⟩ := Kd.S_get HO106.out z53 0 p112 (by first | exact q112 | exact of_decide_eq_true (by first | (with_reducible assumption) | assumption) | (have e_ := (Kd.S_reads' HO106.out).1; omega)); obtain ⟨ve112_0, ve112_1, rfl, ge112_0, ge112_1⟩ := k53_openM hMe112; have hv112_0 := hcc112 0 _ rfl; rw [Nat.add_zero] at hv112_0; replace hv112_0 := Option.some.inj (hv112_0.symm.trans hx112_0); rw [hv112_0] at ge112_0; have HL112_0 := Aside0.mk (show Kd.R Kd.string 9 _ _ _ _ ((rd_T53 t104 0).f0) from ge112_0); clear hv112_0 ge112_0; have hv112_1 := hcc112 1 _ rfl; rw [add_field _ _ 1 (by omega)] at hv112_1; replace hv112_1 := Option.some.inj (hv112_1.symm.trans hx112_1); rw [hv112_1] at ge112_1; have HL112_1 := Aside0.mk (show Kd.R k59 59 _ _ _ _ ((rd_T53 t104 0).f1) from ge112_1); clear hv112_1 ge112_1; clear hcc112 hce112; have qi112 : (0 < t104.length) = True := eq_true (by omega); (try rw [show ((0 : Int)).toNat = 0 from rfl] at hx112_0); (try rw [show 0 * 3 = 0 from rfl] at hx112_0); (try rw [Addr.add_zero'] at hx112_0); (try rw [show ((0 : Int)).toNat = 0 from rfl] at hx112_1); (try rw [show 0 * 3 = 0 from rfl] at hx112_1); (try rw [Addr.add_zero'] at hx112_1); (try rw [show ((0 : Int)).toNat = 0 from rfl] at hx112_2); (try rw [show 0 * 3 = 0 from rfl] at hx112_2); (try rw [Addr.add_zero'] at hx112_2); have HR112_0 := Aside0.mk hi112_0; have HC112_0 := Aside0.mk hl112_0; clear hi112_0 hl112_0; have HR112_1 := Aside0.mk hi112_1; have HC112_1 := Aside0.mk hl112_1; clear hi112_1 hl112_1; replace p112 := eq_true p112; replace q112 := eq_true q112; have ea_ := Option.some.inj (hx110_0.symm.trans hx112_0); injection ea_ with ea_ en_ ec_; subst ea_; subst ec_; clear en_; have ea_ := Option.some.inj (hx110_1.symm.trans hx112_1); injection ea_ with ea_ en_ ec_; subst ea_; subst ec_; clear en_; have p113 : 0 ≤ (0 : Int) := (by omega); have q113 : 0 < (t104.length : Int) := of_decide_eq_true (by first | (with_reducible assumption) | assumption); obtain ⟨ad113, A113_0, c113_0, A113_1, c113_1, e113, hx113_0, hx113_1, hx113_2, hl113_0, hi113_0, hl113_1, hi113_1⟩ := at_T53 (Kd.S_reads' HO106.out).2.2 0 p113 q113; obtain rfl : ad110 = ad113 := (by injection e113); obtain ⟨ce113, hce113, hMe113, hcc113⟩ := Kd.S_get HO106.out z53 0 p113 (by first | exact q113 | exact of_decide_eq_true (by first | (with_reducible assumption) | assumption) | (have e_ := (Kd.S_reads' HO106.out).1; omega)); obtain ⟨ve113_0, ve113_1, rfl, ge113_0, ge113_1⟩ := k53_openM hMe113; have hv113_0 := hcc113 0 _ rfl; rw [Nat.add_zero] at hv113_0; replace hv113_0 := Option.some.inj (hv113_0.symm.trans hx113_0); rw [hv113_0] at ge113_0; have HL113_0 := Aside0.mk (show Kd.R Kd.string 9 _ _ _ _ ((rd_T53 t104 0).f0) from ge113_0); clear hv113_0 ge113_0; have hv113_1 := hcc113 1 _ rfl; rw [add_field _ _ 1 (by omega)] at hv113_1; replace hv113_1 := Option.some.inj (hv113_1.symm.trans hx113_1); rw [hv113_1] at ge113_1; have HL113_1 := Aside0.mk (show Kd.R k59 59 _ _ _ _ ((rd_T53 t104 0).f1) from ge113_1); clear hv113_1 ge113_1; clear hcc113 hce113; have qi113 : (0 < t104.length) = True := eq_true (by omega); (try rw [show ((0 : Int)).toNat = 0 from rfl] at hx113_0); (try rw [show 0 * 3 = 0 from rfl] at hx113_0); (try rw [Addr.add_zero'] at hx113_0); (try rw [show ((0 : Int)).toNat = 0 from rfl] at hx113_1); (try rw [show 0 * 3 = 0 from rfl] at hx113_1); (try rw [Addr.add_zero'] at hx113_1); (try rw [show ((0 : Int)).toNat = 0 from rfl] at hx113_2); (try rw [show 0 * 3 = 0 from rfl] at hx113_2); (try rw [Addr.add_zero'] at hx113_2); have HR113_0 := Aside0.mk hi113_0; have HC113_0 := Aside0.mk hl113_0; clear hi113_0 hl113_0; have HR113_1 := Aside0.mk hi113_1; have HC113_1 := Aside0.mk hl113_1; clear hi113_1 hl113_1; replace p113 := eq_true p113; replace q113 := eq_true q113; have ea_ := Option.some.inj (hx110_0.symm.trans hx113_0); injection ea_ with ea_ en_ ec_; subst ea_; subst ec_; clear en_; have ea_ := Option.some.inj (hx110_1.symm.trans hx113_1); injection ea_ with ea_ en_ ec_; subst ea_; subst ec_; clear en_) | (go_at_call 23; (with_reducible refine (decorumref09_Lower.calls (⟨#[65]⟩ : ByteArray) t114 _ A15.out).mono ?_); rintro e w21 ⟨rfl, hb⟩; have n0_ := Aside0.mk (Kd.R_below (by (with_reducible repeat (first | apply Kd.R_alloc | apply Kd.R_drewN | apply Kd.R_drew)); exact HO103.out) hb); have n1_ := Aside0.mk (Kd.S_below (by (with_reducible repeat (first | apply Kd.S_alloc | apply Kd.S_drewN | apply Kd.S_drew)); exact HO106.out) hb); have n2_ := Aside0.mk (Kd.R_below (by (with_reducible repeat (first | apply Kd.R_alloc | apply Kd.R_drewN | apply Kd.R_drew)); exact HL110_0.out) hb); have n3_ := Aside0.mk (Kd.R_below (by (with_reducible repeat (first | apply Kd.R_alloc | apply Kd.R_drewN | apply Kd.R_drew)); exact HL110_1.out) hb); have n4_ := Aside0.mk (Kd.R_below (by (with_reducible repeat (first | apply Kd.R_alloc | apply Kd.R_drewN | apply Kd.R_drew)); exact HL112_0.out) hb); have n5_ := Aside0.mk (Kd.R_below (by (with_reducible repeat (first | apply Kd.R_alloc | apply Kd.R_drewN | apply Kd.R_drew)); exact HL112_1.out) hb); have n6_ := Aside0.mk (Kd.R_below (by (with_reducible repeat (first | apply Kd.R_alloc | apply Kd.R_drewN | apply Kd.R_drew)); exact HL113_0.out) hb); have n7_ := Aside0.mk (Kd.R_below (by (with_reducible repeat (first | apply Kd.R_alloc | apply Kd.R_drewN | apply Kd.R_drew)); exact HL113_1.out) hb); have n8_ := Aside0.mk (Kd.C_below (by repeat (first | (with_reducible exact HR110_0.out) | (with_reducible refine Kd.C_alloc ?_ _) | (with_reducible refine Kd.C_drewN ?_ _) | (with_reducible refine Kd.C_drew ?_) | exact HR110_0.out)) hb); have n9_ := Aside0.mk (Kd.C_below (by repeat (first | (with_reducible exact HR110_1.out) | (with_reducible refine Kd.C_alloc ?_ _) | (with_reducible refine Kd.C_drewN ?_ _) | (with_reducible refine Kd.C_drew ?_) | exact HR110_1.out)) hb); have n10_ := Aside0.mk (Kd.C_below (by repeat (first | (with_reducible exact HR112_0.out) | (with_reducible refine Kd.C_alloc ?_ _) | (with_reducible refine Kd.C_drewN ?_ _) | (with_reducible refine Kd.C_drew ?_) | exact HR112_0.out)) hb); have n11_ := Aside0.mk (Kd.C_below (by repeat (first | (with_reducible exact HR112_1.out) | (with_reducible refine Kd.C_alloc ?_ _) | (with_reducible refine Kd.C_drewN ?_ _) | (with_reducible refine Kd.C_drew ?_) | exact HR112_1.out)) hb); have n12_ := Aside0.mk (Kd.C_below (by repeat (first | (with_reducible exact HR113_0.out) | (with_reducible refine Kd.C_alloc ?_ _) | (with_reducible refine Kd.C_drewN ?_ _) | (with_reducible refine Kd.C_drew ?_) | exact HR113_0.out)) hb); have n13_ := Aside0.mk (Kd.C_below (by repeat (first | (with_reducible exact HR113_1.out) | (with_reducible refine Kd.C_alloc ?_ _) | (with_reducible refine Kd.C_drewN ?_ _) | (with_reducible refine Kd.C_drew ?_) | exact HR113_1.out)) hb); have n14_ := Aside0.mk (below_step (by repeat (first | (with_reducible first | exact HB.out | apply below_alloc | apply pw_below_drewN | apply below_drew1) | exact HB.out)) hb); clear HO103; clear HO106; clear HL110_0; clear HL110_1; clear HL112_0; clear HL112_1; clear HL113_0; clear HL113_1; clear HR110_0; clear HR110_1; clear HR112_0; clear HR112_1; clear HR113_0; clear HR113_1; clear HB; have HO103 := n0_; have HO106 := n1_; have HL110_0 := n2_; have HL110_1 := n3_; have HL112_0 := n4_; have HL112_1 := n5_; have HL113_0 := n6_; have HL113_1 := n7_; have HR110_0 := n8_; have HR110_1 := n9_; have HR112_0 := n10_; have HR112_1 := n11_; have HR113_0 := n12_; have HR113_1 := n13_; have HB := n14_; clear n0_ n1_ n2_ n3_ n4_ n5_ n6_ n7_ n8_ n9_ n10_ n11_ n12_ n13_ n14_; (try clear hb); (try clear hb2); (try clear hk); (try clear hi)))
                        go_ret
                        exact ⟨by first | rfl | (simp [Go.Proofs.YthbmedhejlhclaaDoor.QTxt.errW_none, Go.Proofs.YthbmedhejlhclaaDoor.QTxt.errW_some] <;> rfl) | (simp [*, Go.Proofs.YthbmedhejlhclaaDoor.QTxt.errW_none, Go.Proofs.YthbmedhejlhclaaDoor.QTxt.errW_some] <;> rfl) | (simp [wrap64]; done) | (simp [Go.Proofs.YthbmedhejlhclaaDoor.QTxt.errW_none, Go.Proofs.YthbmedhejlhclaaDoor.QTxt.errW_some] <;> exact empty_bne _), by repeat (first | (with_reducible first | exact HB.out | apply below_alloc | apply pw_below_drewN | apply below_drew1) | exact HB.out)⟩
                      · rw [if_neg c14] at H
                        have c14b0 : (t107 == 2047) = false := beq_eq_false_iff_ne.mpr c14
                        have c14b1 : (t107 != 2047) = true := bne_iff_ne.mpr c14
                        exact absurd ((Option.some.inj H).trans HR_.out) (by decide)
                    · replace c13 := Bool.eq_false_iff.mpr c13
                      subst c13
                      have H1 : (some false) = some r := by rw [if_neg (show ¬ (false = true) by decide)] at H; exact H
                      clear H
                      have H := H1
                      clear H1
                      exact absurd ((Option.some.inj H).trans HR_.out) (by decide)
                  · rw [if_neg c12] at H
                    have c12b0 : ((((rd_T53 t104 0).f1).length : Int) == 1) = false := beq_eq_false_iff_ne.mpr c12
                    have c12b1 : ((((rd_T53 t104 0).f1).length : Int) != 1) = true := bne_iff_ne.mpr c12
                    exact absurd ((Option.some.inj H).trans HR_.out) (by decide)
                · rw [if_neg c11] at H
                  have c11b0 : (((rd_T53 t104 0).f2) == 1500) = false := beq_eq_false_iff_ne.mpr c11
                  have c11b1 : (((rd_T53 t104 0).f2) != 1500) = true := bne_iff_ne.mpr c11
                  exact absurd ((Option.some.inj H).trans HR_.out) (by decide)
              · rw [if_neg c10] at H
                have c10b0 : ((rdOf ByteArray.empty ((rd_T53 t104 0).f0) 0).toList == ([98, 111, 116] : List UInt8)) = false := beq_eq_false_iff_ne.mpr c10
                have c10b1 : ((rdOf ByteArray.empty ((rd_T53 t104 0).f0) 0).toList != ([98, 111, 116] : List UInt8)) = true := bne_iff_ne.mpr c10
                exact absurd ((Option.some.inj H).trans HR_.out) (by decide)
            · rw [if_neg c9] at H
              exact absurd H (by simp)
          · rw [if_neg c8] at H
            exact absurd H (by simp)
        · rw [if_neg c7] at H
          have c7b0 : ((t104.length : Int) == 1) = false := beq_eq_false_iff_ne.mpr c7
          have c7b1 : ((t104.length : Int) != 1) = true := bne_iff_ne.mpr c7
          exact absurd ((Option.some.inj H).trans HR_.out) (by decide)
      · rw [if_neg c6] at H
        have c6b0 : ((((rd_T40 t101 0).f0).toList) == ([117, 115, 101, 114, 45, 97, 103, 101, 110, 116] : List UInt8) && ((((rd_T40 t101 0).f1).toList) == ([66, 111, 116] : List UInt8))) = false := by simpa using c6
        (try (have c6b1 : decide ((((rd_T40 t101 0).f0).toList) = ([117, 115, 101, 114, 45, 97, 103, 101, 110, 116] : List UInt8) && ((((rd_T40 t101 0).f1).toList) == ([66, 111, 116] : List UInt8))) = false := by simpa using c6))
        (try (have c6b2 : ((((rd_T40 t101 0).f0).toList) == ([117, 115, 101, 114, 45, 97, 103, 101, 110, 116] : List UInt8) && ((((rd_T40 t101 0).f1).toList) == ([66, 111, 116] : List UInt8))) = false := by simpa using c6))
        (try (have c6b3 : ¬ ((((rd_T40 t101 0).f0).toList) = ([117, 115, 101, 114, 45, 97, 103, 101, 110, 116] : List UInt8) && ((((rd_T40 t101 0).f1).toList) == ([66, 111, 116] : List UInt8))) := by simpa using c6))
        clear c6
        exact absurd ((Option.some.inj H).trans HR_.out) (by decide)
    · rw [if_neg c5] at H
      exact absurd H (by simp)
  · rw [if_neg c4] at H
    have c4b0 : ((t101.length : Int) == 3) = false := beq_eq_false_iff_ne.mpr c4
    have c4b1 : ((t101.length : Int) != 3) = true := bne_iff_ne.mpr c4
    exact absurd ((Option.some.inj H).trans HR_.out) (by decide)

/-! ### decorumlaw09_LinesTexts: function 6 -/
def decorumlaw09_LinesTexts.j0 : Nat → ByteArray → Option (Bool)
  | 0, _ => none
  | k + 1, x0 => (decorumlaw09_awake.f).bind fun t115 => (if t115 = true then ((lines_Parse.f x0).bind fun t116 => ((lines_Groups.f t116).bind fun t119 => ((decorumref09_Parse.f k x0).bind fun t122 => ((decorumref09_Groups.f t122).bind fun t125 => ((decorumlaw09_alike.f k t119 t125).bind fun t128 => (some t128)))))) else (some false))
def decorumlaw09_LinesTexts.f (k : Nat) (a0 : ByteArray) : Option (Bool) := if (a0.size : Int) > 3000 then (if 0 ≤ 3000 then (if 3000 ≤ (a0.size : Int) then (decorumlaw09_LinesTexts.j0 k (a0.extract 0 3000)) else (none)) else (none)) else (decorumlaw09_LinesTexts.j0 k a0)
theorem decorumlaw09_LinesTexts.mono_l : ∀ k, (∀ y0, LeO (decorumlaw09_LinesTexts.j0 k y0) (decorumlaw09_LinesTexts.j0 (k + 1) y0))
  | 0 => fun _ r h => by simp [decorumlaw09_LinesTexts.j0] at h
  | k + 1 => by
    have ih0 := decorumlaw09_LinesTexts.mono_l k
    · intro y0
      unfold decorumlaw09_LinesTexts.j0
      repeat' first
      | (with_reducible exact ih0 _)
      | (with_reducible exact decorumlaw09_alike.mono _ _ _)
      | (with_reducible exact decorumref09_Parse.mono _ _)
      | (with_reducible exact LeO.refl _)
      | (with_reducible exact LeO.none _)
      | (with_reducible refine LeO.ite ?_ ?_)
      | (with_reducible refine LeO.bind ?_ (fun _ => ?_))
      | exact ih0 _
      | exact decorumlaw09_alike.mono _ _ _
      | exact decorumref09_Parse.mono _ _
      | exact LeO.none _
      | refine LeO.ite ?_ ?_
      | refine LeO.bind ?_ (fun _ => ?_)
theorem decorumlaw09_LinesTexts.mono : ∀ a0 k, LeO (decorumlaw09_LinesTexts.f k a0) (decorumlaw09_LinesTexts.f (k + 1) a0) := by
  intro a0 k
  have ih0 := decorumlaw09_LinesTexts.mono_l k
  unfold decorumlaw09_LinesTexts.f
  repeat' first
      | (with_reducible exact ih0 _)
      | (with_reducible exact decorumlaw09_alike.mono _ _ _)
      | (with_reducible exact decorumref09_Parse.mono _ _)
      | (with_reducible exact LeO.refl _)
      | (with_reducible exact LeO.none _)
      | (with_reducible refine LeO.ite ?_ ?_)
      | (with_reducible refine LeO.bind ?_ (fun _ => ?_))
      | exact ih0 _
      | exact decorumlaw09_alike.mono _ _ _
      | exact decorumref09_Parse.mono _ _
      | exact LeO.none _
      | refine LeO.ite ?_ ?_
      | refine LeO.bind ?_ (fun _ => ?_)
set_option maxHeartbeats 8000000 in
set_option maxRecDepth 100000 in
theorem decorumlaw09_LinesTexts.calls (k : Nat) (a0 : ByteArray) (r : Bool) (w : World) (hr_ : r = true) (h : decorumlaw09_LinesTexts.f k a0 = some r) (hS_ : Shp w) :
    Calls Tryd.prog 6 #[.string a0] w fun e w' => e = .returned (.bool r) ∧ Below w.heap.size w w' := by
  have HR_ := Aside0.mk (hr_)
  have HB := Aside0.mk (Below.refl w.heap.size w)
  have HS_ := Aside0.mk hS_
  clear hS_
  have H : (if (a0.size : Int) > 3000 then (if 0 ≤ 3000 then (if 3000 ≤ (a0.size : Int) then (decorumlaw09_LinesTexts.j0 k (a0.extract 0 3000)) else (none)) else (none)) else (decorumlaw09_LinesTexts.j0 k a0)) = some r := h
  clear h
  have HC2 := Aside0.mk H
  clear H
  go_enter Tryd.func6, Tryd.ntmps6
  go_upto_if 5 with (fail)
  go_cut [0] (fun v0 wc => ∃ (kq : Nat) (x0_1 : ByteArray), v0 = .string x0_1 ∧ Aside0 (decorumlaw09_LinesTexts.j0 kq x0_1 = some r) ∧ Aside0 (kq ≤ k) ∧ Aside0 (Below w.heap.size w wc))
  case first =>
    have H := HC2.out
    clear HC2
    by_cases c3 : (a0.size : Int) > 3000
    · rw [if_pos c3] at H
      have c3b0 : decide (3000 < (a0.size : Int)) = true := decide_eq_true c3
      have c3b1 : decide (3000 < a0.size) = true := decide_eq_true (by omega)
      clear c3
      (first | rw [c3b0] | (simp only [i64_w, i32_w]; rw [c3b0]) | skip)
      by_cases c4 : 0 ≤ 3000
      · rw [if_pos c4] at H
        have c4b0 := eq_true c4
        have c4b1 : decide (0 ≤ 3000) = true := decide_eq_true c4
        clear c4
        by_cases c5 : 3000 ≤ (a0.size : Int)
        · rw [if_pos c5] at H
          have c5b0 := eq_true c5
          have c5b1 : decide (3000 ≤ (a0.size : Int)) = true := decide_eq_true c5
          clear c5
          have H' := Aside0.mk H
          clear H
          go_wp2
          go_meet
          case rel => exact ⟨_, (a0.extract 0 3000), (by first | rfl | (simp; done) | (simp [*]; done)), H', ⟨by first | omega | exact Nat.le_refl _⟩, ⟨by repeat (first | (with_reducible first | exact HB.out | apply below_alloc | apply pw_below_drewN | apply below_drew1) | exact HB.out)⟩⟩
        · rw [if_neg c5] at H
          exact absurd H (by simp)
      · rw [if_neg c4] at H
        exact absurd H (by simp)
    · rw [if_neg c3] at H
      have c3b0 : decide (3000 < (a0.size : Int)) = false := decide_eq_false c3
      have c3b1 : decide (3000 < a0.size) = false := decide_eq_false (by omega)
      clear c3
      (first | rw [c3b0] | (simp only [i64_w, i32_w]; rw [c3b0]) | skip)
      have H' := Aside0.mk H
      clear H
      go_wp2
      go_meet
      case rel => exact ⟨_, (a0), (by first | rfl | (simp; done) | (simp [*]; done)), H', ⟨by first | omega | exact Nat.le_refl _⟩, ⟨by repeat (first | (with_reducible first | exact HB.out | apply below_alloc | apply pw_below_drewN | apply below_drew1) | exact HB.out)⟩⟩
  case rest =>
    clear HC2
    try clear p2
    try clear c3
    try clear c3b0
    try clear c3b1
    try clear c4
    try clear c4b0
    try clear c4b1
    try clear c5
    try clear c5b0
    try clear c5b1
    obtain ⟨kq, x0_1, rfl, HA, HJ1, HB⟩ := hcut
    cases kq with
    | zero => exact absurd HA.out (by simp [decorumlaw09_LinesTexts.j0])
    | succ kj1 =>
      have H := HA.out
      clear HA
      simp only [decorumlaw09_LinesTexts.j0] at H
      replace H := Option.bind_eq_some_iff.mp H
      obtain ⟨t115, A60, H⟩ := H
      replace H : (if t115 = true then ((lines_Parse.f x0_1).bind fun t116 => ((lines_Groups.f t116).bind fun t119 => ((decorumref09_Parse.f kj1 x0_1).bind fun t122 => ((decorumref09_Groups.f t122).bind fun t125 => ((decorumlaw09_alike.f kj1 t119 t125).bind fun t128 => (some t128)))))) else (some false)) = some r := H
      have A6 := Aside0.mk A60
      clear A60
      by_cases c7 : t115 = true
      · subst c7
        have H1 : ((lines_Parse.f x0_1).bind fun t116 => ((lines_Groups.f t116).bind fun t119 => ((decorumref09_Parse.f kj1 x0_1).bind fun t122 => ((decorumref09_Groups.f t122).bind fun t125 => ((decorumlaw09_alike.f kj1 t119 t125).bind fun t128 => (some t128)))))) = some r := by rw [if_pos rfl] at H; exact H
        clear H
        have H := H1
        clear H1
        replace H := Option.bind_eq_some_iff.mp H
        obtain ⟨t116, A80, H⟩ := H
        replace H : ((lines_Groups.f t116).bind fun t119 => ((decorumref09_Parse.f kj1 x0_1).bind fun t122 => ((decorumref09_Groups.f t122).bind fun t125 => ((decorumlaw09_alike.f kj1 t119 t125).bind fun t128 => (some t128))))) = some r := H
        have A8 := Aside0.mk A80
        clear A80
        replace H := Option.bind_eq_some_iff.mp H
        obtain ⟨t119, A90, H⟩ := H
        replace H : ((decorumref09_Parse.f kj1 x0_1).bind fun t122 => ((decorumref09_Groups.f t122).bind fun t125 => ((decorumlaw09_alike.f kj1 t119 t125).bind fun t128 => (some t128)))) = some r := H
        have A9 := Aside0.mk A90
        clear A90
        replace H := Option.bind_eq_some_iff.mp H
        obtain ⟨t122, A100, H⟩ := H
        replace H : ((decorumref09_Groups.f t122).bind fun t125 => ((decorumlaw09_alike.f kj1 t119 t125).bind fun t128 => (some t128))) = some r := H
        have A10 := Aside0.mk A100
        clear A100
        replace H := Option.bind_eq_some_iff.mp H
        obtain ⟨t125, A110, H⟩ := H
        replace H : ((decorumlaw09_alike.f kj1 t119 t125).bind fun t128 => (some t128)) = some r := H
        have A11 := Aside0.mk A110
        clear A110
        replace H := Option.bind_eq_some_iff.mp H
        obtain ⟨t128, A120, H⟩ := H
        replace H : (some t128) = some r := H
        have A12 := Aside0.mk A120
        clear A120
        obtain rfl := Option.some.inj H
        go_wp2_with (first | ((with_reducible refine gate_callee (f := 12) rfl ?_); refine goesL_ (some 8) rfl rfl Tryd.func12 (by kernel_rfl) rfl #[] rfl (by (try simp only [List.map_toArray, List.map_cons, List.map_nil]); first | done | rfl | (simp only [List.length_drop, List.length_take]; rfl)) ?_; (with_reducible refine (decorumlaw09_awake.calls  true _ A6.out (Shp.below HS_.out (by repeat (first | (with_reducible first | exact HB.out | apply below_alloc | apply pw_below_drewN | apply below_drew1) | exact HB.out)))).mono ?_); rintro e w13 ⟨rfl, hb⟩; refine ⟨_, rfl, ?_⟩; have n0_ := Aside0.mk (below_step (by repeat (first | (with_reducible first | exact HB.out | apply below_alloc | apply pw_below_drewN | apply below_drew1) | exact HB.out)) hb); clear HB; have HB := n0_; clear n0_; (try clear hb); (try clear hb2); (try clear hk); (try clear hi)) | (go_at_call 10; (with_reducible refine (lines_Parse.calls x0_1 t116 _ A8.out (Shp.below HS_.out (by repeat (first | (with_reducible first | exact HB.out | apply below_alloc | apply pw_below_drewN | apply below_drew1) | exact HB.out)))).mono ?_); rintro e w14 ⟨v117, rfl, ho0, hb⟩; have n0_ := Aside0.mk (Kd.R_lower ho0 (below_size (by repeat (first | (with_reducible first | exact HB.out | apply below_alloc | apply pw_below_drewN | apply below_drew1) | exact HB.out)))); have n1_ := Aside0.mk (below_step (by repeat (first | (with_reducible first | exact HB.out | apply below_alloc | apply pw_below_drewN | apply below_drew1) | exact HB.out)) hb); clear HB; have HO118 := n0_; have HB := n1_; clear n0_ n1_; (try clear hb); (try clear hb2); (try clear hk); (try clear hi); (try clear ho0); obtain ⟨Ao15, co15, eo15⟩ := Kd.R_slice HO118.out; subst eo15) | (go_at_call 16; (with_reducible refine (lines_Groups.calls _ _ t116 t119 _ ?side1 ?side2 A9.out (Shp.below HS_.out (by repeat (first | (with_reducible first | exact HB.out | apply below_alloc | apply pw_below_drewN | apply below_drew1) | exact HB.out)))).mono ?_); (case side1 => repeat (first | exact (Kd.R_reads' HO118.out).2.2 | (with_reducible refine Kd.C_alloc ?_ _) | (with_reducible refine Kd.C_drewN ?_ _) | (with_reducible refine Kd.C_drew ?_))); (case side2 => exact (Kd.R_reads' HO118.out).2.1); rintro e w16 ⟨v120, rfl, ho0, hb⟩; have n0_ := Aside0.mk (Kd.R_below (by (with_reducible repeat (first | apply Kd.R_alloc | apply Kd.R_drewN | apply Kd.R_drew)); exact HO118.out) hb); have n1_ := Aside0.mk (Kd.S_lower ho0 (below_size (by repeat (first | (with_reducible first | exact HB.out | apply below_alloc | apply pw_below_drewN | apply below_drew1) | exact HB.out)))); have n2_ := Aside0.mk (below_step (by repeat (first | (with_reducible first | exact HB.out | apply below_alloc | apply pw_below_drewN | apply below_drew1) | exact HB.out)) hb); clear HO118; clear HB; have HO118 := n0_; have HO121 := n1_; have HB := n2_; clear n0_ n1_ n2_; (try clear hb); (try clear hb2); (try clear hk); (try clear hi); (try clear ho0)) | (go_at_call 11; (with_reducible refine (decorumref09_Parse.calls kj1 x0_1 t122 _ A10.out).mono ?_); rintro e w17 ⟨v123, rfl, ho0, hb⟩; have n0_ := Aside0.mk (Kd.R_below (by (with_reducible repeat (first | apply Kd.R_alloc | apply Kd.R_drewN | apply Kd.R_drew)); exact HO118.out) hb); have n1_ := Aside0.mk (Kd.S_below (by (with_reducible repeat (first | apply Kd.S_alloc | apply Kd.S_drewN | apply Kd.S_drew)); exact HO121.out) hb); have n2_ := Aside0.mk (Kd.R_lower ho0 (below_size (by repeat (first | (with_reducible first | exact HB.out | apply below_alloc | apply pw_below_drewN | apply below_drew1) | exact HB.out)))); have n3_ := Aside0.mk (below_step (by repeat (first | (with_reducible first | exact HB.out | apply below_alloc | apply pw_below_drewN | apply below_drew1) | exact HB.out)) hb); clear HO118; clear HO121; clear HB; have HO118 := n0_; have HO121 := n1_; have HO124 := n2_; have HB := n3_; clear n0_ n1_ n2_ n3_; (try clear hb); (try clear hb2); (try clear hk); (try clear hi); (try clear ho0); obtain ⟨Ao18, co18, eo18⟩ := Kd.R_slice HO124.out; subst eo18) | (go_at_call 17; (with_reducible refine (decorumref09_Groups.calls _ _ t122 t125 _ ?side1 ?side2 A11.out).mono ?_); (case side1 => repeat (first | exact (Kd.R_reads' HO124.out).2.2 | (with_reducible refine Kd.C_alloc ?_ _) | (with_reducible refine Kd.C_drewN ?_ _) | (with_reducible refine Kd.C_drew ?_))); (case side2 => exact (Kd.R_reads' HO124.out).2.1); rintro e w19 ⟨v126, rfl, ho0, hb⟩; have n0_ := Aside0.mk (Kd.R_below (by (with_reducible repeat (first | apply Kd.R_alloc | apply Kd.R_drewN | apply Kd.R_drew)); exact HO118.out) hb); have n1_ := Aside0.mk (Kd.S_below (by (with_reducible repeat (first | apply Kd.S_alloc | apply Kd.S_drewN | apply Kd.S_drew)); exact HO121.out) hb); have n2_ := Aside0.mk (Kd.R_below (by (with_reducible repeat (first | apply Kd.R_alloc | apply Kd.R_drewN | apply Kd.R_drew)); exact HO124.out) hb); have n3_ := Aside0.mk (Kd.S_lower ho0 (below_size (by repeat (first | (with_reducible first | exact HB.out | apply below_alloc | apply pw_below_drewN | apply below_drew1) | exact HB.out)))); have n4_ := Aside0.mk (below_step (by repeat (first | (with_reducible first | exact HB.out | apply below_alloc | apply pw_below_drewN | apply below_drew1) | exact HB.out)) hb); clear HO118; clear HO121; clear HO124; clear HB; have HO118 := n0_; have HO121 := n1_; have HO124 := n2_; have HO127 := n3_; have HB := n4_; clear n0_ n1_ n2_ n3_ n4_; (try clear hb); (try clear hb2); (try clear hk); (try clear hi); (try clear ho0); obtain ⟨Ao20, co20, eo20⟩ := Kd.S_slice HO121.out; subst eo20; obtain ⟨Ao21, co21, eo21⟩ := Kd.S_slice HO127.out; subst eo21) | (go_at_call 15; (with_reducible refine (decorumlaw09_alike.calls kj1 _ _ t119 _ _ t125 t128 _ ?side1 ?side2 ?side3 ?side4 A12.out).mono ?_); (case side1 => repeat (first | exact (Kd.S_reads' HO121.out).2.2 | (with_reducible refine Kd.C_alloc ?_ _) | (with_reducible refine Kd.C_drewN ?_ _) | (with_reducible refine Kd.C_drew ?_))); (case side2 => exact (Kd.S_reads' HO121.out).2.1); (case side3 => repeat (first | exact (Kd.S_reads' HO127.out).2.2 | (with_reducible refine Kd.C_alloc ?_ _) | (with_reducible refine Kd.C_drewN ?_ _) | (with_reducible refine Kd.C_drew ?_))); (case side4 => exact (Kd.S_reads' HO127.out).2.1); rintro e w' ⟨rfl, ⟨nd, rfl⟩⟩))
        go_ret
        exact ⟨by first | rfl | (simp [Go.Proofs.YthbmedhejlhclaaDoor.QTxt.errW_none, Go.Proofs.YthbmedhejlhclaaDoor.QTxt.errW_some] <;> rfl) | (simp [*, Go.Proofs.YthbmedhejlhclaaDoor.QTxt.errW_none, Go.Proofs.YthbmedhejlhclaaDoor.QTxt.errW_some] <;> rfl) | (simp [wrap64]; done) | (simp [Go.Proofs.YthbmedhejlhclaaDoor.QTxt.errW_none, Go.Proofs.YthbmedhejlhclaaDoor.QTxt.errW_some] <;> exact empty_bne _), by repeat (first | (with_reducible first | exact HB.out | apply below_alloc | apply pw_below_drewN | apply below_drew1) | exact HB.out)⟩
      · replace c7 := Bool.eq_false_iff.mpr c7
        subst c7
        have H1 : (some false) = some r := by rw [if_neg (show ¬ (false = true) by decide)] at H; exact H
        clear H
        have H := H1
        clear H1
        exact absurd ((Option.some.inj H).trans HR_.out) (by decide)

/-- THE ONE PURE STATEMENT of decorumlaw09_LinesTexts: yours. -/
def decorumlaw09_LinesTexts.Pure : Prop := ∀ (a0 : ByteArray), a0.size ≤ 140737488351232 → ∃ k, decorumlaw09_LinesTexts.f k a0 = some true
theorem decorumlaw09_LinesTexts.walk (P : decorumlaw09_LinesTexts.Pure) (a0 : ByteArray) (w : World) (w0 : a0.size ≤ 140737488351232) (hS_ : Shp w) :
    Calls Tryd.prog 6 #[.string a0] w fun e w' => e = .returned (.bool true) ∧ Below w.heap.size w w' := by
  obtain ⟨k, h⟩ := P a0 w0
  refine (decorumlaw09_LinesTexts.calls k a0 true w rfl h hS_).mono ?_
  rintro e w' ⟨rfl, hd⟩
  exact ⟨rfl, hd⟩

end Go.Proofs.YthbmedhejlhclaaDoor.QTxt
