-- A text that a changed copy of the print program wrote for this claim (NOTES.md, changed print); it is not a printed text.
import Derived.Test.YtnbahmjpgjnoaaaQPctDecodesx0
namespace Go.Proofs.Ytnbahmjpgjnoaaa.QPctDecodes
open Go.Proofs.Ytnbahmjpgjnoaaa.Given Go.Proofs.Ytnbahmjpgjnoaaa.QBase Go.Proofs.Ytnbahmjpgjnoaaa.QMid
open Go.RowKit Go.Proofs.YtnbahmjpgjnoaaaW.PrintWords Go.Proofs.YtnbahmjpgjnoaaaW.PrintLast Go.Proofs.YtnbahmjpgjnoaaaW.PrintMore
attribute [local go_sem] max2_int min2_int max_two min_two max_three min_three max_four min_four   -- for this text's walks alone
set_option linter.unusedVariables false
set_option linter.unusedSimpArgs false

/-! ### decorumlaw04_PctDecodes: function 4 -/
def decorumlaw04_PctDecodes.f (k : Nat) (a0 : ByteArray) : Option (Bool) := if (a0.size : Int) > 1000 then (if 0 ≤ 1000 then (if 1000 ≤ (a0.size : Int) then ((pct_Decode.f k (a0.extract 0 1000)).bind fun bt101 => ((decorumref04_Decode.f k (a0.extract 0 1000)).bind fun bt103 => ((decorumlaw04_awake.f k).bind fun t105 => (if t105 = true then (if bt101.1.toList = bt103.1.toList then (some (bt101.2 == bt103.2)) else (some false)) else (some false))))) else (none)) else (none)) else ((pct_Decode.f k a0).bind fun bt106 => ((decorumref04_Decode.f k a0).bind fun bt108 => ((decorumlaw04_awake.f k).bind fun t110 => (if t110 = true then (if bt106.1.toList = bt108.1.toList then (some (bt106.2 == bt108.2)) else (some false)) else (some false)))))
theorem decorumlaw04_PctDecodes.mono : ∀ a0 k, LeO (decorumlaw04_PctDecodes.f k a0) (decorumlaw04_PctDecodes.f (k + 1) a0) := by
  intro a0 k
  unfold decorumlaw04_PctDecodes.f
  repeat' first
      | (with_reducible exact decorumlaw04_awake.mono _)
      | (with_reducible exact decorumref04_Decode.mono _ _)
      | (with_reducible exact pct_Decode.mono _ _)
      | (with_reducible exact LeO.refl _)
      | (with_reducible exact LeO.none _)
      | (with_reducible refine LeO.ite ?_ ?_)
      | (with_reducible refine LeO.bind ?_ (fun _ => ?_))
      | exact decorumlaw04_awake.mono _
      | exact decorumref04_Decode.mono _ _
      | exact pct_Decode.mono _ _
      | exact LeO.none _
      | refine LeO.ite ?_ ?_
      | refine LeO.bind ?_ (fun _ => ?_)
set_option maxHeartbeats 8000000 in
set_option maxRecDepth 100000 in
theorem decorumlaw04_PctDecodes.calls (k : Nat) (a0 : ByteArray) (r : Bool) (w : World) (hr_ : r = true) (h : decorumlaw04_PctDecodes.f k a0 = some r) :
    Calls Try.prog 4 #[.string a0] w fun e w' => e = .returned (.bool r) ∧ Below w.heap.size w w' := by
  have HR_ := Aside0.mk (hr_)
  have HB := Aside0.mk (Below.refl w.heap.size w)
  have H : (if (a0.size : Int) > 1000 then (if 0 ≤ 1000 then (if 1000 ≤ (a0.size : Int) then ((pct_Decode.f k (a0.extract 0 1000)).bind fun bt101 => ((decorumref04_Decode.f k (a0.extract 0 1000)).bind fun bt103 => ((decorumlaw04_awake.f k).bind fun t105 => (if t105 = true then (if bt101.1.toList = bt103.1.toList then (some (bt101.2 == bt103.2)) else (some false)) else (some false))))) else (none)) else (none)) else ((pct_Decode.f k a0).bind fun bt106 => ((decorumref04_Decode.f k a0).bind fun bt108 => ((decorumlaw04_awake.f k).bind fun t110 => (if t110 = true then (if bt106.1.toList = bt108.1.toList then (some (bt106.2 == bt108.2)) else (some false)) else (some false)))))) = some r := h
  clear h
  by_cases c2 : (a0.size : Int) > 1000
  · rw [if_pos c2] at H
    have c2b0 : decide (1000 < (a0.size : Int)) = true := decide_eq_true c2
    have c2b1 : decide (1000 < a0.size) = true := decide_eq_true (by omega)
    clear c2
    by_cases c3 : 0 ≤ 1000
    · rw [if_pos c3] at H
      have c3b0 := eq_true c3
      have c3b1 : decide (0 ≤ 1000) = true := decide_eq_true c3
      clear c3
      by_cases c4 : 1000 ≤ (a0.size : Int)
      · rw [if_pos c4] at H
        have c4b0 := eq_true c4
        have c4b1 : decide (1000 ≤ (a0.size : Int)) = true := decide_eq_true c4
        clear c4
        replace H := Option.bind_eq_some_iff.mp H
        obtain ⟨⟨t101, t102⟩, A50, H⟩ := H
        replace H : ((decorumref04_Decode.f k (a0.extract 0 1000)).bind fun bt103 => ((decorumlaw04_awake.f k).bind fun t105 => (if t105 = true then (if t101.toList = bt103.1.toList then (some (t102 == bt103.2)) else (some false)) else (some false)))) = some r := H
        have A5 := Aside0.mk A50
        clear A50
        replace H := Option.bind_eq_some_iff.mp H
        obtain ⟨⟨t103, t104⟩, A60, H⟩ := H
        replace H : ((decorumlaw04_awake.f k).bind fun t105 => (if t105 = true then (if t101.toList = t103.toList then (some (t102 == t104)) else (some false)) else (some false))) = some r := H
        have A6 := Aside0.mk A60
        clear A60
        replace H := Option.bind_eq_some_iff.mp H
        obtain ⟨t105, A70, H⟩ := H
        replace H : (if t105 = true then (if t101.toList = t103.toList then (some (t102 == t104)) else (some false)) else (some false)) = some r := H
        have A7 := Aside0.mk A70
        clear A70
        by_cases c8 : t105 = true
        · subst c8
          have H1 : (if t101.toList = t103.toList then (some (t102 == t104)) else (some false)) = some r := by rw [if_pos rfl] at H; exact H
          clear H
          have H := H1
          clear H1
          by_cases c9 : t101.toList = t103.toList
          · rw [if_pos c9] at H
            have c9b0 : (t101.toList == t103.toList) = true := beq_iff_eq.mpr c9
            have c9b1 : (t101.toList != t103.toList) = false := bne_eq_false_iff_eq.mpr c9
            clear c9
            obtain rfl := Option.some.inj H
            go_enter Try.func4, Try.ntmps4
            go_wp2_with (first | ((with_reducible refine gate_callee (f := 12) rfl ?_); refine goesL_ (some 14) rfl rfl Try.func12 (by kernel_rfl) rfl #[.string (a0.extract 0 1000)] rfl (by (try simp only [List.map_toArray, List.map_cons, List.map_nil]); first | done | rfl | (simp only [List.length_drop, List.length_take]; rfl)) ?_; (with_reducible refine (pct_Decode.calls k (a0.extract 0 1000) t101 t102 _ A5.out).mono ?_); rintro e w10 ⟨rfl, hb⟩; refine ⟨_, rfl, ?_⟩; have n0_ := Aside0.mk (below_step (by repeat (first | (with_reducible first | exact HB.out | apply below_alloc | apply pw_below_drewN | apply below_drew1) | exact HB.out)) hb); clear HB; have HB := n0_; clear n0_; (try clear hb); (try clear hb2); (try clear hk); (try clear hi)) | ((with_reducible refine gate_callee (f := 13) rfl ?_); refine goesL_ (some 19) rfl rfl Try.func13 (by kernel_rfl) rfl #[.string (a0.extract 0 1000)] rfl (by (try simp only [List.map_toArray, List.map_cons, List.map_nil]); first | done | rfl | (simp only [List.length_drop, List.length_take]; rfl)) ?_; (with_reducible refine (decorumref04_Decode.calls k (a0.extract 0 1000) t103 t104 _ A6.out).mono ?_); rintro e w11 ⟨rfl, hb⟩; refine ⟨_, rfl, ?_⟩; have n0_ := Aside0.mk (below_step (by repeat (first | (with_reducible first | exact HB.out | apply below_alloc | apply pw_below_drewN | apply below_drew1) | exact HB.out)) hb); clear HB; have HB := n0_; clear n0_; (try clear hb); (try clear hb2); (try clear hk); (try clear hi)) | ((with_reducible refine gate_callee (f := 11) rfl ?_); refine goesL_ (some 22) rfl rfl Try.func11 (by kernel_rfl) rfl #[] rfl (by (try simp only [List.map_toArray, List.map_cons, List.map_nil]); first | done | rfl | (simp only [List.length_drop, List.length_take]; rfl)) ?_; (with_reducible refine (decorumlaw04_awake.calls k  true _ A7.out).mono ?_); rintro e w12 ⟨rfl, hb⟩; refine ⟨_, rfl, ?_⟩; have n0_ := Aside0.mk (below_step (by repeat (first | (with_reducible first | exact HB.out | apply below_alloc | apply pw_below_drewN | apply below_drew1) | exact HB.out)) hb); clear HB; have HB := n0_; clear n0_; (try clear hb); (try clear hb2); (try clear hk); (try clear hi)))
            go_ret
            exact ⟨by first | rfl | (simp [errW_none, errW_some] <;> rfl) | (simp [*, errW_none, errW_some] <;> rfl) | (simp [wrap64]; done), by repeat (first | (with_reducible first | exact HB.out | apply below_alloc | apply pw_below_drewN | apply below_drew1) | exact HB.out)⟩
          · rw [if_neg c9] at H
            have c9b0 : (t101.toList == t103.toList) = false := beq_eq_false_iff_ne.mpr c9
            have c9b1 : (t101.toList != t103.toList) = true := bne_iff_ne.mpr c9
            exact absurd ((Option.some.inj H).trans HR_.out) (by decide)
        · replace c8 := Bool.eq_false_iff.mpr c8
          subst c8
          have H1 : (some false) = some r := by rw [if_neg (show ¬ (false = true) by decide)] at H; exact H
          clear H
          have H := H1
          clear H1
          exact absurd ((Option.some.inj H).trans HR_.out) (by decide)
      · rw [if_neg c4] at H
        exact absurd H (by simp)
    · rw [if_neg c3] at H
      exact absurd H (by simp)
  · rw [if_neg c2] at H
    have c2b0 : decide (1000 < (a0.size : Int)) = false := decide_eq_false c2
    have c2b1 : decide (1000 < a0.size) = false := decide_eq_false (by omega)
    clear c2
    replace H := Option.bind_eq_some_iff.mp H
    obtain ⟨⟨t106, t107⟩, A130, H⟩ := H
    replace H : ((decorumref04_Decode.f k a0).bind fun bt108 => ((decorumlaw04_awake.f k).bind fun t110 => (if t110 = true then (if t106.toList = bt108.1.toList then (some (t107 == bt108.2)) else (some false)) else (some false)))) = some r := H
    have A13 := Aside0.mk A130
    clear A130
    replace H := Option.bind_eq_some_iff.mp H
    obtain ⟨⟨t108, t109⟩, A140, H⟩ := H
    replace H : ((decorumlaw04_awake.f k).bind fun t110 => (if t110 = true then (if t106.toList = t108.toList then (some (t107 == t109)) else (some false)) else (some false))) = some r := H
    have A14 := Aside0.mk A140
    clear A140
    replace H := Option.bind_eq_some_iff.mp H
    obtain ⟨t110, A150, H⟩ := H
    replace H : (if t110 = true then (if t106.toList = t108.toList then (some (t107 == t109)) else (some false)) else (some false)) = some r := H
    have A15 := Aside0.mk A150
    clear A150
    by_cases c16 : t110 = true
    · subst c16
      have H1 : (if t106.toList = t108.toList then (some (t107 == t109)) else (some false)) = some r := by rw [if_pos rfl] at H; exact H
      clear H
      have H := H1
      clear H1
      by_cases c17 : t106.toList = t108.toList
      · rw [if_pos c17] at H
        have c17b0 : (t106.toList == t108.toList) = true := beq_iff_eq.mpr c17
        have c17b1 : (t106.toList != t108.toList) = false := bne_eq_false_iff_eq.mpr c17
        clear c17
        obtain rfl := Option.some.inj H
        go_enter Try.func4, Try.ntmps4
        go_wp2_with (first | ((with_reducible refine gate_callee (f := 12) rfl ?_); refine goesL_ (some 14) rfl rfl Try.func12 (by kernel_rfl) rfl #[.string a0] rfl (by (try simp only [List.map_toArray, List.map_cons, List.map_nil]); first | done | rfl | (simp only [List.length_drop, List.length_take]; rfl)) ?_; (with_reducible refine (pct_Decode.calls k a0 t106 t107 _ A13.out).mono ?_); rintro e w18 ⟨rfl, hb⟩; refine ⟨_, rfl, ?_⟩; have n0_ := Aside0.mk (below_step (by repeat (first | (with_reducible first | exact HB.out | apply below_alloc | apply pw_below_drewN | apply below_drew1) | exact HB.out)) hb); clear HB; have HB := n0_; clear n0_; (try clear hb); (try clear hb2); (try clear hk); (try clear hi)) | ((with_reducible refine gate_callee (f := 13) rfl ?_); refine goesL_ (some 19) rfl rfl Try.func13 (by kernel_rfl) rfl #[.string a0] rfl (by (try simp only [List.map_toArray, List.map_cons, List.map_nil]); first | done | rfl | (simp only [List.length_drop, List.length_take]; rfl)) ?_; (with_reducible refine (decorumref04_Decode.calls k a0 t108 t109 _ A14.out).mono ?_); rintro e w19 ⟨rfl, hb⟩; refine ⟨_, rfl, ?_⟩; have n0_ := Aside0.mk (below_step (by repeat (first | (with_reducible first | exact HB.out | apply below_alloc | apply pw_below_drewN | apply below_drew1) | exact HB.out)) hb); clear HB; have HB := n0_; clear n0_; (try clear hb); (try clear hb2); (try clear hk); (try clear hi)) | ((with_reducible refine gate_callee (f := 11) rfl ?_); refine goesL_ (some 22) rfl rfl Try.func11 (by kernel_rfl) rfl #[] rfl (by (try simp only [List.map_toArray, List.map_cons, List.map_nil]); first | done | rfl | (simp only [List.length_drop, List.length_take]; rfl)) ?_; (with_reducible refine (decorumlaw04_awake.calls k  true _ A15.out).mono ?_); rintro e w20 ⟨rfl, hb⟩; refine ⟨_, rfl, ?_⟩; have n0_ := Aside0.mk (below_step (by repeat (first | (with_reducible first | exact HB.out | apply below_alloc | apply pw_below_drewN | apply below_drew1) | exact HB.out)) hb); clear HB; have HB := n0_; clear n0_; (try clear hb); (try clear hb2); (try clear hk); (try clear hi)))
        go_ret
        exact ⟨by first | rfl | (simp [errW_none, errW_some] <;> rfl) | (simp [*, errW_none, errW_some] <;> rfl) | (simp [wrap64]; done), by repeat (first | (with_reducible first | exact HB.out | apply below_alloc | apply pw_below_drewN | apply below_drew1) | exact HB.out)⟩
      · rw [if_neg c17] at H
        have c17b0 : (t106.toList == t108.toList) = false := beq_eq_false_iff_ne.mpr c17
        have c17b1 : (t106.toList != t108.toList) = true := bne_iff_ne.mpr c17
        exact absurd ((Option.some.inj H).trans HR_.out) (by decide)
    · replace c16 := Bool.eq_false_iff.mpr c16
      subst c16
      have H1 : (some false) = some r := by rw [if_neg (show ¬ (false = true) by decide)] at H; exact H
      clear H
      have H := H1
      clear H1
      exact absurd ((Option.some.inj H).trans HR_.out) (by decide)

/-- THE ONE PURE STATEMENT of decorumlaw04_PctDecodes: yours. -/
def decorumlaw04_PctDecodes.Pure : Prop := ∀ (a0 : ByteArray), a0.size ≤ 140737488351232 → ∃ k, decorumlaw04_PctDecodes.f k a0 = some true
theorem decorumlaw04_PctDecodes.walk (P : decorumlaw04_PctDecodes.Pure) (a0 : ByteArray) (w : World) (w0 : a0.size ≤ 140737488351232) :
    Calls Try.prog 4 #[.string a0] w fun e w' => e = .returned (.bool true) ∧ Below w.heap.size w w' := by
  obtain ⟨k, h⟩ := P a0 w0
  refine (decorumlaw04_PctDecodes.calls k a0 true w rfl h).mono ?_
  rintro e w' ⟨rfl, hd⟩
  exact ⟨rfl, hd⟩

end Go.Proofs.Ytnbahmjpgjnoaaa.QPctDecodes
