-- PRINTED BY print.sh 35421559b90ae4d0a3588c463048766b98c2df88dd9212a6774a882060cdf62d: not written by this session
import Derived.Test.YtgfbodnidghldaaPCivilYearsx0
import Derived.Test.YtgfbodnidghldaaPCivilYearsx1
namespace Go.Proofs.Ytgfbodnidghldaa.PCivilYears
open Go.RowKit Go.Proofs.YtgfbodnidghldaaW.PrintWords Go.Proofs.YtgfbodnidghldaaW.PrintLast Go.Proofs.YtgfbodnidghldaaW.PrintMore
attribute [local go_sem] max2_int min2_int max_two min_two max_three min_three max_four min_four   -- for this text's walks alone
set_option linter.unusedVariables false
set_option linter.unusedSimpArgs false

/-! ### decorumlaw02_awake: function 10 -/
def decorumlaw02_awake.f (k : Nat)  : Option (Bool) := (civil_Days.f k 2026 11 15).bind fun bt113 => ((civil_Date.f k 20772).bind fun bt115 => (if bt113.2 = true then (if bt113.1 = 20772 then (if bt115.2.2.2 = true then (if bt115.1 = 2026 then (if bt115.2.1 = 11 then (if bt115.2.2.1 = 15 then ((civil_Weekday.f 20772).bind fun t119 => (if t119 = 6 then ((civil_Leap.f 2000).bind fun t120 => (if t120 = true then ((civil_Length.f k 1900 2).bind fun t121 => (some (t121 == 28))) else (some false))) else (some false))) else (some false)) else (some false)) else (some false)) else (some false)) else (some false)) else (some false)))
theorem decorumlaw02_awake.mono : ∀ k, LeO (decorumlaw02_awake.f k ) (decorumlaw02_awake.f (k + 1) ) := by
  intro  k
  unfold decorumlaw02_awake.f
  repeat' first
      | (with_reducible exact civil_Date.mono _ _)
      | (with_reducible exact civil_Days.mono _ _ _ _)
      | (with_reducible exact civil_Length.mono _ _ _)
      | (with_reducible exact LeO.refl _)
      | (with_reducible exact LeO.none _)
      | (with_reducible refine LeO.ite ?_ ?_)
      | (with_reducible refine LeO.bind ?_ (fun _ => ?_))
      | exact civil_Date.mono _ _
      | exact civil_Days.mono _ _ _ _
      | exact civil_Length.mono _ _ _
      | exact LeO.none _
      | refine LeO.ite ?_ ?_
      | refine LeO.bind ?_ (fun _ => ?_)
set_option maxHeartbeats 8000000 in
set_option maxRecDepth 100000 in
theorem decorumlaw02_awake.calls (k : Nat)  (r : Bool) (w : World) (h : decorumlaw02_awake.f k  = some r) :
    Calls Try.prog 10 #[] w fun e w' => e = .returned (.bool r) ∧ Drawn0 w w' := by
  have H : ((civil_Days.f k 2026 11 15).bind fun bt113 => ((civil_Date.f k 20772).bind fun bt115 => (if bt113.2 = true then (if bt113.1 = 20772 then (if bt115.2.2.2 = true then (if bt115.1 = 2026 then (if bt115.2.1 = 11 then (if bt115.2.2.1 = 15 then ((civil_Weekday.f 20772).bind fun t119 => (if t119 = 6 then ((civil_Leap.f 2000).bind fun t120 => (if t120 = true then ((civil_Length.f k 1900 2).bind fun t121 => (some (t121 == 28))) else (some false))) else (some false))) else (some false)) else (some false)) else (some false)) else (some false)) else (some false)) else (some false)))) = some r := h
  clear h
  replace H := Option.bind_eq_some_iff.mp H
  obtain ⟨⟨t113, t114⟩, A10, H⟩ := H
  replace H : ((civil_Date.f k 20772).bind fun bt115 => (if t114 = true then (if t113 = 20772 then (if bt115.2.2.2 = true then (if bt115.1 = 2026 then (if bt115.2.1 = 11 then (if bt115.2.2.1 = 15 then ((civil_Weekday.f 20772).bind fun t119 => (if t119 = 6 then ((civil_Leap.f 2000).bind fun t120 => (if t120 = true then ((civil_Length.f k 1900 2).bind fun t121 => (some (t121 == 28))) else (some false))) else (some false))) else (some false)) else (some false)) else (some false)) else (some false)) else (some false)) else (some false))) = some r := H
  have A1 := Aside0.mk A10
  clear A10
  replace H := Option.bind_eq_some_iff.mp H
  obtain ⟨⟨t115, t116, t117, t118⟩, A20, H⟩ := H
  replace H : (if t114 = true then (if t113 = 20772 then (if t118 = true then (if t115 = 2026 then (if t116 = 11 then (if t117 = 15 then ((civil_Weekday.f 20772).bind fun t119 => (if t119 = 6 then ((civil_Leap.f 2000).bind fun t120 => (if t120 = true then ((civil_Length.f k 1900 2).bind fun t121 => (some (t121 == 28))) else (some false))) else (some false))) else (some false)) else (some false)) else (some false)) else (some false)) else (some false)) else (some false)) = some r := H
  have A2 := Aside0.mk A20
  clear A20
  by_cases c3 : t114 = true
  · subst c3
    have H1 : (if t113 = 20772 then (if t118 = true then (if t115 = 2026 then (if t116 = 11 then (if t117 = 15 then ((civil_Weekday.f 20772).bind fun t119 => (if t119 = 6 then ((civil_Leap.f 2000).bind fun t120 => (if t120 = true then ((civil_Length.f k 1900 2).bind fun t121 => (some (t121 == 28))) else (some false))) else (some false))) else (some false)) else (some false)) else (some false)) else (some false)) else (some false)) = some r := by rw [if_pos rfl] at H; exact H
    clear H
    have H := H1
    clear H1
    by_cases c4 : t113 = 20772
    · rw [if_pos c4] at H
      have c4b0 : (t113 == 20772) = true := beq_iff_eq.mpr c4
      have c4b1 : (t113 != 20772) = false := bne_eq_false_iff_eq.mpr c4
      clear c4
      by_cases c5 : t118 = true
      · subst c5
        have H1 : (if t115 = 2026 then (if t116 = 11 then (if t117 = 15 then ((civil_Weekday.f 20772).bind fun t119 => (if t119 = 6 then ((civil_Leap.f 2000).bind fun t120 => (if t120 = true then ((civil_Length.f k 1900 2).bind fun t121 => (some (t121 == 28))) else (some false))) else (some false))) else (some false)) else (some false)) else (some false)) = some r := by rw [if_pos rfl] at H; exact H
        clear H
        have H := H1
        clear H1
        by_cases c6 : t115 = 2026
        · rw [if_pos c6] at H
          have c6b0 : (t115 == 2026) = true := beq_iff_eq.mpr c6
          have c6b1 : (t115 != 2026) = false := bne_eq_false_iff_eq.mpr c6
          clear c6
          by_cases c7 : t116 = 11
          · rw [if_pos c7] at H
            have c7b0 : (t116 == 11) = true := beq_iff_eq.mpr c7
            have c7b1 : (t116 != 11) = false := bne_eq_false_iff_eq.mpr c7
            clear c7
            by_cases c8 : t117 = 15
            · rw [if_pos c8] at H
              have c8b0 : (t117 == 15) = true := beq_iff_eq.mpr c8
              have c8b1 : (t117 != 15) = false := bne_eq_false_iff_eq.mpr c8
              clear c8
              replace H := Option.bind_eq_some_iff.mp H
              obtain ⟨t119, A90, H⟩ := H
              replace H : (if t119 = 6 then ((civil_Leap.f 2000).bind fun t120 => (if t120 = true then ((civil_Length.f k 1900 2).bind fun t121 => (some (t121 == 28))) else (some false))) else (some false)) = some r := H
              have A9 := Aside0.mk A90
              clear A90
              by_cases c10 : t119 = 6
              · rw [if_pos c10] at H
                have c10b0 : (t119 == 6) = true := beq_iff_eq.mpr c10
                have c10b1 : (t119 != 6) = false := bne_eq_false_iff_eq.mpr c10
                clear c10
                replace H := Option.bind_eq_some_iff.mp H
                obtain ⟨t120, A110, H⟩ := H
                replace H : (if t120 = true then ((civil_Length.f k 1900 2).bind fun t121 => (some (t121 == 28))) else (some false)) = some r := H
                have A11 := Aside0.mk A110
                clear A110
                by_cases c12 : t120 = true
                · subst c12
                  have H1 : ((civil_Length.f k 1900 2).bind fun t121 => (some (t121 == 28))) = some r := by rw [if_pos rfl] at H; exact H
                  clear H
                  have H := H1
                  clear H1
                  replace H := Option.bind_eq_some_iff.mp H
                  obtain ⟨t121, A130, H⟩ := H
                  replace H : (some (t121 == 28)) = some r := H
                  have A13 := Aside0.mk A130
                  clear A130
                  obtain rfl := Option.some.inj H
                  go_enter Try.func10, Try.ntmps10
                  go_wp2_with (first | ((with_reducible refine gate_callee (f := 8) rfl ?_); refine goesL_ (some 8) rfl rfl Try.func8 (by kernel_rfl) rfl #[.int .i64 2026, .int .i64 11, .int .i64 15] rfl (by (try simp only [List.map_toArray, List.map_cons, List.map_nil]); first | done | rfl | (simp only [List.length_drop, List.length_take]; rfl)) ?_; (with_reducible refine (civil_Days.calls k 2026 11 15 t113 true _ A1.out).mono ?_); rintro e w' ⟨rfl, ⟨nd, rfl⟩⟩; refine ⟨_, rfl, ?_⟩) | ((with_reducible refine gate_callee (f := 15) rfl ?_); refine goesL_ (some 12) rfl rfl Try.func15 (by kernel_rfl) rfl #[.int .i64 20772] rfl (by (try simp only [List.map_toArray, List.map_cons, List.map_nil]); first | done | rfl | (simp only [List.length_drop, List.length_take]; rfl)) ?_; (with_reducible refine (civil_Date.calls k 20772 t115 t116 t117 true _ A2.out).mono ?_); rintro e w' ⟨rfl, ⟨nd, rfl⟩⟩; refine ⟨_, rfl, ?_⟩) | (go_at_call 16; (with_reducible refine (civil_Weekday.calls 20772 t119 _ A9.out).mono ?_); rintro e w' ⟨rfl, ⟨nd, rfl⟩⟩) | (go_at_call 13; (with_reducible refine (civil_Leap.calls 2000 true _ A11.out).mono ?_); rintro e w' ⟨rfl, ⟨nd, rfl⟩⟩) | (go_at_call 11; (with_reducible refine (civil_Length.calls k 1900 2 t121 _ A13.out).mono ?_); rintro e w' ⟨rfl, ⟨nd, rfl⟩⟩))
                  go_ret
                  exact ⟨by first | rfl | (simp; done) | (simp [*]; done), by repeat (first | exact Drawn0.refl _ | apply Drawn0.step)⟩
                · replace c12 := Bool.eq_false_iff.mpr c12
                  subst c12
                  have H1 : (some false) = some r := by rw [if_neg (show ¬ (false = true) by decide)] at H; exact H
                  clear H
                  have H := H1
                  clear H1
                  obtain rfl := Option.some.inj H
                  go_enter Try.func10, Try.ntmps10
                  go_wp2_with (first | ((with_reducible refine gate_callee (f := 8) rfl ?_); refine goesL_ (some 8) rfl rfl Try.func8 (by kernel_rfl) rfl #[.int .i64 2026, .int .i64 11, .int .i64 15] rfl (by (try simp only [List.map_toArray, List.map_cons, List.map_nil]); first | done | rfl | (simp only [List.length_drop, List.length_take]; rfl)) ?_; (with_reducible refine (civil_Days.calls k 2026 11 15 t113 true _ A1.out).mono ?_); rintro e w' ⟨rfl, ⟨nd, rfl⟩⟩; refine ⟨_, rfl, ?_⟩) | ((with_reducible refine gate_callee (f := 15) rfl ?_); refine goesL_ (some 12) rfl rfl Try.func15 (by kernel_rfl) rfl #[.int .i64 20772] rfl (by (try simp only [List.map_toArray, List.map_cons, List.map_nil]); first | done | rfl | (simp only [List.length_drop, List.length_take]; rfl)) ?_; (with_reducible refine (civil_Date.calls k 20772 t115 t116 t117 true _ A2.out).mono ?_); rintro e w' ⟨rfl, ⟨nd, rfl⟩⟩; refine ⟨_, rfl, ?_⟩) | (go_at_call 16; (with_reducible refine (civil_Weekday.calls 20772 t119 _ A9.out).mono ?_); rintro e w' ⟨rfl, ⟨nd, rfl⟩⟩) | (go_at_call 13; (with_reducible refine (civil_Leap.calls 2000 false _ A11.out).mono ?_); rintro e w' ⟨rfl, ⟨nd, rfl⟩⟩))
                  go_ret
                  exact ⟨by first | rfl | (simp; done) | (simp [*]; done), by repeat (first | exact Drawn0.refl _ | apply Drawn0.step)⟩
              · rw [if_neg c10] at H
                have c10b0 : (t119 == 6) = false := beq_eq_false_iff_ne.mpr c10
                have c10b1 : (t119 != 6) = true := bne_iff_ne.mpr c10
                obtain rfl := Option.some.inj H
                go_enter Try.func10, Try.ntmps10
                go_wp2_with (first | ((with_reducible refine gate_callee (f := 8) rfl ?_); refine goesL_ (some 8) rfl rfl Try.func8 (by kernel_rfl) rfl #[.int .i64 2026, .int .i64 11, .int .i64 15] rfl (by (try simp only [List.map_toArray, List.map_cons, List.map_nil]); first | done | rfl | (simp only [List.length_drop, List.length_take]; rfl)) ?_; (with_reducible refine (civil_Days.calls k 2026 11 15 t113 true _ A1.out).mono ?_); rintro e w' ⟨rfl, ⟨nd, rfl⟩⟩; refine ⟨_, rfl, ?_⟩) | ((with_reducible refine gate_callee (f := 15) rfl ?_); refine goesL_ (some 12) rfl rfl Try.func15 (by kernel_rfl) rfl #[.int .i64 20772] rfl (by (try simp only [List.map_toArray, List.map_cons, List.map_nil]); first | done | rfl | (simp only [List.length_drop, List.length_take]; rfl)) ?_; (with_reducible refine (civil_Date.calls k 20772 t115 t116 t117 true _ A2.out).mono ?_); rintro e w' ⟨rfl, ⟨nd, rfl⟩⟩; refine ⟨_, rfl, ?_⟩) | (go_at_call 16; (with_reducible refine (civil_Weekday.calls 20772 t119 _ A9.out).mono ?_); rintro e w' ⟨rfl, ⟨nd, rfl⟩⟩))
                go_ret
                exact ⟨by first | rfl | (simp; done) | (simp [*]; done), by repeat (first | exact Drawn0.refl _ | apply Drawn0.step)⟩
            · rw [if_neg c8] at H
              have c8b0 : (t117 == 15) = false := beq_eq_false_iff_ne.mpr c8
              have c8b1 : (t117 != 15) = true := bne_iff_ne.mpr c8
              obtain rfl := Option.some.inj H
              go_enter Try.func10, Try.ntmps10
              go_wp2_with (first | ((with_reducible refine gate_callee (f := 8) rfl ?_); refine goesL_ (some 8) rfl rfl Try.func8 (by kernel_rfl) rfl #[.int .i64 2026, .int .i64 11, .int .i64 15] rfl (by (try simp only [List.map_toArray, List.map_cons, List.map_nil]); first | done | rfl | (simp only [List.length_drop, List.length_take]; rfl)) ?_; (with_reducible refine (civil_Days.calls k 2026 11 15 t113 true _ A1.out).mono ?_); rintro e w' ⟨rfl, ⟨nd, rfl⟩⟩; refine ⟨_, rfl, ?_⟩) | ((with_reducible refine gate_callee (f := 15) rfl ?_); refine goesL_ (some 12) rfl rfl Try.func15 (by kernel_rfl) rfl #[.int .i64 20772] rfl (by (try simp only [List.map_toArray, List.map_cons, List.map_nil]); first | done | rfl | (simp only [List.length_drop, List.length_take]; rfl)) ?_; (with_reducible refine (civil_Date.calls k 20772 t115 t116 t117 true _ A2.out).mono ?_); rintro e w' ⟨rfl, ⟨nd, rfl⟩⟩; refine ⟨_, rfl, ?_⟩))
              go_ret
              exact ⟨by first | rfl | (simp; done) | (simp [*]; done), by repeat (first | exact Drawn0.refl _ | apply Drawn0.step)⟩
          · rw [if_neg c7] at H
            have c7b0 : (t116 == 11) = false := beq_eq_false_iff_ne.mpr c7
            have c7b1 : (t116 != 11) = true := bne_iff_ne.mpr c7
            obtain rfl := Option.some.inj H
            go_enter Try.func10, Try.ntmps10
            go_wp2_with (first | ((with_reducible refine gate_callee (f := 8) rfl ?_); refine goesL_ (some 8) rfl rfl Try.func8 (by kernel_rfl) rfl #[.int .i64 2026, .int .i64 11, .int .i64 15] rfl (by (try simp only [List.map_toArray, List.map_cons, List.map_nil]); first | done | rfl | (simp only [List.length_drop, List.length_take]; rfl)) ?_; (with_reducible refine (civil_Days.calls k 2026 11 15 t113 true _ A1.out).mono ?_); rintro e w' ⟨rfl, ⟨nd, rfl⟩⟩; refine ⟨_, rfl, ?_⟩) | ((with_reducible refine gate_callee (f := 15) rfl ?_); refine goesL_ (some 12) rfl rfl Try.func15 (by kernel_rfl) rfl #[.int .i64 20772] rfl (by (try simp only [List.map_toArray, List.map_cons, List.map_nil]); first | done | rfl | (simp only [List.length_drop, List.length_take]; rfl)) ?_; (with_reducible refine (civil_Date.calls k 20772 t115 t116 t117 true _ A2.out).mono ?_); rintro e w' ⟨rfl, ⟨nd, rfl⟩⟩; refine ⟨_, rfl, ?_⟩))
            go_ret
            exact ⟨by first | rfl | (simp; done) | (simp [*]; done), by repeat (first | exact Drawn0.refl _ | apply Drawn0.step)⟩
        · rw [if_neg c6] at H
          have c6b0 : (t115 == 2026) = false := beq_eq_false_iff_ne.mpr c6
          have c6b1 : (t115 != 2026) = true := bne_iff_ne.mpr c6
          obtain rfl := Option.some.inj H
          go_enter Try.func10, Try.ntmps10
          go_wp2_with (first | ((with_reducible refine gate_callee (f := 8) rfl ?_); refine goesL_ (some 8) rfl rfl Try.func8 (by kernel_rfl) rfl #[.int .i64 2026, .int .i64 11, .int .i64 15] rfl (by (try simp only [List.map_toArray, List.map_cons, List.map_nil]); first | done | rfl | (simp only [List.length_drop, List.length_take]; rfl)) ?_; (with_reducible refine (civil_Days.calls k 2026 11 15 t113 true _ A1.out).mono ?_); rintro e w' ⟨rfl, ⟨nd, rfl⟩⟩; refine ⟨_, rfl, ?_⟩) | ((with_reducible refine gate_callee (f := 15) rfl ?_); refine goesL_ (some 12) rfl rfl Try.func15 (by kernel_rfl) rfl #[.int .i64 20772] rfl (by (try simp only [List.map_toArray, List.map_cons, List.map_nil]); first | done | rfl | (simp only [List.length_drop, List.length_take]; rfl)) ?_; (with_reducible refine (civil_Date.calls k 20772 t115 t116 t117 true _ A2.out).mono ?_); rintro e w' ⟨rfl, ⟨nd, rfl⟩⟩; refine ⟨_, rfl, ?_⟩))
          go_ret
          exact ⟨by first | rfl | (simp; done) | (simp [*]; done), by repeat (first | exact Drawn0.refl _ | apply Drawn0.step)⟩
      · replace c5 := Bool.eq_false_iff.mpr c5
        subst c5
        have H1 : (some false) = some r := by rw [if_neg (show ¬ (false = true) by decide)] at H; exact H
        clear H
        have H := H1
        clear H1
        obtain rfl := Option.some.inj H
        go_enter Try.func10, Try.ntmps10
        go_wp2_with (first | ((with_reducible refine gate_callee (f := 8) rfl ?_); refine goesL_ (some 8) rfl rfl Try.func8 (by kernel_rfl) rfl #[.int .i64 2026, .int .i64 11, .int .i64 15] rfl (by (try simp only [List.map_toArray, List.map_cons, List.map_nil]); first | done | rfl | (simp only [List.length_drop, List.length_take]; rfl)) ?_; (with_reducible refine (civil_Days.calls k 2026 11 15 t113 true _ A1.out).mono ?_); rintro e w' ⟨rfl, ⟨nd, rfl⟩⟩; refine ⟨_, rfl, ?_⟩) | ((with_reducible refine gate_callee (f := 15) rfl ?_); refine goesL_ (some 12) rfl rfl Try.func15 (by kernel_rfl) rfl #[.int .i64 20772] rfl (by (try simp only [List.map_toArray, List.map_cons, List.map_nil]); first | done | rfl | (simp only [List.length_drop, List.length_take]; rfl)) ?_; (with_reducible refine (civil_Date.calls k 20772 t115 t116 t117 false _ A2.out).mono ?_); rintro e w' ⟨rfl, ⟨nd, rfl⟩⟩; refine ⟨_, rfl, ?_⟩))
        go_ret
        exact ⟨by first | rfl | (simp; done) | (simp [*]; done), by repeat (first | exact Drawn0.refl _ | apply Drawn0.step)⟩
    · rw [if_neg c4] at H
      have c4b0 : (t113 == 20772) = false := beq_eq_false_iff_ne.mpr c4
      have c4b1 : (t113 != 20772) = true := bne_iff_ne.mpr c4
      obtain rfl := Option.some.inj H
      go_enter Try.func10, Try.ntmps10
      go_wp2_with (first | ((with_reducible refine gate_callee (f := 8) rfl ?_); refine goesL_ (some 8) rfl rfl Try.func8 (by kernel_rfl) rfl #[.int .i64 2026, .int .i64 11, .int .i64 15] rfl (by (try simp only [List.map_toArray, List.map_cons, List.map_nil]); first | done | rfl | (simp only [List.length_drop, List.length_take]; rfl)) ?_; (with_reducible refine (civil_Days.calls k 2026 11 15 t113 true _ A1.out).mono ?_); rintro e w' ⟨rfl, ⟨nd, rfl⟩⟩; refine ⟨_, rfl, ?_⟩) | ((with_reducible refine gate_callee (f := 15) rfl ?_); refine goesL_ (some 12) rfl rfl Try.func15 (by kernel_rfl) rfl #[.int .i64 20772] rfl (by (try simp only [List.map_toArray, List.map_cons, List.map_nil]); first | done | rfl | (simp only [List.length_drop, List.length_take]; rfl)) ?_; (with_reducible refine (civil_Date.calls k 20772 t115 t116 t117 t118 _ A2.out).mono ?_); rintro e w' ⟨rfl, ⟨nd, rfl⟩⟩; refine ⟨_, rfl, ?_⟩))
      go_ret
      exact ⟨by first | rfl | (simp; done) | (simp [*]; done), by repeat (first | exact Drawn0.refl _ | apply Drawn0.step)⟩
  · replace c3 := Bool.eq_false_iff.mpr c3
    subst c3
    have H1 : (some false) = some r := by rw [if_neg (show ¬ (false = true) by decide)] at H; exact H
    clear H
    have H := H1
    clear H1
    obtain rfl := Option.some.inj H
    go_enter Try.func10, Try.ntmps10
    go_wp2_with (first | ((with_reducible refine gate_callee (f := 8) rfl ?_); refine goesL_ (some 8) rfl rfl Try.func8 (by kernel_rfl) rfl #[.int .i64 2026, .int .i64 11, .int .i64 15] rfl (by (try simp only [List.map_toArray, List.map_cons, List.map_nil]); first | done | rfl | (simp only [List.length_drop, List.length_take]; rfl)) ?_; (with_reducible refine (civil_Days.calls k 2026 11 15 t113 false _ A1.out).mono ?_); rintro e w' ⟨rfl, ⟨nd, rfl⟩⟩; refine ⟨_, rfl, ?_⟩) | ((with_reducible refine gate_callee (f := 15) rfl ?_); refine goesL_ (some 12) rfl rfl Try.func15 (by kernel_rfl) rfl #[.int .i64 20772] rfl (by (try simp only [List.map_toArray, List.map_cons, List.map_nil]); first | done | rfl | (simp only [List.length_drop, List.length_take]; rfl)) ?_; (with_reducible refine (civil_Date.calls k 20772 t115 t116 t117 t118 _ A2.out).mono ?_); rintro e w' ⟨rfl, ⟨nd, rfl⟩⟩; refine ⟨_, rfl, ?_⟩))
    go_ret
    exact ⟨by first | rfl | (simp; done) | (simp [*]; done), by repeat (first | exact Drawn0.refl _ | apply Drawn0.step)⟩

/-! ### decorumlaw02_CivilYears: function 7 -/
mutual
def decorumlaw02_CivilYears.l0 : Nat → Int → Int → Int → Int → Int → Option (Bool)
  | 0, _, _, _, _, _ => none
  | k + 1, x1, x2, x7, x8, x9 => if x9 ≤ 12 then ((civil_Length.f k x7 x9).bind fun t122 => (decorumlaw02_CivilYears.l0 k x1 x2 x7 (wrap64 (x8 + t122)) (wrap64 (x9 + 1)))) else ((civil_Leap.f x7).bind fun t123 => (if t123 = true then (decorumlaw02_CivilYears.j1 k x1 x2 x7 x8 366) else (decorumlaw02_CivilYears.j1 k x1 x2 x7 x8 365)))
def decorumlaw02_CivilYears.j1 : Nat → Int → Int → Int → Int → Int → Option (Bool)
  | 0, _, _, _, _, _ => none
  | k + 1, x1, x2, x7, x8, x10 => (civil_Days.f k x7 (wrap64 (Int.tmod x1 14)) (wrap64 (Int.tmod x2 33))).bind fun bt124 => ((civil_Days.f k (wrap64 (x7 + 400)) (wrap64 (Int.tmod x1 14)) (wrap64 (Int.tmod x2 33))).bind fun bt126 => ((decorumlaw02_awake.f k).bind fun t128 => (if t128 = true then (if x8 = x10 then (if (bt124.2 == bt126.2) = true then (if bt124.2 = true then (if (wrap64 (bt126.1 - bt124.1)) = 146097 then ((civil_Weekday.f bt124.1).bind fun t129 => ((civil_Weekday.f bt126.1).bind fun t130 => (some (t129 == t130)))) else (some false)) else (some true)) else (some false)) else (some false)) else (some false))))
end
def decorumlaw02_CivilYears.f (k : Nat) (a0 : Int) (a1 : Int) (a2 : Int) : Option (Bool) := decorumlaw02_CivilYears.l0 k a1 a2 (Int.tmod (wrap64 (a0)) 9600) 0 1
theorem decorumlaw02_CivilYears.mono_l : ∀ k, (∀ y0 y1 y2 y3 y4, LeO (decorumlaw02_CivilYears.l0 k y0 y1 y2 y3 y4) (decorumlaw02_CivilYears.l0 (k + 1) y0 y1 y2 y3 y4)) ∧ (∀ y0 y1 y2 y3 y4, LeO (decorumlaw02_CivilYears.j1 k y0 y1 y2 y3 y4) (decorumlaw02_CivilYears.j1 (k + 1) y0 y1 y2 y3 y4))
  | 0 => ⟨fun _ _ _ _ _ r h => by simp [decorumlaw02_CivilYears.l0] at h, fun _ _ _ _ _ r h => by simp [decorumlaw02_CivilYears.j1] at h⟩
  | k + 1 => by
    obtain ⟨ih0, ih1⟩ := decorumlaw02_CivilYears.mono_l k
    refine ⟨?_, ?_⟩
    · intro y0 y1 y2 y3 y4
      unfold decorumlaw02_CivilYears.l0
      repeat' first
      | (with_reducible exact ih0 _ _ _ _ _)
      | (with_reducible exact ih1 _ _ _ _ _)
      | (with_reducible exact civil_Days.mono _ _ _ _)
      | (with_reducible exact civil_Length.mono _ _ _)
      | (with_reducible exact decorumlaw02_awake.mono _)
      | (with_reducible exact LeO.refl _)
      | (with_reducible exact LeO.none _)
      | (with_reducible refine LeO.ite ?_ ?_)
      | (with_reducible refine LeO.bind ?_ (fun _ => ?_))
      | exact ih0 _ _ _ _ _
      | exact ih1 _ _ _ _ _
      | exact civil_Days.mono _ _ _ _
      | exact civil_Length.mono _ _ _
      | exact decorumlaw02_awake.mono _
      | exact LeO.none _
      | refine LeO.ite ?_ ?_
      | refine LeO.bind ?_ (fun _ => ?_)
    · intro y0 y1 y2 y3 y4
      unfold decorumlaw02_CivilYears.j1
      repeat' first
      | (with_reducible exact ih0 _ _ _ _ _)
      | (with_reducible exact ih1 _ _ _ _ _)
      | (with_reducible exact civil_Days.mono _ _ _ _)
      | (with_reducible exact civil_Length.mono _ _ _)
      | (with_reducible exact decorumlaw02_awake.mono _)
      | (with_reducible exact LeO.refl _)
      | (with_reducible exact LeO.none _)
      | (with_reducible refine LeO.ite ?_ ?_)
      | (with_reducible refine LeO.bind ?_ (fun _ => ?_))
      | exact ih0 _ _ _ _ _
      | exact ih1 _ _ _ _ _
      | exact civil_Days.mono _ _ _ _
      | exact civil_Length.mono _ _ _
      | exact decorumlaw02_awake.mono _
      | exact LeO.none _
      | refine LeO.ite ?_ ?_
      | refine LeO.bind ?_ (fun _ => ?_)
theorem decorumlaw02_CivilYears.mono : ∀ a0 a1 a2 k, LeO (decorumlaw02_CivilYears.f k a0 a1 a2) (decorumlaw02_CivilYears.f (k + 1) a0 a1 a2) := by
  intro a0 a1 a2 k
  obtain ⟨ih0, ih1⟩ := decorumlaw02_CivilYears.mono_l k
  unfold decorumlaw02_CivilYears.f
  repeat' first
      | (with_reducible exact ih0 _ _ _ _ _)
      | (with_reducible exact ih1 _ _ _ _ _)
      | (with_reducible exact civil_Days.mono _ _ _ _)
      | (with_reducible exact civil_Length.mono _ _ _)
      | (with_reducible exact decorumlaw02_awake.mono _)
      | (with_reducible exact LeO.refl _)
      | (with_reducible exact LeO.none _)
      | (with_reducible refine LeO.ite ?_ ?_)
      | (with_reducible refine LeO.bind ?_ (fun _ => ?_))
      | exact ih0 _ _ _ _ _
      | exact ih1 _ _ _ _ _
      | exact civil_Days.mono _ _ _ _
      | exact civil_Length.mono _ _ _
      | exact decorumlaw02_awake.mono _
      | exact LeO.none _
      | refine LeO.ite ?_ ?_
      | refine LeO.bind ?_ (fun _ => ?_)
set_option maxHeartbeats 8000000 in
set_option maxRecDepth 100000 in
theorem decorumlaw02_CivilYears.calls (k : Nat) (a0 : Int) (a1 : Int) (a2 : Int) (r : Bool) (w : World) (h : decorumlaw02_CivilYears.f k a0 a1 a2 = some r) :
    Calls Try.prog 7 #[.int .u16 a0, .int .u8 a1, .int .u8 a2] w fun e w' => e = .returned (.bool r) ∧ Drawn0 w w' := by
  have H : (decorumlaw02_CivilYears.l0 k a1 a2 (Int.tmod (wrap64 (a0)) 9600) 0 1) = some r := h
  clear h
  have H' := Aside0.mk H
  clear H
  go_enter Try.func7, Try.ntmps7
  go_wp2
  go_loopg [8, 9] k (fun kq v8 v9 w' => ∃ (x8_1 : Int) (x9_1 : Int), v8 = .int .i64 x8_1 ∧ v9 = .int .i64 x9_1 ∧ Aside0 (decorumlaw02_CivilYears.l0 kq a1 a2 (Int.tmod (wrap64 (a0)) 9600) x8_1 x9_1 = some r) ∧ Aside0 (kq ≤ k) ∧ Drawn0 w w')
  case atStart => exact ⟨(0), (1), (by first | rfl | (simp; done) | (simp [*]; done)), (by first | rfl | (simp; done) | (simp [*]; done)), H', ⟨Nat.le_refl _⟩, by repeat (first | exact Drawn0.refl _ | apply Drawn0.step)⟩
  case round =>
    clear H'
    try clear p2
    obtain ⟨x8_1, x9_1, rfl, rfl, HA, HK1, ⟨m1, rfl⟩⟩ := hrel
    cases gk with
    | zero => exact absurd HA.out (by simp [decorumlaw02_CivilYears.l0])
    | succ k1 =>
      have H := HA.out
      clear HA
      simp only [decorumlaw02_CivilYears.l0] at H
      by_cases c4 : x9_1 ≤ 12
      · rw [if_pos c4] at H
        have c4b0 : decide (x9_1 ≤ 12) = true := decide_eq_true c4
        clear c4
        replace H := Option.bind_eq_some_iff.mp H
        obtain ⟨t122, A50, H⟩ := H
        replace H : (decorumlaw02_CivilYears.l0 k1 a1 a2 (Int.tmod (wrap64 (a0)) 9600) (wrap64 (x8_1 + t122)) (wrap64 (x9_1 + 1))) = some r := H
        have A5 := Aside0.mk A50
        clear A50
        have H' := Aside0.mk H
        clear H
        go_wp2_with (first | ((with_reducible refine gate_callee (f := 11) rfl ?_); refine goesL_ (some 25) rfl rfl Try.func11 (by kernel_rfl) rfl #[.int .i64 (Int.tmod (wrap64 (a0)) 9600), .int .i64 x9_1] rfl (by (try simp only [List.map_toArray, List.map_cons, List.map_nil]); first | done | rfl | (simp only [List.length_drop, List.length_take]; rfl)) ?_; (with_reducible refine (civil_Length.calls k1 (Int.tmod (wrap64 (a0)) 9600) x9_1 t122 _ A5.out).mono ?_); rintro e w' ⟨rfl, ⟨nd, rfl⟩⟩; refine ⟨_, rfl, ?_⟩))
        go_roundg k1
        case measure => have := HK1.out; omega
        case rel => exact ⟨(wrap64 (x8_1 + t122)), (wrap64 (x9_1 + 1)), (by first | rfl | (simp; done) | (simp [*]; done)), (by first | rfl | (simp; done) | (simp [*]; done)), H', ⟨by have := HK1.out; omega⟩, by repeat (first | exact Drawn0.refl _ | apply Drawn0.step)⟩
      · rw [if_neg c4] at H
        have c4b0 : decide (x9_1 ≤ 12) = false := decide_eq_false c4
        clear c4
        replace H := Option.bind_eq_some_iff.mp H
        obtain ⟨t123, A60, H⟩ := H
        replace H : (if t123 = true then (decorumlaw02_CivilYears.j1 k1 a1 a2 (Int.tmod (wrap64 (a0)) 9600) x8_1 366) else (decorumlaw02_CivilYears.j1 k1 a1 a2 (Int.tmod (wrap64 (a0)) 9600) x8_1 365)) = some r := H
        have A6 := Aside0.mk A60
        clear A60
        have HC7 := Aside0.mk H
        clear H
        go_upto_if 28 with (first | ((with_reducible refine gate_callee (f := 13) rfl ?_); refine goesL_ (some 28) rfl rfl Try.func13 (by kernel_rfl) rfl #[.int .i64 (Int.tmod (wrap64 (a0)) 9600)] rfl (by (try simp only [List.map_toArray, List.map_cons, List.map_nil]); first | done | rfl | (simp only [List.length_drop, List.length_take]; rfl)) ?_; (with_reducible refine (civil_Leap.calls (Int.tmod (wrap64 (a0)) 9600) t123 _ A6.out).mono ?_); rintro e w' ⟨rfl, ⟨nd, rfl⟩⟩; refine ⟨_, rfl, ?_⟩))
        (try simp only [Act.put, List.setIfInBounds_toArray, List.set_cons_zero, List.set_cons_succ])
        go_cut [10] (fun v10 wc => ∃ (kq : Nat) (x10_6 : Int), v10 = .int .i64 x10_6 ∧ Aside0 (decorumlaw02_CivilYears.j1 kq a1 a2 (Int.tmod (wrap64 (a0)) 9600) x8_1 x10_6 = some r) ∧ Aside0 (kq ≤ k1) ∧ Drawn0 w wc)
        case first =>
          have H := HC7.out
          clear HC7
          by_cases c8 : t123 = true
          · subst c8
            have H1 : (decorumlaw02_CivilYears.j1 k1 a1 a2 (Int.tmod (wrap64 (a0)) 9600) x8_1 366) = some r := by rw [if_pos rfl] at H; exact H
            clear H
            have H := H1
            clear H1
            have H' := Aside0.mk H
            clear H
            go_wp2
            go_meet
            case rel => exact ⟨_, (366), (by first | rfl | (simp; done) | (simp [*]; done)), H', ⟨by have := HK1.out; first | omega | exact Nat.le_refl _⟩, by repeat (first | exact Drawn0.refl _ | apply Drawn0.step)⟩
          · replace c8 := Bool.eq_false_iff.mpr c8
            subst c8
            have H1 : (decorumlaw02_CivilYears.j1 k1 a1 a2 (Int.tmod (wrap64 (a0)) 9600) x8_1 365) = some r := by rw [if_neg (show ¬ (false = true) by decide)] at H; exact H
            clear H
            have H := H1
            clear H1
            have H' := Aside0.mk H
            clear H
            go_wp2
            go_meet
            case rel => exact ⟨_, (365), (by first | rfl | (simp; done) | (simp [*]; done)), H', ⟨by have := HK1.out; first | omega | exact Nat.le_refl _⟩, by repeat (first | exact Drawn0.refl _ | apply Drawn0.step)⟩
        case rest =>
          clear HC7
          try clear c1
          try clear p2
          try clear c4
          try clear c4b0
          try clear p6
          try clear c7
          try clear c8
          try clear p2
          obtain ⟨kq, x10_6, rfl, HA, HJ6, ⟨mc6, rfl⟩⟩ := hcut
          cases kq with
          | zero => exact absurd HA.out (by simp [decorumlaw02_CivilYears.j1])
          | succ kj6 =>
            have H := HA.out
            clear HA
            simp only [decorumlaw02_CivilYears.j1] at H
            replace H := Option.bind_eq_some_iff.mp H
            obtain ⟨⟨t124, t125⟩, A90, H⟩ := H
            replace H : ((civil_Days.f kj6 (wrap64 ((Int.tmod (wrap64 (a0)) 9600) + 400)) (wrap64 (Int.tmod a1 14)) (wrap64 (Int.tmod a2 33))).bind fun bt126 => ((decorumlaw02_awake.f kj6).bind fun t128 => (if t128 = true then (if x8_1 = x10_6 then (if (t125 == bt126.2) = true then (if t125 = true then (if (wrap64 (bt126.1 - t124)) = 146097 then ((civil_Weekday.f t124).bind fun t129 => ((civil_Weekday.f bt126.1).bind fun t130 => (some (t129 == t130)))) else (some false)) else (some true)) else (some false)) else (some false)) else (some false)))) = some r := H
            have A9 := Aside0.mk A90
            clear A90
            replace H := Option.bind_eq_some_iff.mp H
            obtain ⟨⟨t126, t127⟩, A100, H⟩ := H
            replace H : ((decorumlaw02_awake.f kj6).bind fun t128 => (if t128 = true then (if x8_1 = x10_6 then (if (t125 == t127) = true then (if t125 = true then (if (wrap64 (t126 - t124)) = 146097 then ((civil_Weekday.f t124).bind fun t129 => ((civil_Weekday.f t126).bind fun t130 => (some (t129 == t130)))) else (some false)) else (some true)) else (some false)) else (some false)) else (some false))) = some r := H
            have A10 := Aside0.mk A100
            clear A100
            replace H := Option.bind_eq_some_iff.mp H
            obtain ⟨t128, A110, H⟩ := H
            replace H : (if t128 = true then (if x8_1 = x10_6 then (if (t125 == t127) = true then (if t125 = true then (if (wrap64 (t126 - t124)) = 146097 then ((civil_Weekday.f t124).bind fun t129 => ((civil_Weekday.f t126).bind fun t130 => (some (t129 == t130)))) else (some false)) else (some true)) else (some false)) else (some false)) else (some false)) = some r := H
            have A11 := Aside0.mk A110
            clear A110
            by_cases c12 : t128 = true
            · subst c12
              have H1 : (if x8_1 = x10_6 then (if (t125 == t127) = true then (if t125 = true then (if (wrap64 (t126 - t124)) = 146097 then ((civil_Weekday.f t124).bind fun t129 => ((civil_Weekday.f t126).bind fun t130 => (some (t129 == t130)))) else (some false)) else (some true)) else (some false)) else (some false)) = some r := by rw [if_pos rfl] at H; exact H
              clear H
              have H := H1
              clear H1
              by_cases c13 : x8_1 = x10_6
              · rw [if_pos c13] at H
                have c13b0 : (x8_1 == x10_6) = true := beq_iff_eq.mpr c13
                have c13b1 : (x8_1 != x10_6) = false := bne_eq_false_iff_eq.mpr c13
                clear c13
                by_cases c14 : (t125 == t127) = true
                · rw [if_pos c14] at H
                  have c14b0 : (t125 == t127) = true := c14
                  (try (have c14b1 : decide (t125 = t127) = true := by simpa using c14))
                  (try (have c14b2 : (t125 == t127) = true := by simpa using c14))
                  clear c14
                  by_cases c15 : t125 = true
                  · subst c15
                    have H1 : (if (wrap64 (t126 - t124)) = 146097 then ((civil_Weekday.f t124).bind fun t129 => ((civil_Weekday.f t126).bind fun t130 => (some (t129 == t130)))) else (some false)) = some r := by rw [if_pos rfl] at H; exact H
                    clear H
                    have H := H1
                    clear H1
                    by_cases c16 : (wrap64 (t126 - t124)) = 146097
                    · rw [if_pos c16] at H
                      have c16b0 : ((wrap64 (t126 - t124)) == 146097) = true := beq_iff_eq.mpr c16
                      have c16b1 : ((wrap64 (t126 - t124)) != 146097) = false := bne_eq_false_iff_eq.mpr c16
                      clear c16
                      replace H := Option.bind_eq_some_iff.mp H
                      obtain ⟨t129, A170, H⟩ := H
                      replace H : ((civil_Weekday.f t126).bind fun t130 => (some (t129 == t130))) = some r := H
                      have A17 := Aside0.mk A170
                      clear A170
                      replace H := Option.bind_eq_some_iff.mp H
                      obtain ⟨t130, A180, H⟩ := H
                      replace H : (some (t129 == t130)) = some r := H
                      have A18 := Aside0.mk A180
                      clear A180
                      obtain rfl := Option.some.inj H
                      go_wp2_with (first | ((with_reducible refine gate_callee (f := 8) rfl ?_); refine goesL_ (some 37) rfl rfl Try.func8 (by kernel_rfl) rfl #[.int .i64 (Int.tmod (wrap64 (a0)) 9600), .int .i64 (wrap64 (Int.tmod a1 14)), .int .i64 (wrap64 (Int.tmod a2 33))] rfl (by (try simp only [List.map_toArray, List.map_cons, List.map_nil]); first | done | rfl | (simp only [List.length_drop, List.length_take]; rfl)) ?_; (with_reducible refine (civil_Days.calls kj6 (Int.tmod (wrap64 (a0)) 9600) (wrap64 (Int.tmod a1 14)) (wrap64 (Int.tmod a2 33)) t124 true _ A9.out).mono ?_); rintro e w' ⟨rfl, ⟨nd, rfl⟩⟩; refine ⟨_, rfl, ?_⟩) | ((with_reducible refine gate_callee (f := 8) rfl ?_); refine goesL_ (some 49) rfl rfl Try.func8 (by kernel_rfl) rfl #[.int .i64 (wrap64 ((Int.tmod (wrap64 (a0)) 9600) + 400)), .int .i64 (wrap64 (Int.tmod a1 14)), .int .i64 (wrap64 (Int.tmod a2 33))] rfl (by (try simp only [List.map_toArray, List.map_cons, List.map_nil]); first | done | rfl | (simp only [List.length_drop, List.length_take]; rfl)) ?_; (with_reducible refine (civil_Days.calls kj6 (wrap64 ((Int.tmod (wrap64 (a0)) 9600) + 400)) (wrap64 (Int.tmod a1 14)) (wrap64 (Int.tmod a2 33)) t126 t127 _ A10.out).mono ?_); rintro e w' ⟨rfl, ⟨nd, rfl⟩⟩; refine ⟨_, rfl, ?_⟩) | ((with_reducible refine gate_callee (f := 10) rfl ?_); refine goesL_ (some 52) rfl rfl Try.func10 (by kernel_rfl) rfl #[] rfl (by (try simp only [List.map_toArray, List.map_cons, List.map_nil]); first | done | rfl | (simp only [List.length_drop, List.length_take]; rfl)) ?_; (with_reducible refine (decorumlaw02_awake.calls kj6  true _ A11.out).mono ?_); rintro e w' ⟨rfl, ⟨nd, rfl⟩⟩; refine ⟨_, rfl, ?_⟩) | (go_at_call 16; (with_reducible refine (civil_Weekday.calls t124 t129 _ A17.out).mono ?_); rintro e w' ⟨rfl, ⟨nd, rfl⟩⟩) | (go_at_call 16; (with_reducible refine (civil_Weekday.calls t126 t130 _ A18.out).mono ?_); rintro e w' ⟨rfl, ⟨nd, rfl⟩⟩))
                      go_ret
                      exact ⟨by first | rfl | (simp; done) | (simp [*]; done), by repeat (first | exact Drawn0.refl _ | apply Drawn0.step)⟩
                    · rw [if_neg c16] at H
                      have c16b0 : ((wrap64 (t126 - t124)) == 146097) = false := beq_eq_false_iff_ne.mpr c16
                      have c16b1 : ((wrap64 (t126 - t124)) != 146097) = true := bne_iff_ne.mpr c16
                      obtain rfl := Option.some.inj H
                      go_wp2_with (first | ((with_reducible refine gate_callee (f := 8) rfl ?_); refine goesL_ (some 37) rfl rfl Try.func8 (by kernel_rfl) rfl #[.int .i64 (Int.tmod (wrap64 (a0)) 9600), .int .i64 (wrap64 (Int.tmod a1 14)), .int .i64 (wrap64 (Int.tmod a2 33))] rfl (by (try simp only [List.map_toArray, List.map_cons, List.map_nil]); first | done | rfl | (simp only [List.length_drop, List.length_take]; rfl)) ?_; (with_reducible refine (civil_Days.calls kj6 (Int.tmod (wrap64 (a0)) 9600) (wrap64 (Int.tmod a1 14)) (wrap64 (Int.tmod a2 33)) t124 true _ A9.out).mono ?_); rintro e w' ⟨rfl, ⟨nd, rfl⟩⟩; refine ⟨_, rfl, ?_⟩) | ((with_reducible refine gate_callee (f := 8) rfl ?_); refine goesL_ (some 49) rfl rfl Try.func8 (by kernel_rfl) rfl #[.int .i64 (wrap64 ((Int.tmod (wrap64 (a0)) 9600) + 400)), .int .i64 (wrap64 (Int.tmod a1 14)), .int .i64 (wrap64 (Int.tmod a2 33))] rfl (by (try simp only [List.map_toArray, List.map_cons, List.map_nil]); first | done | rfl | (simp only [List.length_drop, List.length_take]; rfl)) ?_; (with_reducible refine (civil_Days.calls kj6 (wrap64 ((Int.tmod (wrap64 (a0)) 9600) + 400)) (wrap64 (Int.tmod a1 14)) (wrap64 (Int.tmod a2 33)) t126 t127 _ A10.out).mono ?_); rintro e w' ⟨rfl, ⟨nd, rfl⟩⟩; refine ⟨_, rfl, ?_⟩) | ((with_reducible refine gate_callee (f := 10) rfl ?_); refine goesL_ (some 52) rfl rfl Try.func10 (by kernel_rfl) rfl #[] rfl (by (try simp only [List.map_toArray, List.map_cons, List.map_nil]); first | done | rfl | (simp only [List.length_drop, List.length_take]; rfl)) ?_; (with_reducible refine (decorumlaw02_awake.calls kj6  true _ A11.out).mono ?_); rintro e w' ⟨rfl, ⟨nd, rfl⟩⟩; refine ⟨_, rfl, ?_⟩))
                      go_ret
                      exact ⟨by first | rfl | (simp; done) | (simp [*]; done), by repeat (first | exact Drawn0.refl _ | apply Drawn0.step)⟩
                  · replace c15 := Bool.eq_false_iff.mpr c15
                    subst c15
                    have H1 : (some true) = some r := by rw [if_neg (show ¬ (false = true) by decide)] at H; exact H
                    clear H
                    have H := H1
                    clear H1
                    obtain rfl := Option.some.inj H
                    go_wp2_with (first | ((with_reducible refine gate_callee (f := 8) rfl ?_); refine goesL_ (some 37) rfl rfl Try.func8 (by kernel_rfl) rfl #[.int .i64 (Int.tmod (wrap64 (a0)) 9600), .int .i64 (wrap64 (Int.tmod a1 14)), .int .i64 (wrap64 (Int.tmod a2 33))] rfl (by (try simp only [List.map_toArray, List.map_cons, List.map_nil]); first | done | rfl | (simp only [List.length_drop, List.length_take]; rfl)) ?_; (with_reducible refine (civil_Days.calls kj6 (Int.tmod (wrap64 (a0)) 9600) (wrap64 (Int.tmod a1 14)) (wrap64 (Int.tmod a2 33)) t124 false _ A9.out).mono ?_); rintro e w' ⟨rfl, ⟨nd, rfl⟩⟩; refine ⟨_, rfl, ?_⟩) | ((with_reducible refine gate_callee (f := 8) rfl ?_); refine goesL_ (some 49) rfl rfl Try.func8 (by kernel_rfl) rfl #[.int .i64 (wrap64 ((Int.tmod (wrap64 (a0)) 9600) + 400)), .int .i64 (wrap64 (Int.tmod a1 14)), .int .i64 (wrap64 (Int.tmod a2 33))] rfl (by (try simp only [List.map_toArray, List.map_cons, List.map_nil]); first | done | rfl | (simp only [List.length_drop, List.length_take]; rfl)) ?_; (with_reducible refine (civil_Days.calls kj6 (wrap64 ((Int.tmod (wrap64 (a0)) 9600) + 400)) (wrap64 (Int.tmod a1 14)) (wrap64 (Int.tmod a2 33)) t126 t127 _ A10.out).mono ?_); rintro e w' ⟨rfl, ⟨nd, rfl⟩⟩; refine ⟨_, rfl, ?_⟩) | ((with_reducible refine gate_callee (f := 10) rfl ?_); refine goesL_ (some 52) rfl rfl Try.func10 (by kernel_rfl) rfl #[] rfl (by (try simp only [List.map_toArray, List.map_cons, List.map_nil]); first | done | rfl | (simp only [List.length_drop, List.length_take]; rfl)) ?_; (with_reducible refine (decorumlaw02_awake.calls kj6  true _ A11.out).mono ?_); rintro e w' ⟨rfl, ⟨nd, rfl⟩⟩; refine ⟨_, rfl, ?_⟩))
                    go_ret
                    exact ⟨by first | rfl | (simp; done) | (simp [*]; done), by repeat (first | exact Drawn0.refl _ | apply Drawn0.step)⟩
                · rw [if_neg c14] at H
                  have c14b0 : (t125 == t127) = false := by simpa using c14
                  (try (have c14b1 : decide (t125 = t127) = false := by simpa using c14))
                  (try (have c14b2 : (t125 == t127) = false := by simpa using c14))
                  (try (have c14b3 : ¬ (t125 = t127) := by simpa using c14))
                  clear c14
                  obtain rfl := Option.some.inj H
                  go_wp2_with (first | ((with_reducible refine gate_callee (f := 8) rfl ?_); refine goesL_ (some 37) rfl rfl Try.func8 (by kernel_rfl) rfl #[.int .i64 (Int.tmod (wrap64 (a0)) 9600), .int .i64 (wrap64 (Int.tmod a1 14)), .int .i64 (wrap64 (Int.tmod a2 33))] rfl (by (try simp only [List.map_toArray, List.map_cons, List.map_nil]); first | done | rfl | (simp only [List.length_drop, List.length_take]; rfl)) ?_; (with_reducible refine (civil_Days.calls kj6 (Int.tmod (wrap64 (a0)) 9600) (wrap64 (Int.tmod a1 14)) (wrap64 (Int.tmod a2 33)) t124 t125 _ A9.out).mono ?_); rintro e w' ⟨rfl, ⟨nd, rfl⟩⟩; refine ⟨_, rfl, ?_⟩) | ((with_reducible refine gate_callee (f := 8) rfl ?_); refine goesL_ (some 49) rfl rfl Try.func8 (by kernel_rfl) rfl #[.int .i64 (wrap64 ((Int.tmod (wrap64 (a0)) 9600) + 400)), .int .i64 (wrap64 (Int.tmod a1 14)), .int .i64 (wrap64 (Int.tmod a2 33))] rfl (by (try simp only [List.map_toArray, List.map_cons, List.map_nil]); first | done | rfl | (simp only [List.length_drop, List.length_take]; rfl)) ?_; (with_reducible refine (civil_Days.calls kj6 (wrap64 ((Int.tmod (wrap64 (a0)) 9600) + 400)) (wrap64 (Int.tmod a1 14)) (wrap64 (Int.tmod a2 33)) t126 t127 _ A10.out).mono ?_); rintro e w' ⟨rfl, ⟨nd, rfl⟩⟩; refine ⟨_, rfl, ?_⟩) | ((with_reducible refine gate_callee (f := 10) rfl ?_); refine goesL_ (some 52) rfl rfl Try.func10 (by kernel_rfl) rfl #[] rfl (by (try simp only [List.map_toArray, List.map_cons, List.map_nil]); first | done | rfl | (simp only [List.length_drop, List.length_take]; rfl)) ?_; (with_reducible refine (decorumlaw02_awake.calls kj6  true _ A11.out).mono ?_); rintro e w' ⟨rfl, ⟨nd, rfl⟩⟩; refine ⟨_, rfl, ?_⟩))
                  go_ret
                  exact ⟨by first | rfl | (simp; done) | (simp [*]; done), by repeat (first | exact Drawn0.refl _ | apply Drawn0.step)⟩
              · rw [if_neg c13] at H
                have c13b0 : (x8_1 == x10_6) = false := beq_eq_false_iff_ne.mpr c13
                have c13b1 : (x8_1 != x10_6) = true := bne_iff_ne.mpr c13
                obtain rfl := Option.some.inj H
                go_wp2_with (first | ((with_reducible refine gate_callee (f := 8) rfl ?_); refine goesL_ (some 37) rfl rfl Try.func8 (by kernel_rfl) rfl #[.int .i64 (Int.tmod (wrap64 (a0)) 9600), .int .i64 (wrap64 (Int.tmod a1 14)), .int .i64 (wrap64 (Int.tmod a2 33))] rfl (by (try simp only [List.map_toArray, List.map_cons, List.map_nil]); first | done | rfl | (simp only [List.length_drop, List.length_take]; rfl)) ?_; (with_reducible refine (civil_Days.calls kj6 (Int.tmod (wrap64 (a0)) 9600) (wrap64 (Int.tmod a1 14)) (wrap64 (Int.tmod a2 33)) t124 t125 _ A9.out).mono ?_); rintro e w' ⟨rfl, ⟨nd, rfl⟩⟩; refine ⟨_, rfl, ?_⟩) | ((with_reducible refine gate_callee (f := 8) rfl ?_); refine goesL_ (some 49) rfl rfl Try.func8 (by kernel_rfl) rfl #[.int .i64 (wrap64 ((Int.tmod (wrap64 (a0)) 9600) + 400)), .int .i64 (wrap64 (Int.tmod a1 14)), .int .i64 (wrap64 (Int.tmod a2 33))] rfl (by (try simp only [List.map_toArray, List.map_cons, List.map_nil]); first | done | rfl | (simp only [List.length_drop, List.length_take]; rfl)) ?_; (with_reducible refine (civil_Days.calls kj6 (wrap64 ((Int.tmod (wrap64 (a0)) 9600) + 400)) (wrap64 (Int.tmod a1 14)) (wrap64 (Int.tmod a2 33)) t126 t127 _ A10.out).mono ?_); rintro e w' ⟨rfl, ⟨nd, rfl⟩⟩; refine ⟨_, rfl, ?_⟩) | ((with_reducible refine gate_callee (f := 10) rfl ?_); refine goesL_ (some 52) rfl rfl Try.func10 (by kernel_rfl) rfl #[] rfl (by (try simp only [List.map_toArray, List.map_cons, List.map_nil]); first | done | rfl | (simp only [List.length_drop, List.length_take]; rfl)) ?_; (with_reducible refine (decorumlaw02_awake.calls kj6  true _ A11.out).mono ?_); rintro e w' ⟨rfl, ⟨nd, rfl⟩⟩; refine ⟨_, rfl, ?_⟩))
                go_ret
                exact ⟨by first | rfl | (simp; done) | (simp [*]; done), by repeat (first | exact Drawn0.refl _ | apply Drawn0.step)⟩
            · replace c12 := Bool.eq_false_iff.mpr c12
              subst c12
              have H1 : (some false) = some r := by rw [if_neg (show ¬ (false = true) by decide)] at H; exact H
              clear H
              have H := H1
              clear H1
              obtain rfl := Option.some.inj H
              go_wp2_with (first | ((with_reducible refine gate_callee (f := 8) rfl ?_); refine goesL_ (some 37) rfl rfl Try.func8 (by kernel_rfl) rfl #[.int .i64 (Int.tmod (wrap64 (a0)) 9600), .int .i64 (wrap64 (Int.tmod a1 14)), .int .i64 (wrap64 (Int.tmod a2 33))] rfl (by (try simp only [List.map_toArray, List.map_cons, List.map_nil]); first | done | rfl | (simp only [List.length_drop, List.length_take]; rfl)) ?_; (with_reducible refine (civil_Days.calls kj6 (Int.tmod (wrap64 (a0)) 9600) (wrap64 (Int.tmod a1 14)) (wrap64 (Int.tmod a2 33)) t124 t125 _ A9.out).mono ?_); rintro e w' ⟨rfl, ⟨nd, rfl⟩⟩; refine ⟨_, rfl, ?_⟩) | ((with_reducible refine gate_callee (f := 8) rfl ?_); refine goesL_ (some 49) rfl rfl Try.func8 (by kernel_rfl) rfl #[.int .i64 (wrap64 ((Int.tmod (wrap64 (a0)) 9600) + 400)), .int .i64 (wrap64 (Int.tmod a1 14)), .int .i64 (wrap64 (Int.tmod a2 33))] rfl (by (try simp only [List.map_toArray, List.map_cons, List.map_nil]); first | done | rfl | (simp only [List.length_drop, List.length_take]; rfl)) ?_; (with_reducible refine (civil_Days.calls kj6 (wrap64 ((Int.tmod (wrap64 (a0)) 9600) + 400)) (wrap64 (Int.tmod a1 14)) (wrap64 (Int.tmod a2 33)) t126 t127 _ A10.out).mono ?_); rintro e w' ⟨rfl, ⟨nd, rfl⟩⟩; refine ⟨_, rfl, ?_⟩) | ((with_reducible refine gate_callee (f := 10) rfl ?_); refine goesL_ (some 52) rfl rfl Try.func10 (by kernel_rfl) rfl #[] rfl (by (try simp only [List.map_toArray, List.map_cons, List.map_nil]); first | done | rfl | (simp only [List.length_drop, List.length_take]; rfl)) ?_; (with_reducible refine (decorumlaw02_awake.calls kj6  false _ A11.out).mono ?_); rintro e w' ⟨rfl, ⟨nd, rfl⟩⟩; refine ⟨_, rfl, ?_⟩))
              go_ret
              exact ⟨by first | rfl | (simp; done) | (simp [*]; done), by repeat (first | exact Drawn0.refl _ | apply Drawn0.step)⟩

/-- THE ONE PURE STATEMENT of decorumlaw02_CivilYears: yours. -/
def decorumlaw02_CivilYears.Pure : Prop := ∀ (a0 : Int) (a1 : Int) (a2 : Int), (Lit.int .u16 a0).wf = true → (Lit.int .u8 a1).wf = true → (Lit.int .u8 a2).wf = true → ∃ k, decorumlaw02_CivilYears.f k a0 a1 a2 = some true
theorem decorumlaw02_CivilYears.walk (P : decorumlaw02_CivilYears.Pure) (a0 : Int) (a1 : Int) (a2 : Int) (w : World) (w0 : (Lit.int .u16 a0).wf = true) (w1 : (Lit.int .u8 a1).wf = true) (w2 : (Lit.int .u8 a2).wf = true) :
    Calls Try.prog 7 #[.int .u16 a0, .int .u8 a1, .int .u8 a2] w fun e w' => e = .returned (.bool true) ∧ Below w.heap.size w w' := by
  obtain ⟨k, h⟩ := P a0 a1 a2 w0 w1 w2
  refine (decorumlaw02_CivilYears.calls k a0 a1 a2 true w h).mono ?_
  rintro e w' ⟨rfl, hd⟩
  exact ⟨rfl, hd.below⟩

end Go.Proofs.Ytgfbodnidghldaa.PCivilYears
