-- A text that a changed copy of the print program wrote for this claim (NOTES.md, changed print); it is not a printed text.
import Derived.Test.YtobepponcolciaaQTickAddsx0
import Derived.Test.YtobepponcolciaaQTickAddsx1
namespace Go.Proofs.Ytobepponcolciaa.QTickAdds
open Go.RowKit Go.Proofs.YtobepponcolciaaW.PrintWords Go.Proofs.YtobepponcolciaaW.PrintLast Go.Proofs.YtobepponcolciaaW.PrintMore
attribute [local go_sem] max2_int min2_int max_two min_two max_three min_three max_four min_four   -- for this text's walks alone
set_option linter.unusedVariables false
set_option linter.unusedSimpArgs false

/-! ### decorumlaw01_TickAdds: function 9 -/
def decorumlaw01_TickAdds.f (k : Nat) (a0 : Int) (a1 : Int) : Option (Bool) := (decorumref01_Held.f a1).bind fun t125 => ((decorumlaw01_awake.f k).bind fun t126 => (if t126 = true then ((tick_Add.f a0 a1).bind fun t127 => ((decorumref01_Add.f k a0 a1).bind fun t128 => (if t127 = t128 then ((tick_Sub.f a0 a1).bind fun t129 => ((decorumref01_Add.f k a0 (wrap64 (-t125))).bind fun t130 => (some (t129 == t130)))) else (some false)))) else (some false)))
theorem decorumlaw01_TickAdds.mono : ∀ a0 a1 k, LeO (decorumlaw01_TickAdds.f k a0 a1) (decorumlaw01_TickAdds.f (k + 1) a0 a1) := by
  intro a0 a1 k
  unfold decorumlaw01_TickAdds.f
  repeat' first
      | (with_reducible exact decorumlaw01_awake.mono _)
      | (with_reducible exact decorumref01_Add.mono _ _ _)
      | (with_reducible exact LeO.refl _)
      | (with_reducible exact LeO.none _)
      | (with_reducible refine LeO.ite ?_ ?_)
      | (with_reducible refine LeO.bind ?_ (fun _ => ?_))
      | exact decorumlaw01_awake.mono _
      | exact decorumref01_Add.mono _ _ _
      | exact LeO.none _
      | refine LeO.ite ?_ ?_
      | refine LeO.bind ?_ (fun _ => ?_)
set_option maxHeartbeats 8000000 in
set_option maxRecDepth 100000 in
theorem decorumlaw01_TickAdds.calls (k : Nat) (a0 : Int) (a1 : Int) (r : Bool) (w : World) (h : decorumlaw01_TickAdds.f k a0 a1 = some r) :
    Calls Try.prog 9 #[.int .i64 a0, .int .i64 a1] w fun e w' => e = .returned (.bool r) ∧ Below w.heap.size w w' := by
  have HB := Aside0.mk (Below.refl w.heap.size w)
  have H : ((decorumref01_Held.f a1).bind fun t125 => ((decorumlaw01_awake.f k).bind fun t126 => (if t126 = true then ((tick_Add.f a0 a1).bind fun t127 => ((decorumref01_Add.f k a0 a1).bind fun t128 => (if t127 = t128 then ((tick_Sub.f a0 a1).bind fun t129 => ((decorumref01_Add.f k a0 (wrap64 (-t125))).bind fun t130 => (some (t129 == t130)))) else (some false)))) else (some false)))) = some r := h
  clear h
  replace H := Option.bind_eq_some_iff.mp H
  obtain ⟨t125, A30, H⟩ := H
  replace H : ((decorumlaw01_awake.f k).bind fun t126 => (if t126 = true then ((tick_Add.f a0 a1).bind fun t127 => ((decorumref01_Add.f k a0 a1).bind fun t128 => (if t127 = t128 then ((tick_Sub.f a0 a1).bind fun t129 => ((decorumref01_Add.f k a0 (wrap64 (-t125))).bind fun t130 => (some (t129 == t130)))) else (some false)))) else (some false))) = some r := H
  have A3 := Aside0.mk A30
  clear A30
  replace H := Option.bind_eq_some_iff.mp H
  obtain ⟨t126, A40, H⟩ := H
  replace H : (if t126 = true then ((tick_Add.f a0 a1).bind fun t127 => ((decorumref01_Add.f k a0 a1).bind fun t128 => (if t127 = t128 then ((tick_Sub.f a0 a1).bind fun t129 => ((decorumref01_Add.f k a0 (wrap64 (-t125))).bind fun t130 => (some (t129 == t130)))) else (some false)))) else (some false)) = some r := H
  have A4 := Aside0.mk A40
  clear A40
  by_cases c5 : t126 = true
  · subst c5
    have H1 : ((tick_Add.f a0 a1).bind fun t127 => ((decorumref01_Add.f k a0 a1).bind fun t128 => (if t127 = t128 then ((tick_Sub.f a0 a1).bind fun t129 => ((decorumref01_Add.f k a0 (wrap64 (-t125))).bind fun t130 => (some (t129 == t130)))) else (some false)))) = some r := by rw [if_pos rfl] at H; exact H
    clear H
    have H := H1
    clear H1
    replace H := Option.bind_eq_some_iff.mp H
    obtain ⟨t127, A60, H⟩ := H
    replace H : ((decorumref01_Add.f k a0 a1).bind fun t128 => (if t127 = t128 then ((tick_Sub.f a0 a1).bind fun t129 => ((decorumref01_Add.f k a0 (wrap64 (-t125))).bind fun t130 => (some (t129 == t130)))) else (some false))) = some r := H
    have A6 := Aside0.mk A60
    clear A60
    replace H := Option.bind_eq_some_iff.mp H
    obtain ⟨t128, A70, H⟩ := H
    replace H : (if t127 = t128 then ((tick_Sub.f a0 a1).bind fun t129 => ((decorumref01_Add.f k a0 (wrap64 (-t125))).bind fun t130 => (some (t129 == t130)))) else (some false)) = some r := H
    have A7 := Aside0.mk A70
    clear A70
    by_cases c8 : t127 = t128
    · rw [if_pos c8] at H
      have c8b0 : (t127 == t128) = true := beq_iff_eq.mpr c8
      have c8b1 : (t127 != t128) = false := bne_eq_false_iff_eq.mpr c8
      clear c8
      replace H := Option.bind_eq_some_iff.mp H
      obtain ⟨t129, A90, H⟩ := H
      replace H : ((decorumref01_Add.f k a0 (wrap64 (-t125))).bind fun t130 => (some (t129 == t130))) = some r := H
      have A9 := Aside0.mk A90
      clear A90
      replace H := Option.bind_eq_some_iff.mp H
      obtain ⟨t130, A100, H⟩ := H
      replace H : (some (t129 == t130)) = some r := H
      have A10 := Aside0.mk A100
      clear A100
      obtain rfl := Option.some.inj H
      go_enter Try.func9, Try.ntmps9
      go_wp2_with (first | ((with_reducible refine gate_callee (f := 14) rfl ?_); refine goesL_ (some 7) rfl rfl Try.func14 (by kernel_rfl) rfl #[.int .i64 a1] rfl (by (try simp only [List.map_toArray, List.map_cons, List.map_nil]); first | done | rfl | (simp only [List.length_drop, List.length_take]; rfl)) ?_; (with_reducible refine (decorumref01_Held.calls a1 t125 _ A3.out).mono ?_); rintro e w' ⟨rfl, ⟨nd, rfl⟩⟩; refine ⟨_, rfl, ?_⟩) | ((with_reducible refine gate_callee (f := 11) rfl ?_); refine goesL_ (some 8) rfl rfl Try.func11 (by kernel_rfl) rfl #[] rfl (by (try simp only [List.map_toArray, List.map_cons, List.map_nil]); first | done | rfl | (simp only [List.length_drop, List.length_take]; rfl)) ?_; (with_reducible refine (decorumlaw01_awake.calls k  true _ A4.out).mono ?_); rintro e w11 ⟨rfl, hb⟩; refine ⟨_, rfl, ?_⟩; have n0_ := Aside0.mk (below_step (by repeat (first | (with_reducible first | exact HB.out | apply below_alloc | apply pw_below_drewN | apply below_drew1) | exact HB.out)) hb); clear HB; have HB := n0_; clear n0_; (try clear hb); (try clear hb2); (try clear hk); (try clear hi)) | (go_at_call 21; (with_reducible refine (tick_Add.calls a0 a1 t127 _ A6.out).mono ?_); rintro e w12 ⟨rfl, hb⟩; have n0_ := Aside0.mk (below_step (by repeat (first | (with_reducible first | exact HB.out | apply below_alloc | apply pw_below_drewN | apply below_drew1) | exact HB.out)) hb); clear HB; have HB := n0_; clear n0_; (try clear hb); (try clear hb2); (try clear hk); (try clear hi)) | (go_at_call 15; (with_reducible refine (decorumref01_Add.calls k a0 a1 t128 _ A7.out).mono ?_); rintro e w' ⟨rfl, ⟨nd, rfl⟩⟩) | (go_at_call 22; (with_reducible refine (tick_Sub.calls a0 a1 t129 _ A9.out).mono ?_); rintro e w13 ⟨rfl, hb⟩; have n0_ := Aside0.mk (below_step (by repeat (first | (with_reducible first | exact HB.out | apply below_alloc | apply pw_below_drewN | apply below_drew1) | exact HB.out)) hb); clear HB; have HB := n0_; clear n0_; (try clear hb); (try clear hb2); (try clear hk); (try clear hi)) | (go_at_call 15; (with_reducible refine (decorumref01_Add.calls k a0 (wrap64 (-t125)) t130 _ A10.out).mono ?_); rintro e w' ⟨rfl, ⟨nd, rfl⟩⟩))
      go_ret
      exact ⟨by first | rfl | (simp [errW_none, errW_some] <;> rfl) | (simp [*, errW_none, errW_some] <;> rfl) | (simp [wrap64]; done), by repeat (first | (with_reducible first | exact HB.out | apply below_alloc | apply pw_below_drewN | apply below_drew1) | exact HB.out)⟩
    · rw [if_neg c8] at H
      have c8b0 : (t127 == t128) = false := beq_eq_false_iff_ne.mpr c8
      have c8b1 : (t127 != t128) = true := bne_iff_ne.mpr c8
      obtain rfl := Option.some.inj H
      go_enter Try.func9, Try.ntmps9
      go_wp2_with (first | ((with_reducible refine gate_callee (f := 14) rfl ?_); refine goesL_ (some 7) rfl rfl Try.func14 (by kernel_rfl) rfl #[.int .i64 a1] rfl (by (try simp only [List.map_toArray, List.map_cons, List.map_nil]); first | done | rfl | (simp only [List.length_drop, List.length_take]; rfl)) ?_; (with_reducible refine (decorumref01_Held.calls a1 t125 _ A3.out).mono ?_); rintro e w' ⟨rfl, ⟨nd, rfl⟩⟩; refine ⟨_, rfl, ?_⟩) | ((with_reducible refine gate_callee (f := 11) rfl ?_); refine goesL_ (some 8) rfl rfl Try.func11 (by kernel_rfl) rfl #[] rfl (by (try simp only [List.map_toArray, List.map_cons, List.map_nil]); first | done | rfl | (simp only [List.length_drop, List.length_take]; rfl)) ?_; (with_reducible refine (decorumlaw01_awake.calls k  true _ A4.out).mono ?_); rintro e w14 ⟨rfl, hb⟩; refine ⟨_, rfl, ?_⟩; have n0_ := Aside0.mk (below_step (by repeat (first | (with_reducible first | exact HB.out | apply below_alloc | apply pw_below_drewN | apply below_drew1) | exact HB.out)) hb); clear HB; have HB := n0_; clear n0_; (try clear hb); (try clear hb2); (try clear hk); (try clear hi)) | (go_at_call 21; (with_reducible refine (tick_Add.calls a0 a1 t127 _ A6.out).mono ?_); rintro e w15 ⟨rfl, hb⟩; have n0_ := Aside0.mk (below_step (by repeat (first | (with_reducible first | exact HB.out | apply below_alloc | apply pw_below_drewN | apply below_drew1) | exact HB.out)) hb); clear HB; have HB := n0_; clear n0_; (try clear hb); (try clear hb2); (try clear hk); (try clear hi)) | (go_at_call 15; (with_reducible refine (decorumref01_Add.calls k a0 a1 t128 _ A7.out).mono ?_); rintro e w' ⟨rfl, ⟨nd, rfl⟩⟩))
      go_ret
      exact ⟨by first | rfl | (simp [errW_none, errW_some] <;> rfl) | (simp [*, errW_none, errW_some] <;> rfl) | (simp [wrap64]; done), by repeat (first | (with_reducible first | exact HB.out | apply below_alloc | apply pw_below_drewN | apply below_drew1) | exact HB.out)⟩
  · replace c5 := Bool.eq_false_iff.mpr c5
    subst c5
    have H1 : (some false) = some r := by rw [if_neg (show ¬ (false = true) by decide)] at H; exact H
    clear H
    have H := H1
    clear H1
    obtain rfl := Option.some.inj H
    go_enter Try.func9, Try.ntmps9
    go_wp2_with (first | ((with_reducible refine gate_callee (f := 14) rfl ?_); refine goesL_ (some 7) rfl rfl Try.func14 (by kernel_rfl) rfl #[.int .i64 a1] rfl (by (try simp only [List.map_toArray, List.map_cons, List.map_nil]); first | done | rfl | (simp only [List.length_drop, List.length_take]; rfl)) ?_; (with_reducible refine (decorumref01_Held.calls a1 t125 _ A3.out).mono ?_); rintro e w' ⟨rfl, ⟨nd, rfl⟩⟩; refine ⟨_, rfl, ?_⟩) | ((with_reducible refine gate_callee (f := 11) rfl ?_); refine goesL_ (some 8) rfl rfl Try.func11 (by kernel_rfl) rfl #[] rfl (by (try simp only [List.map_toArray, List.map_cons, List.map_nil]); first | done | rfl | (simp only [List.length_drop, List.length_take]; rfl)) ?_; (with_reducible refine (decorumlaw01_awake.calls k  false _ A4.out).mono ?_); rintro e w16 ⟨rfl, hb⟩; refine ⟨_, rfl, ?_⟩; have n0_ := Aside0.mk (below_step (by repeat (first | (with_reducible first | exact HB.out | apply below_alloc | apply pw_below_drewN | apply below_drew1) | exact HB.out)) hb); clear HB; have HB := n0_; clear n0_; (try clear hb); (try clear hb2); (try clear hk); (try clear hi)))
    go_ret
    exact ⟨by first | rfl | (simp [errW_none, errW_some] <;> rfl) | (simp [*, errW_none, errW_some] <;> rfl) | (simp [wrap64]; done), by repeat (first | (with_reducible first | exact HB.out | apply below_alloc | apply pw_below_drewN | apply below_drew1) | exact HB.out)⟩

/-- THE ONE PURE STATEMENT of decorumlaw01_TickAdds: yours. -/
def decorumlaw01_TickAdds.Pure : Prop := ∀ (a0 : Int) (a1 : Int), (Lit.int .i64 a0).wf = true → (Lit.int .i64 a1).wf = true → ∃ k, decorumlaw01_TickAdds.f k a0 a1 = some true
theorem decorumlaw01_TickAdds.walk (P : decorumlaw01_TickAdds.Pure) (a0 : Int) (a1 : Int) (w : World) (w0 : (Lit.int .i64 a0).wf = true) (w1 : (Lit.int .i64 a1).wf = true) :
    Calls Try.prog 9 #[.int .i64 a0, .int .i64 a1] w fun e w' => e = .returned (.bool true) ∧ Below w.heap.size w w' := by
  obtain ⟨k, h⟩ := P a0 a1 w0 w1
  refine (decorumlaw01_TickAdds.calls k a0 a1 true w h).mono ?_
  rintro e w' ⟨rfl, hd⟩
  exact ⟨rfl, hd⟩

end Go.Proofs.Ytobepponcolciaa.QTickAdds
