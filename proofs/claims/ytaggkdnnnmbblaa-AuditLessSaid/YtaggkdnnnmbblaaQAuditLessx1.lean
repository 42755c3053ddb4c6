-- A text that a changed copy of the print program wrote for this claim (NOTES.md, changed print); it is not a printed text.
import Derived.Test.YtaggkdnnnmbblaaQAuditLessx0
namespace Go.Proofs.Ytaggkdnnnmbblaa.QAuditLess
open Go.Proofs.Ytaggkdnnnmbblaa.Given Go.Proofs.Ytaggkdnnnmbblaa.QBase
open Go.RowKit Go.Proofs.YtaggkdnnnmbblaaW.PrintWords Go.Proofs.YtaggkdnnnmbblaaW.PrintLast Go.Proofs.YtaggkdnnnmbblaaW.PrintMore
attribute [local go_sem] max2_int min2_int max_two min_two max_three min_three max_four min_four   -- for this text's walks alone
set_option linter.unusedVariables false
set_option linter.unusedSimpArgs false

/-! ### decorumlaw22_cut: function 8 -/
def decorumlaw22_cut.f (l0 : List (S28)) : Option ((List (S28))) := if (l0.length : Int) > 60 then (if 60 ≤ (l0.length : Int) then (some (l0.take 60)) else (none)) else (some l0)
set_option maxHeartbeats 8000000 in
set_option maxRecDepth 100000 in
theorem decorumlaw22_cut.calls (P0_ : Nat → Prop) (A0 : Option Addr) (c0 : Nat) (l0 : List (S28)) (r : List (S28)) (w : World) (hs0 : Kd.V k28 28 w w.heap.size (fun k_ => P0_ k_) (.slice A0 l0.length c0) l0) (h : decorumlaw22_cut.f l0 = some r) :
    Calls Try.prog 8 #[.slice A0 l0.length c0] w fun e w' => ∃ v0_ : Value, e = .returned (v0_) ∧ Kd.V k28 28 w' w.heap.size (fun k_ => (P0_ k_ ∨ w.heap.size ≤ k_)) v0_ r ∧ Below w.heap.size w w' := by
  have HO0 := Aside0.mk (show Kd.V k28 28 w w.heap.size (fun k_ => (P0_ k_ ∨ w.heap.size ≤ k_)) (.slice A0 l0.length c0) l0 from Kd.V_mono hs0 (fun k_ hk => .inl hk))
  have HB := Aside0.mk (Below.refl w.heap.size w)
  have H : (if (l0.length : Int) > 60 then (if 60 ≤ (l0.length : Int) then (some (l0.take 60)) else (none)) else (some l0)) = some r := h
  clear h
  by_cases c2 : (l0.length : Int) > 60
  · rw [if_pos c2] at H
    have c2b0 : decide (60 < (l0.length : Int)) = true := decide_eq_true c2
    have c2b1 : decide (60 < l0.length) = true := decide_eq_true (by omega)
    clear c2
    by_cases c3 : 60 ≤ (l0.length : Int)
    · rw [if_pos c3] at H
      have c3b0 := eq_true c3
      have c3b1 : decide (60 ≤ (l0.length : Int)) = true := decide_eq_true c3
      clear c3
      obtain ⟨y101, hy101⟩ : ∃ y_ : List (S28), y_ = (l0.take 60) := ⟨_, rfl⟩
      replace H : (some y101) = some r := by first | (rw [hy101]; with_reducible exact H) | (have H2_ := (Option.bind_some _ _).symm.trans H; rw [hy101]; with_reducible exact H2_) | (have H2_ := (Option.bind_some _ _).symm.trans H; with_reducible exact H2_) | with_reducible exact H | (rw [hy101]; exact H) | exact H
      have Ny101 := Aside0.mk hy101
      clear hy101
      obtain rfl := Option.some.inj H
      have q4 : (60 : Int) ≤ ((l0.length : Int) : Int) := of_decide_eq_true (by first | (with_reducible assumption) | assumption)
      obtain ⟨i04, hi04, _, hsz4, _⟩ := info_parts info28
      have hroom4 : l0.length ≤ c0 := (Kd.V_reads' HO0.out).2.1
      have hC4 : Kd.F k28 _ _ A0 l0.length l0 := (Kd.V_at (base := w.heap.size) HO0.out).2.2
      have hcut4 := cut_to (P := Try.prog) 22 28 .i64 Try.underlying22 hi04 A0 l0.length c0 60 (by omega) q4 hroom4
      have hr4 := Kd.F_take (m := 60) hC4 (by omega)
      have hy4 : y101.length = (60 : Int).toNat := (by rw [Ny101.out, List.length_take]; omega)
      rw [← Ny101.out] at hr4
      rw [← hy4] at hcut4
      have HO105 := Aside0.mk (show Kd.V k28 28 _ w.heap.size _ (.slice A0 y101.length c0) y101 from Kd.V_mk (by omega) hr4)
      have HC105 := Aside0.mk (show y101.length ≤ c0 from by omega)
      clear hr4 hC4 hroom4 hi04 hsz4
      have KY4 := Aside0.mk hy4
      clear hy4
      replace q4 := eq_true q4
      go_enter Try.func8, Try.ntmps8
      go_wp2
      go_ret
      exact ⟨_, by first | rfl | (simp [errW_none, errW_some] <;> rfl) | (simp [*, errW_none, errW_some] <;> rfl) | (simp [wrap64]; done), by (with_reducible repeat (first | apply Kd.V_alloc | apply Kd.V_drewN | apply Kd.V_drew)); exact HO105.out, by repeat (first | (with_reducible first | exact HB.out | apply below_alloc | apply pw_below_drewN | apply below_drew1) | exact HB.out)⟩
    · rw [if_neg c3] at H
      exact absurd H (by simp)
  · rw [if_neg c2] at H
    have c2b0 : decide (60 < (l0.length : Int)) = false := decide_eq_false c2
    have c2b1 : decide (60 < l0.length) = false := decide_eq_false (by omega)
    clear c2
    obtain rfl := Option.some.inj H
    go_enter Try.func8, Try.ntmps8
    go_wp2
    go_ret
    exact ⟨_, by first | rfl | (simp [errW_none, errW_some] <;> rfl) | (simp [*, errW_none, errW_some] <;> rfl) | (simp [wrap64]; done), by (with_reducible repeat (first | apply Kd.V_alloc | apply Kd.V_drewN | apply Kd.V_drew)); exact HO0.out, by repeat (first | (with_reducible first | exact HB.out | apply below_alloc | apply pw_below_drewN | apply below_drew1) | exact HB.out)⟩

/-! ### decorumlaw22_AuditLess: function 6 -/
mutual
def decorumlaw22_AuditLess.l0 : Nat → List (S28) → Int → Int → Int → Int → Int → Option (Bool)
  | 0, _, _, _, _, _, _ => none
  | k + 1, x0, x1, x2, x3, x4, x11 => if x11 < (x0.length : Int) then (if 0 ≤ x11 then (if ((rd_T28 x0 x11).f1) < 0 then ((decorumlaw22_awake.f).bind fun t110 => (some t110)) else (if ((rd_T28 x0 x11).f1) > 1099511627776 then ((decorumlaw22_awake.f).bind fun t112 => (some t112)) else (decorumlaw22_AuditLess.l0 k x0 x1 x2 x3 x4 (wrap64 (x11 + 1))))) else (none)) else (if (wrap64 ((x0.length : Int) + 1)) = 0 then (none) else ((audit_Gaps.f x0 (wrap64 (x1))).bind fun t113 => (if t113 = true then (if 0 ≤ (Int.tmod (wrap64 (x4)) (wrap64 ((x0.length : Int) + 1))) then (if (Int.tmod (wrap64 (x4)) (wrap64 ((x0.length : Int) + 1))) ≤ (x0.length : Int) then ((audit_Gaps.f (x0.take ((Int.tmod (wrap64 (x4)) (wrap64 ((x0.length : Int) + 1))) : Int).toNat) (wrap64 (x1))).bind fun t119 => (if t119 = true then (if (wrap64 (x1)) > 0 then ((audit_Gaps.f x0 (wrap64 ((wrap64 (x1)) - 1))).bind fun t120 => (decorumlaw22_AuditLess.j1 k x0 (Int.tmod (wrap64 (x4)) (wrap64 ((x0.length : Int) + 1))) (wrap64 (x2)) (wrap64 (x3)) (!t120))) else (decorumlaw22_AuditLess.j1 k x0 (Int.tmod (wrap64 (x4)) (wrap64 ((x0.length : Int) + 1))) (wrap64 (x2)) (wrap64 (x3)) false)) else (decorumlaw22_AuditLess.j1 k x0 (Int.tmod (wrap64 (x4)) (wrap64 ((x0.length : Int) + 1))) (wrap64 (x2)) (wrap64 (x3)) true))) else (none)) else (none)) else (decorumlaw22_AuditLess.j1 k x0 (Int.tmod (wrap64 (x4)) (wrap64 ((x0.length : Int) + 1))) (wrap64 (x2)) (wrap64 (x3)) false))))
def decorumlaw22_AuditLess.j1 : Nat → List (S28) → Int → Int → Int → Bool → Option (Bool)
  | 0, _, _, _, _, _ => none
  | k + 1, x0, x12, x14, x15, x72 => if x72 = true then (some false) else ((audit_Once.f x0).bind fun t121 => (if t121 = true then (if 0 ≤ x12 then (if x12 ≤ (x0.length : Int) then ((audit_Once.f (x0.take (x12 : Int).toNat)).bind fun t127 => (decorumlaw22_AuditLess.j2 k x0 x12 x14 x15 (!t127))) else (none)) else (none)) else (decorumlaw22_AuditLess.j2 k x0 x12 x14 x15 false)))
def decorumlaw22_AuditLess.j2 : Nat → List (S28) → Int → Int → Int → Bool → Option (Bool)
  | 0, _, _, _, _, _ => none
  | k + 1, x0, x12, x14, x15, x81 => if x81 = true then (some false) else ((decorumlaw22_awake.f).bind fun t128 => (if t128 = true then ((audit_Rate.f k x0 x14 x15).bind fun t129 => (if t129 = true then (if 0 ≤ x12 then (if x12 ≤ (x0.length : Int) then ((audit_Rate.f k (x0.take (x12 : Int).toNat) x14 x15).bind fun t135 => (if t135 = true then ((audit_Rate.f k x0 x14 (wrap64 (x15 + 1))).bind fun t136 => (some t136)) else (some false))) else (none)) else (none)) else (some true))) else (some false)))
end
def decorumlaw22_AuditLess.f (k : Nat) (l0 : List (S28)) (a1 : Int) (a2 : Int) (a3 : Int) (a4 : Int) : Option (Bool) := (decorumlaw22_cut.f l0).bind fun t106 => (decorumlaw22_AuditLess.l0 k t106 a1 a2 a3 a4 0)
theorem decorumlaw22_AuditLess.mono_l : ∀ k, (∀ y0 y1 y2 y3 y4 y5, LeO (decorumlaw22_AuditLess.l0 k y0 y1 y2 y3 y4 y5) (decorumlaw22_AuditLess.l0 (k + 1) y0 y1 y2 y3 y4 y5)) ∧ (∀ y0 y1 y2 y3 y4, LeO (decorumlaw22_AuditLess.j1 k y0 y1 y2 y3 y4) (decorumlaw22_AuditLess.j1 (k + 1) y0 y1 y2 y3 y4)) ∧ (∀ y0 y1 y2 y3 y4, LeO (decorumlaw22_AuditLess.j2 k y0 y1 y2 y3 y4) (decorumlaw22_AuditLess.j2 (k + 1) y0 y1 y2 y3 y4))
  | 0 => ⟨fun _ _ _ _ _ _ r h => by simp [decorumlaw22_AuditLess.l0] at h, fun _ _ _ _ _ r h => by simp [decorumlaw22_AuditLess.j1] at h, fun _ _ _ _ _ r h => by simp [decorumlaw22_AuditLess.j2] at h⟩
  | k + 1 => by
    obtain ⟨ih0, ih1, ih2⟩ := decorumlaw22_AuditLess.mono_l k
    refine ⟨?_, ?_, ?_⟩
    · intro y0 y1 y2 y3 y4 y5
      unfold decorumlaw22_AuditLess.l0
      repeat' first
      | (with_reducible exact ih0 _ _ _ _ _ _)
      | (with_reducible exact ih1 _ _ _ _ _)
      | (with_reducible exact ih2 _ _ _ _ _)
      | (with_reducible exact audit_Rate.mono _ _ _ _)
      | (with_reducible exact LeO.refl _)
      | (with_reducible exact LeO.none _)
      | (with_reducible refine LeO.ite ?_ ?_)
      | (with_reducible refine LeO.bind ?_ (fun _ => ?_))
      | exact ih0 _ _ _ _ _ _
      | exact ih1 _ _ _ _ _
      | exact ih2 _ _ _ _ _
      | exact audit_Rate.mono _ _ _ _
      | exact LeO.none _
      | refine LeO.ite ?_ ?_
      | refine LeO.bind ?_ (fun _ => ?_)
    · intro y0 y1 y2 y3 y4
      unfold decorumlaw22_AuditLess.j1
      repeat' first
      | (with_reducible exact ih0 _ _ _ _ _ _)
      | (with_reducible exact ih1 _ _ _ _ _)
      | (with_reducible exact ih2 _ _ _ _ _)
      | (with_reducible exact audit_Rate.mono _ _ _ _)
      | (with_reducible exact LeO.refl _)
      | (with_reducible exact LeO.none _)
      | (with_reducible refine LeO.ite ?_ ?_)
      | (with_reducible refine LeO.bind ?_ (fun _ => ?_))
      | exact ih0 _ _ _ _ _ _
      | exact ih1 _ _ _ _ _
      | exact ih2 _ _ _ _ _
      | exact audit_Rate.mono _ _ _ _
      | exact LeO.none _
      | refine LeO.ite ?_ ?_
      | refine LeO.bind ?_ (fun _ => ?_)
    · intro y0 y1 y2 y3 y4
      unfold decorumlaw22_AuditLess.j2
      repeat' first
      | (with_reducible exact ih0 _ _ _ _ _ _)
      | (with_reducible exact ih1 _ _ _ _ _)
      | (with_reducible exact ih2 _ _ _ _ _)
      | (with_reducible exact audit_Rate.mono _ _ _ _)
      | (with_reducible exact LeO.refl _)
      | (with_reducible exact LeO.none _)
      | (with_reducible refine LeO.ite ?_ ?_)
      | (with_reducible refine LeO.bind ?_ (fun _ => ?_))
      | exact ih0 _ _ _ _ _ _
      | exact ih1 _ _ _ _ _
      | exact ih2 _ _ _ _ _
      | exact audit_Rate.mono _ _ _ _
      | exact LeO.none _
      | refine LeO.ite ?_ ?_
      | refine LeO.bind ?_ (fun _ => ?_)
theorem decorumlaw22_AuditLess.mono : ∀ a0 a1 a2 a3 a4 k, LeO (decorumlaw22_AuditLess.f k a0 a1 a2 a3 a4) (decorumlaw22_AuditLess.f (k + 1) a0 a1 a2 a3 a4) := by
  intro a0 a1 a2 a3 a4 k
  obtain ⟨ih0, ih1, ih2⟩ := decorumlaw22_AuditLess.mono_l k
  unfold decorumlaw22_AuditLess.f
  repeat' first
      | (with_reducible exact ih0 _ _ _ _ _ _)
      | (with_reducible exact ih1 _ _ _ _ _)
      | (with_reducible exact ih2 _ _ _ _ _)
      | (with_reducible exact audit_Rate.mono _ _ _ _)
      | (with_reducible exact LeO.refl _)
      | (with_reducible exact LeO.none _)
      | (with_reducible refine LeO.ite ?_ ?_)
      | (with_reducible refine LeO.bind ?_ (fun _ => ?_))
      | exact ih0 _ _ _ _ _ _
      | exact ih1 _ _ _ _ _
      | exact ih2 _ _ _ _ _
      | exact audit_Rate.mono _ _ _ _
      | exact LeO.none _
      | refine LeO.ite ?_ ?_
      | refine LeO.bind ?_ (fun _ => ?_)
set_option maxHeartbeats 8000000 in
set_option maxRecDepth 100000 in
theorem decorumlaw22_AuditLess.calls (k : Nat) (A0 : Option Addr) (c0 : Nat) (l0 : List (S28)) (a1 : Int) (a2 : Int) (a3 : Int) (a4 : Int) (r : Bool) (w : World) (hr0 : Kd.C k28 w A0 l0.length l0) (hc0 : l0.length ≤ c0) (hr_ : r = true) (h : decorumlaw22_AuditLess.f k l0 a1 a2 a3 a4 = some r) :
    Calls Try.prog 6 #[.slice A0 l0.length c0, .int .u16 a1, .int .u16 a2, .int .u16 a3, .int .u8 a4] w fun e w' => e = .returned (.bool r) ∧ Below w.heap.size w w' := by
  have HR_ := Aside0.mk (hr_)
  have HR0 := Aside0.mk hr0
  have HC0 := Aside0.mk hc0
  clear hr0 hc0
  have HB := Aside0.mk (Below.refl w.heap.size w)
  have H : ((decorumlaw22_cut.f l0).bind fun t106 => (decorumlaw22_AuditLess.l0 k t106 a1 a2 a3 a4 0)) = some r := h
  clear h
  replace H := Option.bind_eq_some_iff.mp H
  obtain ⟨t106, A60, H⟩ := H
  replace H : (decorumlaw22_AuditLess.l0 k t106 a1 a2 a3 a4 0) = some r := H
  have A6 := Aside0.mk A60
  clear A60
  have H' := Aside0.mk H
  clear H
  go_enter Try.func6, Try.ntmps6
  go_wp2_with (first | ((with_reducible refine gate_callee (f := 8) rfl ?_); refine goesL_ (some 17) rfl rfl Try.func8 (by kernel_rfl) rfl #[.slice A0 l0.length c0] rfl (by (try simp only [List.map_toArray, List.map_cons, List.map_nil]); first | done | rfl | (simp only [List.length_drop, List.length_take]; rfl)) ?_; (with_reducible refine (decorumlaw22_cut.calls (fun k_ => k_ < w.heap.size) _ _ l0 t106 _ ?side1 A6.out).mono ?_); (case side1 => exact Kd.V_mk HC0.out (Kd.F_below (Kd.C_F k28_heap HR0.out) (by repeat (first | (with_reducible first | exact HB.out | apply below_alloc | apply pw_below_drewN | apply below_drew1) | exact HB.out)))); rintro e w7 ⟨v107, rfl, ho0, hb⟩; refine ⟨_, rfl, ?_⟩; have n0_ := Aside0.mk (Kd.V_lower (Kd.V_mono (ok' := fun k_ => True) ho0 (fun k_ hk_ => trivial)) (below_size (by repeat (first | (with_reducible first | exact HB.out | apply below_alloc | apply pw_below_drewN | apply below_drew1) | exact HB.out)))); have n1_ := Aside0.mk (below_step (by repeat (first | (with_reducible first | exact HB.out | apply below_alloc | apply pw_below_drewN | apply below_drew1) | exact HB.out)) hb); clear HB; have HO108 := n0_; have HB := n1_; clear n0_ n1_; (try clear hb); (try clear hb2); (try clear hk); (try clear hi); (try clear ho0)))
  go_loopg [11] k (fun kq v11 w' => ∃ (x11_1 : Int), v11 = .int .i64 x11_1 ∧ Aside0 (decorumlaw22_AuditLess.l0 kq t106 a1 a2 a3 a4 x11_1 = some r) ∧ Aside0 (kq ≤ k) ∧ Aside0 (Kd.V k28 28 w' w.heap.size (fun _ => True) v107 t106) ∧ Aside0 (Below w.heap.size w w'))
  case atStart => exact ⟨(0), (by first | rfl | (simp; done) | (simp [*]; done)), H', ⟨Nat.le_refl _⟩, ⟨by (with_reducible repeat (first | apply Kd.V_alloc | apply Kd.V_drewN | apply Kd.V_drew)); exact HO108.out⟩, ⟨by repeat (first | (with_reducible first | exact HB.out | apply below_alloc | apply pw_below_drewN | apply below_drew1) | exact HB.out)⟩⟩
  case round =>
    clear H'
    try clear p2
    try clear c6
    obtain ⟨x11_1, rfl, HA, HK1, HO_0, HB⟩ := hrel
    cases gk with
    | zero => exact absurd HA.out (by simp [decorumlaw22_AuditLess.l0])
    | succ k1 =>
      have H := HA.out
      clear HA
      simp only [decorumlaw22_AuditLess.l0] at H
      by_cases c8 : x11_1 < (t106.length : Int)
      · rw [if_pos c8] at H
        have c8b0 : decide (x11_1 < (t106.length : Int)) = true := decide_eq_true c8
        clear c8
        by_cases c9 : 0 ≤ x11_1
        · rw [if_pos c9] at H
          have c9b0 : decide (0 ≤ x11_1) = true := decide_eq_true c9
          clear c9
          by_cases c10 : ((rd_T28 t106 x11_1).f1) < 0
          · rw [if_pos c10] at H
            have c10b0 : decide (((rd_T28 t106 x11_1).f1) < 0) = true := decide_eq_true c10
            clear c10
            replace H := Option.bind_eq_some_iff.mp H
            obtain ⟨t110, A110, H⟩ := H
            replace H : (some t110) = some r := H
            have A11 := Aside0.mk A110
            clear A110
            obtain rfl := Option.some.inj H
            obtain ⟨Ao12, co12, eo12⟩ := Kd.V_slice HO_0.out
            subst eo12
            have p109 : 0 ≤ (x11_1 : Int) := of_decide_eq_true (by first | (with_reducible assumption) | assumption)
            have q109 : x11_1 < (t106.length : Int) := of_decide_eq_true (by first | (with_reducible assumption) | assumption)
            obtain ⟨ad109, e109, hx109_0, hx109_1, hx109_2, hx109_3, hx109_4, hx109_5, hx109_6⟩ := at_T28 (Kd.V_reads' HO_0.out).2.2 x11_1 p109 q109
            cases e109
            replace p109 := eq_true p109
            replace q109 := eq_true q109
            go_wp2_with (first | ((with_reducible refine gate_callee (f := 12) rfl ?_); refine goesL_ (some 38) rfl rfl Try.func12 (by kernel_rfl) rfl #[] rfl (by (try simp only [List.map_toArray, List.map_cons, List.map_nil]); first | done | rfl | (simp only [List.length_drop, List.length_take]; rfl)) ?_; (with_reducible refine (decorumlaw22_awake.calls  t110 _ A11.out).mono ?_); rintro e w13 ⟨rfl, hb⟩; refine ⟨_, rfl, ?_⟩; have n0_ := Aside0.mk (Kd.V_below (by (with_reducible repeat (first | apply Kd.V_alloc | apply Kd.V_drewN | apply Kd.V_drew)); exact HO_0.out) hb); have n1_ := Aside0.mk (below_step (by repeat (first | (with_reducible first | exact HB.out | apply below_alloc | apply pw_below_drewN | apply below_drew1) | exact HB.out)) hb); clear HO_0; clear HB; have HO_0 := n0_; have HB := n1_; clear n0_ n1_; (try clear hb); (try clear hb2); (try clear hk); (try clear hi)))
            go_ret
            exact ⟨by first | rfl | (simp [errW_none, errW_some] <;> rfl) | (simp [*, errW_none, errW_some] <;> rfl) | (simp [wrap64]; done), by repeat (first | (with_reducible first | exact HB.out | apply below_alloc | apply pw_below_drewN | apply below_drew1) | exact HB.out)⟩
          · rw [if_neg c10] at H
            have c10b0 : decide (((rd_T28 t106 x11_1).f1) < 0) = false := decide_eq_false c10
            clear c10
            by_cases c14 : ((rd_T28 t106 x11_1).f1) > 1099511627776
            · rw [if_pos c14] at H
              have c14b0 : decide (1099511627776 < ((rd_T28 t106 x11_1).f1)) = true := decide_eq_true c14
              clear c14
              replace H := Option.bind_eq_some_iff.mp H
              obtain ⟨t112, A150, H⟩ := H
              replace H : (some t112) = some r := H
              have A15 := Aside0.mk A150
              clear A150
              obtain rfl := Option.some.inj H
              obtain ⟨Ao16, co16, eo16⟩ := Kd.V_slice HO_0.out
              subst eo16
              have p109 : 0 ≤ (x11_1 : Int) := of_decide_eq_true (by first | (with_reducible assumption) | assumption)
              have q109 : x11_1 < (t106.length : Int) := of_decide_eq_true (by first | (with_reducible assumption) | assumption)
              obtain ⟨ad109, e109, hx109_0, hx109_1, hx109_2, hx109_3, hx109_4, hx109_5, hx109_6⟩ := at_T28 (Kd.V_reads' HO_0.out).2.2 x11_1 p109 q109
              cases e109
              replace p109 := eq_true p109
              replace q109 := eq_true q109
              have p111 : 0 ≤ (x11_1 : Int) := of_decide_eq_true (by first | (with_reducible assumption) | assumption)
              have q111 : x11_1 < (t106.length : Int) := of_decide_eq_true (by first | (with_reducible assumption) | assumption)
              obtain ⟨ad111, e111, hx111_0, hx111_1, hx111_2, hx111_3, hx111_4, hx111_5, hx111_6⟩ := at_T28 (Kd.V_reads' HO_0.out).2.2 x11_1 p111 q111
              obtain rfl : ad109 = ad111 := (by injection e111)
              replace p111 := eq_true p111
              replace q111 := eq_true q111
              go_wp2_with (first | ((with_reducible refine gate_callee (f := 12) rfl ?_); refine goesL_ (some 38) rfl rfl Try.func12 (by kernel_rfl) rfl #[] rfl (by (try simp only [List.map_toArray, List.map_cons, List.map_nil]); first | done | rfl | (simp only [List.length_drop, List.length_take]; rfl)) ?_; (with_reducible refine (decorumlaw22_awake.calls  t112 _ A15.out).mono ?_); rintro e w17 ⟨rfl, hb⟩; refine ⟨_, rfl, ?_⟩; have n0_ := Aside0.mk (Kd.V_below (by (with_reducible repeat (first | apply Kd.V_alloc | apply Kd.V_drewN | apply Kd.V_drew)); exact HO_0.out) hb); have n1_ := Aside0.mk (below_step (by repeat (first | (with_reducible first | exact HB.out | apply below_alloc | apply pw_below_drewN | apply below_drew1) | exact HB.out)) hb); clear HO_0; clear HB; have HO_0 := n0_; have HB := n1_; clear n0_ n1_; (try clear hb); (try clear hb2); (try clear hk); (try clear hi)))
              go_ret
              exact ⟨by first | rfl | (simp [errW_none, errW_some] <;> rfl) | (simp [*, errW_none, errW_some] <;> rfl) | (simp [wrap64]; done), by repeat (first | (with_reducible first | exact HB.out | apply below_alloc | apply pw_below_drewN | apply below_drew1) | exact HB.out)⟩
            · rw [if_neg c14] at H
              have c14b0 : decide (1099511627776 < ((rd_T28 t106 x11_1).f1)) = false := decide_eq_false c14
              clear c14
              have H' := Aside0.mk H
              clear H
              obtain ⟨Ao18, co18, eo18⟩ := Kd.V_slice HO_0.out
              subst eo18
              have p109 : 0 ≤ (x11_1 : Int) := of_decide_eq_true (by first | (with_reducible assumption) | assumption)
              have q109 : x11_1 < (t106.length : Int) := of_decide_eq_true (by first | (with_reducible assumption) | assumption)
              obtain ⟨ad109, e109, hx109_0, hx109_1, hx109_2, hx109_3, hx109_4, hx109_5, hx109_6⟩ := at_T28 (Kd.V_reads' HO_0.out).2.2 x11_1 p109 q109
              cases e109
              replace p109 := eq_true p109
              replace q109 := eq_true q109
              have p111 : 0 ≤ (x11_1 : Int) := of_decide_eq_true (by first | (with_reducible assumption) | assumption)
              have q111 : x11_1 < (t106.length : Int) := of_decide_eq_true (by first | (with_reducible assumption) | assumption)
              obtain ⟨ad111, e111, hx111_0, hx111_1, hx111_2, hx111_3, hx111_4, hx111_5, hx111_6⟩ := at_T28 (Kd.V_reads' HO_0.out).2.2 x11_1 p111 q111
              obtain rfl : ad109 = ad111 := (by injection e111)
              replace p111 := eq_true p111
              replace q111 := eq_true q111
              go_wp2
              go_roundg k1
              case measure => have := HK1.out; omega
              case rel => exact ⟨(wrap64 (x11_1 + 1)), (by first | rfl | (simp; done) | (simp [*]; done)), H', ⟨by have := HK1.out; omega⟩, ⟨by (with_reducible repeat (first | apply Kd.V_alloc | apply Kd.V_drewN | apply Kd.V_drew)); exact HO_0.out⟩, ⟨by repeat (first | (with_reducible first | exact HB.out | apply below_alloc | apply pw_below_drewN | apply below_drew1) | exact HB.out)⟩⟩
        · rw [if_neg c9] at H
          exact absurd H (by simp)
      · rw [if_neg c8] at H
        have c8b0 : decide (x11_1 < (t106.length : Int)) = false := decide_eq_false c8
        clear c8
        by_cases c19 : (wrap64 ((t106.length : Int) + 1)) = 0
        · rw [if_pos c19] at H
          exact absurd H (by simp)
        · rw [if_neg c19] at H
          have c19b0 : ((wrap64 ((t106.length : Int) + 1)) == 0) = false := beq_eq_false_iff_ne.mpr c19
          have c19b1 : ((wrap64 ((t106.length : Int) + 1)) != 0) = true := bne_iff_ne.mpr c19
          have HC20 := Aside0.mk H
          clear H
          obtain ⟨Ao21, co21, eo21⟩ := Kd.V_slice HO_0.out
          subst eo21
          go_upto_region 9 with (fail)
          go_cut [72] (fun v72 wc => ∃ (kq : Nat) (x72_19 : Bool), v72 = .bool x72_19 ∧ Aside0 (decorumlaw22_AuditLess.j1 kq t106 (Int.tmod (wrap64 (a4)) (wrap64 ((t106.length : Int) + 1))) (wrap64 (a2)) (wrap64 (a3)) x72_19 = some r) ∧ Aside0 (kq ≤ k1) ∧ Aside0 (Kd.V k28 28 wc w.heap.size (fun _ => True) (.slice Ao21 t106.length co21) t106) ∧ Aside0 (Below w.heap.size w wc))
          case first =>
            have H := HC20.out
            clear HC20
            replace H := Option.bind_eq_some_iff.mp H
            obtain ⟨t113, A220, H⟩ := H
            replace H : (if t113 = true then (if 0 ≤ (Int.tmod (wrap64 (a4)) (wrap64 ((t106.length : Int) + 1))) then (if (Int.tmod (wrap64 (a4)) (wrap64 ((t106.length : Int) + 1))) ≤ (t106.length : Int) then ((audit_Gaps.f (t106.take ((Int.tmod (wrap64 (a4)) (wrap64 ((t106.length : Int) + 1))) : Int).toNat) (wrap64 (a1))).bind fun t119 => (if t119 = true then (if (wrap64 (a1)) > 0 then ((audit_Gaps.f t106 (wrap64 ((wrap64 (a1)) - 1))).bind fun t120 => (decorumlaw22_AuditLess.j1 k1 t106 (Int.tmod (wrap64 (a4)) (wrap64 ((t106.length : Int) + 1))) (wrap64 (a2)) (wrap64 (a3)) (!t120))) else (decorumlaw22_AuditLess.j1 k1 t106 (Int.tmod (wrap64 (a4)) (wrap64 ((t106.length : Int) + 1))) (wrap64 (a2)) (wrap64 (a3)) false)) else (decorumlaw22_AuditLess.j1 k1 t106 (Int.tmod (wrap64 (a4)) (wrap64 ((t106.length : Int) + 1))) (wrap64 (a2)) (wrap64 (a3)) true))) else (none)) else (none)) else (decorumlaw22_AuditLess.j1 k1 t106 (Int.tmod (wrap64 (a4)) (wrap64 ((t106.length : Int) + 1))) (wrap64 (a2)) (wrap64 (a3)) false)) = some r := H
            have A22 := Aside0.mk A220
            clear A220
            by_cases c23 : t113 = true
            · subst c23
              have H1 : (if 0 ≤ (Int.tmod (wrap64 (a4)) (wrap64 ((t106.length : Int) + 1))) then (if (Int.tmod (wrap64 (a4)) (wrap64 ((t106.length : Int) + 1))) ≤ (t106.length : Int) then ((audit_Gaps.f (t106.take ((Int.tmod (wrap64 (a4)) (wrap64 ((t106.length : Int) + 1))) : Int).toNat) (wrap64 (a1))).bind fun t119 => (if t119 = true then (if (wrap64 (a1)) > 0 then ((audit_Gaps.f t106 (wrap64 ((wrap64 (a1)) - 1))).bind fun t120 => (decorumlaw22_AuditLess.j1 k1 t106 (Int.tmod (wrap64 (a4)) (wrap64 ((t106.length : Int) + 1))) (wrap64 (a2)) (wrap64 (a3)) (!t120))) else (decorumlaw22_AuditLess.j1 k1 t106 (Int.tmod (wrap64 (a4)) (wrap64 ((t106.length : Int) + 1))) (wrap64 (a2)) (wrap64 (a3)) false)) else (decorumlaw22_AuditLess.j1 k1 t106 (Int.tmod (wrap64 (a4)) (wrap64 ((t106.length : Int) + 1))) (wrap64 (a2)) (wrap64 (a3)) true))) else (none)) else (none)) = some r := by rw [if_pos rfl] at H; exact H
              clear H
              have H := H1
              clear H1
              obtain ⟨ji24, hji24⟩ : ∃ j_ : Int, (Int.tmod (wrap64 (a4)) (wrap64 ((t106.length : Int) + 1))) = j_ := ⟨_, rfl⟩
              replace H : (if 0 ≤ (ji24) then (if (ji24) ≤ (t106.length : Int) then ((audit_Gaps.f (t106.take ((ji24) : Int).toNat) (wrap64 (a1))).bind fun t119 => (if t119 = true then (if (wrap64 (a1)) > 0 then ((audit_Gaps.f t106 (wrap64 ((wrap64 (a1)) - 1))).bind fun t120 => (decorumlaw22_AuditLess.j1 k1 t106 ji24 (wrap64 (a2)) (wrap64 (a3)) (!t120))) else (decorumlaw22_AuditLess.j1 k1 t106 ji24 (wrap64 (a2)) (wrap64 (a3)) false)) else (decorumlaw22_AuditLess.j1 k1 t106 ji24 (wrap64 (a2)) (wrap64 (a3)) true))) else (none)) else (none)) = some r := by first | (rw [hji24] at H; exact H) | (simp only [hji24] at H ⊢; exact H)
              (try rw [hji24] at A22)
              by_cases c25 : 0 ≤ (ji24)
              · rw [if_pos c25] at H
                have c25b0 := eq_true c25
                have c25b1 : decide (0 ≤ (ji24)) = true := decide_eq_true c25
                clear c25
                by_cases c26 : (ji24) ≤ (t106.length : Int)
                · rw [if_pos c26] at H
                  have c26b0 := eq_true c26
                  have c26b1 : decide ((ji24) ≤ (t106.length : Int)) = true := decide_eq_true c26
                  clear c26
                  obtain ⟨y114, hy114⟩ : ∃ y_ : List (S28), y_ = (t106.take ((ji24) : Int).toNat) := ⟨_, rfl⟩
                  replace H : ((audit_Gaps.f y114 (wrap64 (a1))).bind fun t119 => (if t119 = true then (if (wrap64 (a1)) > 0 then ((audit_Gaps.f t106 (wrap64 ((wrap64 (a1)) - 1))).bind fun t120 => (decorumlaw22_AuditLess.j1 k1 t106 ji24 (wrap64 (a2)) (wrap64 (a3)) (!t120))) else (decorumlaw22_AuditLess.j1 k1 t106 ji24 (wrap64 (a2)) (wrap64 (a3)) false)) else (decorumlaw22_AuditLess.j1 k1 t106 ji24 (wrap64 (a2)) (wrap64 (a3)) true))) = some r := by first | (rw [hy114]; with_reducible exact H) | (have H2_ := (Option.bind_some _ _).symm.trans H; rw [hy114]; with_reducible exact H2_) | (have H2_ := (Option.bind_some _ _).symm.trans H; with_reducible exact H2_) | with_reducible exact H | (rw [hy114]; exact H) | exact H
                  have Ny114 := Aside0.mk hy114
                  clear hy114
                  replace H := Option.bind_eq_some_iff.mp H
                  obtain ⟨t119, A270, H⟩ := H
                  replace H : (if t119 = true then (if (wrap64 (a1)) > 0 then ((audit_Gaps.f t106 (wrap64 ((wrap64 (a1)) - 1))).bind fun t120 => (decorumlaw22_AuditLess.j1 k1 t106 ji24 (wrap64 (a2)) (wrap64 (a3)) (!t120))) else (decorumlaw22_AuditLess.j1 k1 t106 ji24 (wrap64 (a2)) (wrap64 (a3)) false)) else (decorumlaw22_AuditLess.j1 k1 t106 ji24 (wrap64 (a2)) (wrap64 (a3)) true)) = some r := H
                  have A27 := Aside0.mk A270
                  clear A270
                  by_cases c28 : t119 = true
                  · subst c28
                    have H1 : (if (wrap64 (a1)) > 0 then ((audit_Gaps.f t106 (wrap64 ((wrap64 (a1)) - 1))).bind fun t120 => (decorumlaw22_AuditLess.j1 k1 t106 ji24 (wrap64 (a2)) (wrap64 (a3)) (!t120))) else (decorumlaw22_AuditLess.j1 k1 t106 ji24 (wrap64 (a2)) (wrap64 (a3)) false)) = some r := by rw [if_pos rfl] at H; exact H
                    clear H
                    have H := H1
                    clear H1
                    by_cases c29 : (wrap64 (a1)) > 0
                    · rw [if_pos c29] at H
                      have c29b0 : decide (0 < (wrap64 (a1))) = true := decide_eq_true c29
                      clear c29
                      (first | rw [c29b0] | (simp only [i64_w, i32_w]; rw [c29b0]) | skip)
                      replace H := Option.bind_eq_some_iff.mp H
                      obtain ⟨t120, A300, H⟩ := H
                      replace H : (decorumlaw22_AuditLess.j1 k1 t106 ji24 (wrap64 (a2)) (wrap64 (a3)) (!t120)) = some r := H
                      have A30 := Aside0.mk A300
                      clear A300
                      have H' := Aside0.mk H
                      clear H
                      go_wp2_with (first | ((with_reducible refine gate_callee (f := 13) rfl ?_); refine goesL_ (some 53) rfl rfl Try.func13 (by kernel_rfl) rfl #[.slice Ao21 t106.length co21, .int .i64 (wrap64 (a1))] rfl (by (try simp only [List.map_toArray, List.map_cons, List.map_nil]); first | done | rfl | (simp only [List.length_drop, List.length_take]; rfl)) ?_; (with_reducible refine (audit_Gaps.calls _ _ t106 (wrap64 (a1)) true _ ?side1 ?side2 A22.out).mono ?_); (case side1 => repeat (first | exact (Kd.V_reads' HO_0.out).2.2 | (with_reducible refine Kd.C_alloc ?_ _) | (with_reducible refine Kd.C_drewN ?_ _) | (with_reducible refine Kd.C_drew ?_))); (case side2 => exact (Kd.V_reads' HO_0.out).2.1); rintro e w31 ⟨rfl, hb⟩; refine ⟨_, rfl, ?_⟩; have n0_ := Aside0.mk (Kd.V_below (by (with_reducible repeat (first | apply Kd.V_alloc | apply Kd.V_drewN | apply Kd.V_drew)); exact HO_0.out) hb); have n1_ := Aside0.mk (below_step (by repeat (first | (with_reducible first | exact HB.out | apply below_alloc | apply pw_below_drewN | apply below_drew1) | exact HB.out)) hb); clear HO_0; clear HB; have HO_0 := n0_; have HB := n1_; clear n0_ n1_; (try clear hb); (try clear hb2); (try clear hk); (try clear hi); have q32 : ((ji24) : Int) ≤ ((t106.length : Int) : Int) := of_decide_eq_true (by first | (with_reducible assumption) | assumption); obtain ⟨i032, hi032, _, hsz32, _⟩ := info_parts info28; have hroom32 : t106.length ≤ co21 := (Kd.V_reads' HO_0.out).2.1; have hC32 : Kd.F k28 _ _ Ao21 t106.length t106 := (Kd.V_at (base := w.heap.size) HO_0.out).2.2; have hcut32 := cut_to (P := Try.prog) 22 28 .i64 Try.underlying22 hi032 Ao21 t106.length co21 (ji24) (of_decide_eq_true (by first | (with_reducible assumption) | assumption)) q32 hroom32; have hr32 := Kd.F_take (m := ((ji24) : Int).toNat) hC32 (by omega); have hy32 : y114.length = ((ji24) : Int).toNat := (by rw [Ny114.out, List.length_take]; omega); rw [← Ny114.out] at hr32; rw [← hy32] at hcut32; have HO118 := Aside0.mk (show Kd.V k28 28 _ w.heap.size _ (.slice Ao21 y114.length co21) y114 from Kd.V_mk (by omega) hr32); have HC118 := Aside0.mk (show y114.length ≤ co21 from by omega); clear hr32 hC32 hroom32 hi032 hsz32; have KY32 := Aside0.mk hy32; clear hy32; replace q32 := eq_true q32) | (go_at_call 13; (with_reducible refine (audit_Gaps.calls _ _ y114 (wrap64 (a1)) true _ ?side1 ?side2 A27.out).mono ?_); (case side1 => repeat (first | exact (Kd.V_reads' HO118.out).2.2 | (with_reducible refine Kd.C_alloc ?_ _) | (with_reducible refine Kd.C_drewN ?_ _) | (with_reducible refine Kd.C_drew ?_))); (case side2 => exact (Kd.V_reads' HO118.out).2.1); rintro e w33 ⟨rfl, hb⟩; have n0_ := Aside0.mk (Kd.V_below (by (with_reducible repeat (first | apply Kd.V_alloc | apply Kd.V_drewN | apply Kd.V_drew)); exact HO_0.out) hb); have n1_ := Aside0.mk (Kd.V_below (by (with_reducible repeat (first | apply Kd.V_alloc | apply Kd.V_drewN | apply Kd.V_drew)); exact HO118.out) hb); have n2_ := Aside0.mk (below_step (by repeat (first | (with_reducible first | exact HB.out | apply below_alloc | apply pw_below_drewN | apply below_drew1) | exact HB.out)) hb); clear HO_0; clear HO118; clear HB; have HO_0 := n0_; have HO118 := n1_; have HB := n2_; clear n0_ n1_ n2_; (try clear hb); (try clear hb2); (try clear hk); (try clear hi)) | (go_at_call 13; (with_reducible refine (audit_Gaps.calls _ _ t106 (wrap64 ((wrap64 (a1)) - 1)) t120 _ ?side1 ?side2 A30.out).mono ?_); (case side1 => repeat (first | exact (Kd.V_reads' HO_0.out).2.2 | (with_reducible refine Kd.C_alloc ?_ _) | (with_reducible refine Kd.C_drewN ?_ _) | (with_reducible refine Kd.C_drew ?_))); (case side2 => exact (Kd.V_reads' HO_0.out).2.1); rintro e w34 ⟨rfl, hb⟩; have n0_ := Aside0.mk (Kd.V_below (by (with_reducible repeat (first | apply Kd.V_alloc | apply Kd.V_drewN | apply Kd.V_drew)); exact HO_0.out) hb); have n1_ := Aside0.mk (Kd.V_below (by (with_reducible repeat (first | apply Kd.V_alloc | apply Kd.V_drewN | apply Kd.V_drew)); exact HO118.out) hb); have n2_ := Aside0.mk (below_step (by repeat (first | (with_reducible first | exact HB.out | apply below_alloc | apply pw_below_drewN | apply below_drew1) | exact HB.out)) hb); clear HO_0; clear HO118; clear HB; have HO_0 := n0_; have HO118 := n1_; have HB := n2_; clear n0_ n1_ n2_; (try clear hb); (try clear hb2); (try clear hk); (try clear hi)))
                      (try subst hji24); (try subst hji46); (try subst hji59)
                      go_meet
                      case rel => exact ⟨_, (!t120), (by first | rfl | (simp; done) | (simp [*]; done)), H', ⟨by have := HK1.out; first | omega | exact Nat.le_refl _⟩, ⟨by (with_reducible repeat (first | apply Kd.V_alloc | apply Kd.V_drewN | apply Kd.V_drew)); exact HO_0.out⟩, ⟨by repeat (first | (with_reducible first | exact HB.out | apply below_alloc | apply pw_below_drewN | apply below_drew1) | exact HB.out)⟩⟩
                    · rw [if_neg c29] at H
                      have c29b0 : decide (0 < (wrap64 (a1))) = false := decide_eq_false c29
                      clear c29
                      (first | rw [c29b0] | (simp only [i64_w, i32_w]; rw [c29b0]) | skip)
                      have H' := Aside0.mk H
                      clear H
                      go_wp2_with (first | ((with_reducible refine gate_callee (f := 13) rfl ?_); refine goesL_ (some 53) rfl rfl Try.func13 (by kernel_rfl) rfl #[.slice Ao21 t106.length co21, .int .i64 (wrap64 (a1))] rfl (by (try simp only [List.map_toArray, List.map_cons, List.map_nil]); first | done | rfl | (simp only [List.length_drop, List.length_take]; rfl)) ?_; (with_reducible refine (audit_Gaps.calls _ _ t106 (wrap64 (a1)) true _ ?side1 ?side2 A22.out).mono ?_); (case side1 => repeat (first | exact (Kd.V_reads' HO_0.out).2.2 | (with_reducible refine Kd.C_alloc ?_ _) | (with_reducible refine Kd.C_drewN ?_ _) | (with_reducible refine Kd.C_drew ?_))); (case side2 => exact (Kd.V_reads' HO_0.out).2.1); rintro e w35 ⟨rfl, hb⟩; refine ⟨_, rfl, ?_⟩; have n0_ := Aside0.mk (Kd.V_below (by (with_reducible repeat (first | apply Kd.V_alloc | apply Kd.V_drewN | apply Kd.V_drew)); exact HO_0.out) hb); have n1_ := Aside0.mk (below_step (by repeat (first | (with_reducible first | exact HB.out | apply below_alloc | apply pw_below_drewN | apply below_drew1) | exact HB.out)) hb); clear HO_0; clear HB; have HO_0 := n0_; have HB := n1_; clear n0_ n1_; (try clear hb); (try clear hb2); (try clear hk); (try clear hi); have q36 : ((ji24) : Int) ≤ ((t106.length : Int) : Int) := of_decide_eq_true (by first | (with_reducible assumption) | assumption); obtain ⟨i036, hi036, _, hsz36, _⟩ := info_parts info28; have hroom36 : t106.length ≤ co21 := (Kd.V_reads' HO_0.out).2.1; have hC36 : Kd.F k28 _ _ Ao21 t106.length t106 := (Kd.V_at (base := w.heap.size) HO_0.out).2.2; have hcut36 := cut_to (P := Try.prog) 22 28 .i64 Try.underlying22 hi036 Ao21 t106.length co21 (ji24) (of_decide_eq_true (by first | (with_reducible assumption) | assumption)) q36 hroom36; have hr36 := Kd.F_take (m := ((ji24) : Int).toNat) hC36 (by omega); have hy36 : y114.length = ((ji24) : Int).toNat := (by rw [Ny114.out, List.length_take]; omega); rw [← Ny114.out] at hr36; rw [← hy36] at hcut36; have HO118 := Aside0.mk (show Kd.V k28 28 _ w.heap.size _ (.slice Ao21 y114.length co21) y114 from Kd.V_mk (by omega) hr36); have HC118 := Aside0.mk (show y114.length ≤ co21 from by omega); clear hr36 hC36 hroom36 hi036 hsz36; have KY36 := Aside0.mk hy36; clear hy36; replace q36 := eq_true q36) | (go_at_call 13; (with_reducible refine (audit_Gaps.calls _ _ y114 (wrap64 (a1)) true _ ?side1 ?side2 A27.out).mono ?_); (case side1 => repeat (first | exact (Kd.V_reads' HO118.out).2.2 | (with_reducible refine Kd.C_alloc ?_ _) | (with_reducible refine Kd.C_drewN ?_ _) | (with_reducible refine Kd.C_drew ?_))); (case side2 => exact (Kd.V_reads' HO118.out).2.1); rintro e w37 ⟨rfl, hb⟩; have n0_ := Aside0.mk (Kd.V_below (by (with_reducible repeat (first | apply Kd.V_alloc | apply Kd.V_drewN | apply Kd.V_drew)); exact HO_0.out) hb); have n1_ := Aside0.mk (Kd.V_below (by (with_reducible repeat (first | apply Kd.V_alloc | apply Kd.V_drewN | apply Kd.V_drew)); exact HO118.out) hb); have n2_ := Aside0.mk (below_step (by repeat (first | (with_reducible first | exact HB.out | apply below_alloc | apply pw_below_drewN | apply below_drew1) | exact HB.out)) hb); clear HO_0; clear HO118; clear HB; have HO_0 := n0_; have HO118 := n1_; have HB := n2_; clear n0_ n1_ n2_; (try clear hb); (try clear hb2); (try clear hk); (try clear hi)))
                      (try subst hji24); (try subst hji46); (try subst hji59)
                      go_meet
                      case rel => exact ⟨_, (false), (by first | rfl | (simp; done) | (simp [*]; done)), H', ⟨by have := HK1.out; first | omega | exact Nat.le_refl _⟩, ⟨by (with_reducible repeat (first | apply Kd.V_alloc | apply Kd.V_drewN | apply Kd.V_drew)); exact HO_0.out⟩, ⟨by repeat (first | (with_reducible first | exact HB.out | apply below_alloc | apply pw_below_drewN | apply below_drew1) | exact HB.out)⟩⟩
                  · replace c28 := Bool.eq_false_iff.mpr c28
                    subst c28
                    have H1 : (decorumlaw22_AuditLess.j1 k1 t106 ji24 (wrap64 (a2)) (wrap64 (a3)) true) = some r := by rw [if_neg (show ¬ (false = true) by decide)] at H; exact H
                    clear H
                    have H := H1
                    clear H1
                    have H' := Aside0.mk H
                    clear H
                    go_wp2_with (first | ((with_reducible refine gate_callee (f := 13) rfl ?_); refine goesL_ (some 53) rfl rfl Try.func13 (by kernel_rfl) rfl #[.slice Ao21 t106.length co21, .int .i64 (wrap64 (a1))] rfl (by (try simp only [List.map_toArray, List.map_cons, List.map_nil]); first | done | rfl | (simp only [List.length_drop, List.length_take]; rfl)) ?_; (with_reducible refine (audit_Gaps.calls _ _ t106 (wrap64 (a1)) true _ ?side1 ?side2 A22.out).mono ?_); (case side1 => repeat (first | exact (Kd.V_reads' HO_0.out).2.2 | (with_reducible refine Kd.C_alloc ?_ _) | (with_reducible refine Kd.C_drewN ?_ _) | (with_reducible refine Kd.C_drew ?_))); (case side2 => exact (Kd.V_reads' HO_0.out).2.1); rintro e w38 ⟨rfl, hb⟩; refine ⟨_, rfl, ?_⟩; have n0_ := Aside0.mk (Kd.V_below (by (with_reducible repeat (first | apply Kd.V_alloc | apply Kd.V_drewN | apply Kd.V_drew)); exact HO_0.out) hb); have n1_ := Aside0.mk (below_step (by repeat (first | (with_reducible first | exact HB.out | apply below_alloc | apply pw_below_drewN | apply below_drew1) | exact HB.out)) hb); clear HO_0; clear HB; have HO_0 := n0_; have HB := n1_; clear n0_ n1_; (try clear hb); (try clear hb2); (try clear hk); (try clear hi); have q39 : ((ji24) : Int) ≤ ((t106.length : Int) : Int) := of_decide_eq_true (by first | (with_reducible assumption) | assumption); obtain ⟨i039, hi039, _, hsz39, _⟩ := info_parts info28; have hroom39 : t106.length ≤ co21 := (Kd.V_reads' HO_0.out).2.1; have hC39 : Kd.F k28 _ _ Ao21 t106.length t106 := (Kd.V_at (base := w.heap.size) HO_0.out).2.2; have hcut39 := cut_to (P := Try.prog) 22 28 .i64 Try.underlying22 hi039 Ao21 t106.length co21 (ji24) (of_decide_eq_true (by first | (with_reducible assumption) | assumption)) q39 hroom39; have hr39 := Kd.F_take (m := ((ji24) : Int).toNat) hC39 (by omega); have hy39 : y114.length = ((ji24) : Int).toNat := (by rw [Ny114.out, List.length_take]; omega); rw [← Ny114.out] at hr39; rw [← hy39] at hcut39; have HO118 := Aside0.mk (show Kd.V k28 28 _ w.heap.size _ (.slice Ao21 y114.length co21) y114 from Kd.V_mk (by omega) hr39); have HC118 := Aside0.mk (show y114.length ≤ co21 from by omega); clear hr39 hC39 hroom39 hi039 hsz39; have KY39 := Aside0.mk hy39; clear hy39; replace q39 := eq_true q39) | (go_at_call 13; (with_reducible refine (audit_Gaps.calls _ _ y114 (wrap64 (a1)) false _ ?side1 ?side2 A27.out).mono ?_); (case side1 => repeat (first | exact (Kd.V_reads' HO118.out).2.2 | (with_reducible refine Kd.C_alloc ?_ _) | (with_reducible refine Kd.C_drewN ?_ _) | (with_reducible refine Kd.C_drew ?_))); (case side2 => exact (Kd.V_reads' HO118.out).2.1); rintro e w40 ⟨rfl, hb⟩; have n0_ := Aside0.mk (Kd.V_below (by (with_reducible repeat (first | apply Kd.V_alloc | apply Kd.V_drewN | apply Kd.V_drew)); exact HO_0.out) hb); have n1_ := Aside0.mk (Kd.V_below (by (with_reducible repeat (first | apply Kd.V_alloc | apply Kd.V_drewN | apply Kd.V_drew)); exact HO118.out) hb); have n2_ := Aside0.mk (below_step (by repeat (first | (with_reducible first | exact HB.out | apply below_alloc | apply pw_below_drewN | apply below_drew1) | exact HB.out)) hb); clear HO_0; clear HO118; clear HB; have HO_0 := n0_; have HO118 := n1_; have HB := n2_; clear n0_ n1_ n2_; (try clear hb); (try clear hb2); (try clear hk); (try clear hi)))
                    (try subst hji24); (try subst hji46); (try subst hji59)
                    go_meet
                    case rel => exact ⟨_, (true), (by first | rfl | (simp; done) | (simp [*]; done)), H', ⟨by have := HK1.out; first | omega | exact Nat.le_refl _⟩, ⟨by (with_reducible repeat (first | apply Kd.V_alloc | apply Kd.V_drewN | apply Kd.V_drew)); exact HO_0.out⟩, ⟨by repeat (first | (with_reducible first | exact HB.out | apply below_alloc | apply pw_below_drewN | apply below_drew1) | exact HB.out)⟩⟩
                · rw [if_neg c26] at H
                  exact absurd H (by simp)
              · rw [if_neg c25] at H
                exact absurd H (by simp)
            · replace c23 := Bool.eq_false_iff.mpr c23
              subst c23
              have H1 : (decorumlaw22_AuditLess.j1 k1 t106 (Int.tmod (wrap64 (a4)) (wrap64 ((t106.length : Int) + 1))) (wrap64 (a2)) (wrap64 (a3)) false) = some r := by rw [if_neg (show ¬ (false = true) by decide)] at H; exact H
              clear H
              have H := H1
              clear H1
              have H' := Aside0.mk H
              clear H
              go_wp2_with (first | ((with_reducible refine gate_callee (f := 13) rfl ?_); refine goesL_ (some 53) rfl rfl Try.func13 (by kernel_rfl) rfl #[.slice Ao21 t106.length co21, .int .i64 (wrap64 (a1))] rfl (by (try simp only [List.map_toArray, List.map_cons, List.map_nil]); first | done | rfl | (simp only [List.length_drop, List.length_take]; rfl)) ?_; (with_reducible refine (audit_Gaps.calls _ _ t106 (wrap64 (a1)) false _ ?side1 ?side2 A22.out).mono ?_); (case side1 => repeat (first | exact (Kd.V_reads' HO_0.out).2.2 | (with_reducible refine Kd.C_alloc ?_ _) | (with_reducible refine Kd.C_drewN ?_ _) | (with_reducible refine Kd.C_drew ?_))); (case side2 => exact (Kd.V_reads' HO_0.out).2.1); rintro e w41 ⟨rfl, hb⟩; refine ⟨_, rfl, ?_⟩; have n0_ := Aside0.mk (Kd.V_below (by (with_reducible repeat (first | apply Kd.V_alloc | apply Kd.V_drewN | apply Kd.V_drew)); exact HO_0.out) hb); have n1_ := Aside0.mk (below_step (by repeat (first | (with_reducible first | exact HB.out | apply below_alloc | apply pw_below_drewN | apply below_drew1) | exact HB.out)) hb); clear HO_0; clear HB; have HO_0 := n0_; have HB := n1_; clear n0_ n1_; (try clear hb); (try clear hb2); (try clear hk); (try clear hi)))
              (try subst hji24); (try subst hji46); (try subst hji59)
              go_meet
              case rel => exact ⟨_, (false), (by first | rfl | (simp; done) | (simp [*]; done)), H', ⟨by have := HK1.out; first | omega | exact Nat.le_refl _⟩, ⟨by (with_reducible repeat (first | apply Kd.V_alloc | apply Kd.V_drewN | apply Kd.V_drew)); exact HO_0.out⟩, ⟨by repeat (first | (with_reducible first | exact HB.out | apply below_alloc | apply pw_below_drewN | apply below_drew1) | exact HB.out)⟩⟩
          case rest =>
            clear HC20
            try clear c1
            try clear p1
            try clear q1
            try clear hx1
            try clear c2
            try clear p2
            try clear q3
            try clear c6
            try clear p6
            try clear c8
            try clear c8b0
            try clear c9
            try clear c9b0
            try clear c10
            try clear c10b0
            try clear p10
            try clear q10
            try clear hx10
            try clear p11
            try clear q11
            try clear hx11
            try clear c12
            try clear c13
            try clear c14
            try clear c14b0
            try clear c19
            try clear c19b0
            try clear c19b1
            try clear c23
            try clear c25
            try clear c25b0
            try clear c25b1
            try clear c26
            try clear c26b0
            try clear c26b1
            try clear c28
            try clear c29
            try clear c29b0
            try clear q32
            try clear q36
            try clear q39
            try clear hx109_0
            try clear hx109_1
            try clear hx109_2
            try clear hx109_3
            try clear hx109_4
            try clear hx109_5
            try clear hx109_6
            try clear hx111_0
            try clear hx111_1
            try clear hx111_2
            try clear hx111_3
            try clear hx111_4
            try clear hx111_5
            try clear hx111_6
            try clear p109
            try clear p111
            try clear p2
            try clear q109
            try clear q111
            try clear q32
            try clear q36
            try clear q39
            obtain ⟨kq, x72_19, rfl, HA, HJ19, HO_0, HB⟩ := hcut
            cases kq with
            | zero => exact absurd HA.out (by simp [decorumlaw22_AuditLess.j1])
            | succ kj19 =>
              have H := HA.out
              clear HA
              simp only [decorumlaw22_AuditLess.j1] at H
              by_cases c42 : x72_19 = true
              · subst c42
                have H1 : (some false) = some r := by rw [if_pos rfl] at H; exact H
                clear H
                have H := H1
                clear H1
                exact absurd ((Option.some.inj H).trans HR_.out) (by decide)
              · replace c42 := Bool.eq_false_iff.mpr c42
                subst c42
                have H1 : ((audit_Once.f t106).bind fun t121 => (if t121 = true then (if 0 ≤ (Int.tmod (wrap64 (a4)) (wrap64 ((t106.length : Int) + 1))) then (if (Int.tmod (wrap64 (a4)) (wrap64 ((t106.length : Int) + 1))) ≤ (t106.length : Int) then ((audit_Once.f (t106.take ((Int.tmod (wrap64 (a4)) (wrap64 ((t106.length : Int) + 1))) : Int).toNat)).bind fun t127 => (decorumlaw22_AuditLess.j2 kj19 t106 (Int.tmod (wrap64 (a4)) (wrap64 ((t106.length : Int) + 1))) (wrap64 (a2)) (wrap64 (a3)) (!t127))) else (none)) else (none)) else (decorumlaw22_AuditLess.j2 kj19 t106 (Int.tmod (wrap64 (a4)) (wrap64 ((t106.length : Int) + 1))) (wrap64 (a2)) (wrap64 (a3)) false))) = some r := by rw [if_neg (show ¬ (false = true) by decide)] at H; exact H
                clear H
                have H := H1
                clear H1
                have HC43 := Aside0.mk H
                clear H
                go_upto_region 11 with (fail)
                go_cut [81] (fun v81 wc => ∃ (kq : Nat) (x81_42 : Bool), v81 = .bool x81_42 ∧ Aside0 (decorumlaw22_AuditLess.j2 kq t106 (Int.tmod (wrap64 (a4)) (wrap64 ((t106.length : Int) + 1))) (wrap64 (a2)) (wrap64 (a3)) x81_42 = some r) ∧ Aside0 (kq ≤ kj19) ∧ Aside0 (Kd.V k28 28 wc w.heap.size (fun _ => True) (.slice Ao21 t106.length co21) t106) ∧ Aside0 (Below w.heap.size w wc))
                case first =>
                  have H := HC43.out
                  clear HC43
                  replace H := Option.bind_eq_some_iff.mp H
                  obtain ⟨t121, A440, H⟩ := H
                  replace H : (if t121 = true then (if 0 ≤ (Int.tmod (wrap64 (a4)) (wrap64 ((t106.length : Int) + 1))) then (if (Int.tmod (wrap64 (a4)) (wrap64 ((t106.length : Int) + 1))) ≤ (t106.length : Int) then ((audit_Once.f (t106.take ((Int.tmod (wrap64 (a4)) (wrap64 ((t106.length : Int) + 1))) : Int).toNat)).bind fun t127 => (decorumlaw22_AuditLess.j2 kj19 t106 (Int.tmod (wrap64 (a4)) (wrap64 ((t106.length : Int) + 1))) (wrap64 (a2)) (wrap64 (a3)) (!t127))) else (none)) else (none)) else (decorumlaw22_AuditLess.j2 kj19 t106 (Int.tmod (wrap64 (a4)) (wrap64 ((t106.length : Int) + 1))) (wrap64 (a2)) (wrap64 (a3)) false)) = some r := H
                  have A44 := Aside0.mk A440
                  clear A440
                  by_cases c45 : t121 = true
                  · subst c45
                    have H1 : (if 0 ≤ (Int.tmod (wrap64 (a4)) (wrap64 ((t106.length : Int) + 1))) then (if (Int.tmod (wrap64 (a4)) (wrap64 ((t106.length : Int) + 1))) ≤ (t106.length : Int) then ((audit_Once.f (t106.take ((Int.tmod (wrap64 (a4)) (wrap64 ((t106.length : Int) + 1))) : Int).toNat)).bind fun t127 => (decorumlaw22_AuditLess.j2 kj19 t106 (Int.tmod (wrap64 (a4)) (wrap64 ((t106.length : Int) + 1))) (wrap64 (a2)) (wrap64 (a3)) (!t127))) else (none)) else (none)) = some r := by rw [if_pos rfl] at H; exact H
                    clear H
                    have H := H1
                    clear H1
                    obtain ⟨ji46, hji46⟩ : ∃ j_ : Int, (Int.tmod (wrap64 (a4)) (wrap64 ((t106.length : Int) + 1))) = j_ := ⟨_, rfl⟩
                    replace H : (if 0 ≤ (ji46) then (if (ji46) ≤ (t106.length : Int) then ((audit_Once.f (t106.take ((ji46) : Int).toNat)).bind fun t127 => (decorumlaw22_AuditLess.j2 kj19 t106 (ji46) (wrap64 (a2)) (wrap64 (a3)) (!t127))) else (none)) else (none)) = some r := by first | (rw [hji46] at H; exact H) | (simp only [hji46] at H ⊢; exact H)
                    (try rw [hji46] at A44)
                    by_cases c47 : 0 ≤ (ji46)
                    · rw [if_pos c47] at H
                      have c47b0 := eq_true c47
                      have c47b1 : decide (0 ≤ (ji46)) = true := decide_eq_true c47
                      clear c47
                      by_cases c48 : (ji46) ≤ (t106.length : Int)
                      · rw [if_pos c48] at H
                        have c48b0 := eq_true c48
                        have c48b1 : decide ((ji46) ≤ (t106.length : Int)) = true := decide_eq_true c48
                        clear c48
                        obtain ⟨y122, hy122⟩ : ∃ y_ : List (S28), y_ = (t106.take ((ji46) : Int).toNat) := ⟨_, rfl⟩
                        replace H : ((audit_Once.f y122).bind fun t127 => (decorumlaw22_AuditLess.j2 kj19 t106 (ji46) (wrap64 (a2)) (wrap64 (a3)) (!t127))) = some r := by first | (rw [hy122]; with_reducible exact H) | (have H2_ := (Option.bind_some _ _).symm.trans H; rw [hy122]; with_reducible exact H2_) | (have H2_ := (Option.bind_some _ _).symm.trans H; with_reducible exact H2_) | with_reducible exact H | (rw [hy122]; exact H) | exact H
                        have Ny122 := Aside0.mk hy122
                        clear hy122
                        replace H := Option.bind_eq_some_iff.mp H
                        obtain ⟨t127, A490, H⟩ := H
                        replace H : (decorumlaw22_AuditLess.j2 kj19 t106 (ji46) (wrap64 (a2)) (wrap64 (a3)) (!t127)) = some r := H
                        have A49 := Aside0.mk A490
                        clear A490
                        have H' := Aside0.mk H
                        clear H
                        go_wp2_with (first | ((with_reducible refine gate_callee (f := 17) rfl ?_); refine goesL_ (some 74) rfl rfl Try.func17 (by kernel_rfl) rfl #[.slice Ao21 t106.length co21] rfl (by (try simp only [List.map_toArray, List.map_cons, List.map_nil]); first | done | rfl | (simp only [List.length_drop, List.length_take]; rfl)) ?_; (with_reducible refine (audit_Once.calls _ _ t106 true _ ?side1 ?side2 A44.out).mono ?_); (case side1 => repeat (first | exact (Kd.V_reads' HO_0.out).2.2 | (with_reducible refine Kd.C_alloc ?_ _) | (with_reducible refine Kd.C_drewN ?_ _) | (with_reducible refine Kd.C_drew ?_))); (case side2 => exact (Kd.V_reads' HO_0.out).2.1); rintro e w50 ⟨rfl, hb⟩; refine ⟨_, rfl, ?_⟩; have n0_ := Aside0.mk (Kd.V_below (by (with_reducible repeat (first | apply Kd.V_alloc | apply Kd.V_drewN | apply Kd.V_drew)); exact HO_0.out) hb); have n1_ := Aside0.mk (below_step (by repeat (first | (with_reducible first | exact HB.out | apply below_alloc | apply pw_below_drewN | apply below_drew1) | exact HB.out)) hb); clear HO_0; clear HB; have HO_0 := n0_; have HB := n1_; clear n0_ n1_; (try clear hb); (try clear hb2); (try clear hk); (try clear hi); have q51 : ((ji46) : Int) ≤ ((t106.length : Int) : Int) := of_decide_eq_true (by first | (with_reducible assumption) | assumption); obtain ⟨i051, hi051, _, hsz51, _⟩ := info_parts info28; have hroom51 : t106.length ≤ co21 := (Kd.V_reads' HO_0.out).2.1; have hC51 : Kd.F k28 _ _ Ao21 t106.length t106 := (Kd.V_at (base := w.heap.size) HO_0.out).2.2; have hcut51 := cut_to (P := Try.prog) 22 28 .i64 Try.underlying22 hi051 Ao21 t106.length co21 (ji46) (of_decide_eq_true (by first | (with_reducible assumption) | assumption)) q51 hroom51; have hr51 := Kd.F_take (m := ((ji46) : Int).toNat) hC51 (by omega); have hy51 : y122.length = ((ji46) : Int).toNat := (by rw [Ny122.out, List.length_take]; omega); rw [← Ny122.out] at hr51; rw [← hy51] at hcut51; have HO126 := Aside0.mk (show Kd.V k28 28 _ w.heap.size _ (.slice Ao21 y122.length co21) y122 from Kd.V_mk (by omega) hr51); have HC126 := Aside0.mk (show y122.length ≤ co21 from by omega); clear hr51 hC51 hroom51 hi051 hsz51; have KY51 := Aside0.mk hy51; clear hy51; replace q51 := eq_true q51) | (go_at_call 17; (with_reducible refine (audit_Once.calls _ _ y122 t127 _ ?side1 ?side2 A49.out).mono ?_); (case side1 => repeat (first | exact (Kd.V_reads' HO126.out).2.2 | (with_reducible refine Kd.C_alloc ?_ _) | (with_reducible refine Kd.C_drewN ?_ _) | (with_reducible refine Kd.C_drew ?_))); (case side2 => exact (Kd.V_reads' HO126.out).2.1); rintro e w52 ⟨rfl, hb⟩; have n0_ := Aside0.mk (Kd.V_below (by (with_reducible repeat (first | apply Kd.V_alloc | apply Kd.V_drewN | apply Kd.V_drew)); exact HO_0.out) hb); have n1_ := Aside0.mk (Kd.V_below (by (with_reducible repeat (first | apply Kd.V_alloc | apply Kd.V_drewN | apply Kd.V_drew)); exact HO126.out) hb); have n2_ := Aside0.mk (below_step (by repeat (first | (with_reducible first | exact HB.out | apply below_alloc | apply pw_below_drewN | apply below_drew1) | exact HB.out)) hb); clear HO_0; clear HO126; clear HB; have HO_0 := n0_; have HO126 := n1_; have HB := n2_; clear n0_ n1_ n2_; (try clear hb); (try clear hb2); (try clear hk); (try clear hi)))
                        (try subst hji24); (try subst hji46); (try subst hji59)
                        go_meet
                        case rel => exact ⟨_, (!t127), (by first | rfl | (simp; done) | (simp [*]; done)), H', ⟨by have := HK1.out; have := HJ19.out; first | omega | exact Nat.le_refl _⟩, ⟨by (with_reducible repeat (first | apply Kd.V_alloc | apply Kd.V_drewN | apply Kd.V_drew)); exact HO_0.out⟩, ⟨by repeat (first | (with_reducible first | exact HB.out | apply below_alloc | apply pw_below_drewN | apply below_drew1) | exact HB.out)⟩⟩
                      · rw [if_neg c48] at H
                        exact absurd H (by simp)
                    · rw [if_neg c47] at H
                      exact absurd H (by simp)
                  · replace c45 := Bool.eq_false_iff.mpr c45
                    subst c45
                    have H1 : (decorumlaw22_AuditLess.j2 kj19 t106 (Int.tmod (wrap64 (a4)) (wrap64 ((t106.length : Int) + 1))) (wrap64 (a2)) (wrap64 (a3)) false) = some r := by rw [if_neg (show ¬ (false = true) by decide)] at H; exact H
                    clear H
                    have H := H1
                    clear H1
                    have H' := Aside0.mk H
                    clear H
                    go_wp2_with (first | ((with_reducible refine gate_callee (f := 17) rfl ?_); refine goesL_ (some 74) rfl rfl Try.func17 (by kernel_rfl) rfl #[.slice Ao21 t106.length co21] rfl (by (try simp only [List.map_toArray, List.map_cons, List.map_nil]); first | done | rfl | (simp only [List.length_drop, List.length_take]; rfl)) ?_; (with_reducible refine (audit_Once.calls _ _ t106 false _ ?side1 ?side2 A44.out).mono ?_); (case side1 => repeat (first | exact (Kd.V_reads' HO_0.out).2.2 | (with_reducible refine Kd.C_alloc ?_ _) | (with_reducible refine Kd.C_drewN ?_ _) | (with_reducible refine Kd.C_drew ?_))); (case side2 => exact (Kd.V_reads' HO_0.out).2.1); rintro e w53 ⟨rfl, hb⟩; refine ⟨_, rfl, ?_⟩; have n0_ := Aside0.mk (Kd.V_below (by (with_reducible repeat (first | apply Kd.V_alloc | apply Kd.V_drewN | apply Kd.V_drew)); exact HO_0.out) hb); have n1_ := Aside0.mk (below_step (by repeat (first | (with_reducible first | exact HB.out | apply below_alloc | apply pw_below_drewN | apply below_drew1) | exact HB.out)) hb); clear HO_0; clear HB; have HO_0 := n0_; have HB := n1_; clear n0_ n1_; (try clear hb); (try clear hb2); (try clear hk); (try clear hi)))
                    (try subst hji24); (try subst hji46); (try subst hji59)
                    go_meet
                    case rel => exact ⟨_, (false), (by first | rfl | (simp; done) | (simp [*]; done)), H', ⟨by have := HK1.out; have := HJ19.out; first | omega | exact Nat.le_refl _⟩, ⟨by (with_reducible repeat (first | apply Kd.V_alloc | apply Kd.V_drewN | apply Kd.V_drew)); exact HO_0.out⟩, ⟨by repeat (first | (with_reducible first | exact HB.out | apply below_alloc | apply pw_below_drewN | apply below_drew1) | exact HB.out)⟩⟩
                case rest =>
                  clear HC43
                  try clear c1
                  try clear p1
                  try clear q1
                  try clear hx1
                  try clear c2
                  try clear p2
                  try clear q3
                  try clear c4
                  try clear q5
                  try clear c6
                  try clear p6
                  try clear c8
                  try clear c8b0
                  try clear c9
                  try clear c9b0
                  try clear c10
                  try clear c10b0
                  try clear p10
                  try clear q10
                  try clear hx10
                  try clear p11
                  try clear q11
                  try clear hx11
                  try clear c12
                  try clear c13
                  try clear c14
                  try clear c14b0
                  try clear c17
                  try clear c19
                  try clear c19b0
                  try clear c19b1
                  try clear c23
                  try clear c25
                  try clear c25b0
                  try clear c25b1
                  try clear c26
                  try clear c26b0
                  try clear c26b1
                  try clear c28
                  try clear c29
                  try clear c29b0
                  try clear q32
                  try clear q36
                  try clear q39
                  try clear c42
                  try clear c45
                  try clear c47
                  try clear c47b0
                  try clear c47b1
                  try clear c48
                  try clear c48b0
                  try clear c48b1
                  try clear q51
                  try clear hx109_0
                  try clear hx109_1
                  try clear hx109_2
                  try clear hx109_3
                  try clear hx109_4
                  try clear hx109_5
                  try clear hx109_6
                  try clear hx111_0
                  try clear hx111_1
                  try clear hx111_2
                  try clear hx111_3
                  try clear hx111_4
                  try clear hx111_5
                  try clear hx111_6
                  try clear p1
                  try clear p10
                  try clear p109
                  try clear p11
                  try clear p111
                  try clear p2
                  try clear p6
                  try clear q1
                  try clear q10
                  try clear q109
                  try clear q11
                  try clear q111
                  try clear q3
                  try clear q32
                  try clear q36
                  try clear q39
                  try clear q51
                  obtain ⟨kq, x81_42, rfl, HA, HJ42, HO_0, HB⟩ := hcut
                  cases kq with
                  | zero => exact absurd HA.out (by simp [decorumlaw22_AuditLess.j2])
                  | succ kj42 =>
                    have H := HA.out
                    clear HA
                    simp only [decorumlaw22_AuditLess.j2] at H
                    by_cases c54 : x81_42 = true
                    · subst c54
                      have H1 : (some false) = some r := by rw [if_pos rfl] at H; exact H
                      clear H
                      have H := H1
                      clear H1
                      exact absurd ((Option.some.inj H).trans HR_.out) (by decide)
                    · replace c54 := Bool.eq_false_iff.mpr c54
                      subst c54
                      have H1 : ((decorumlaw22_awake.f).bind fun t128 => (if t128 = true then ((audit_Rate.f kj42 t106 (wrap64 (a2)) (wrap64 (a3))).bind fun t129 => (if t129 = true then (if 0 ≤ (Int.tmod (wrap64 (a4)) (wrap64 ((t106.length : Int) + 1))) then (if (Int.tmod (wrap64 (a4)) (wrap64 ((t106.length : Int) + 1))) ≤ (t106.length : Int) then ((audit_Rate.f kj42 (t106.take ((Int.tmod (wrap64 (a4)) (wrap64 ((t106.length : Int) + 1))) : Int).toNat) (wrap64 (a2)) (wrap64 (a3))).bind fun t135 => (if t135 = true then ((audit_Rate.f kj42 t106 (wrap64 (a2)) (wrap64 ((wrap64 (a3)) + 1))).bind fun t136 => (some t136)) else (some false))) else (none)) else (none)) else (some true))) else (some false))) = some r := by rw [if_neg (show ¬ (false = true) by decide)] at H; exact H
                      clear H
                      have H := H1
                      clear H1
                      replace H := Option.bind_eq_some_iff.mp H
                      obtain ⟨t128, A550, H⟩ := H
                      replace H : (if t128 = true then ((audit_Rate.f kj42 t106 (wrap64 (a2)) (wrap64 (a3))).bind fun t129 => (if t129 = true then (if 0 ≤ (Int.tmod (wrap64 (a4)) (wrap64 ((t106.length : Int) + 1))) then (if (Int.tmod (wrap64 (a4)) (wrap64 ((t106.length : Int) + 1))) ≤ (t106.length : Int) then ((audit_Rate.f kj42 (t106.take ((Int.tmod (wrap64 (a4)) (wrap64 ((t106.length : Int) + 1))) : Int).toNat) (wrap64 (a2)) (wrap64 (a3))).bind fun t135 => (if t135 = true then ((audit_Rate.f kj42 t106 (wrap64 (a2)) (wrap64 ((wrap64 (a3)) + 1))).bind fun t136 => (some t136)) else (some false))) else (none)) else (none)) else (some true))) else (some false)) = some r := H
                      have A55 := Aside0.mk A550
                      clear A550
                      by_cases c56 : t128 = true
                      · subst c56
                        have H1 : ((audit_Rate.f kj42 t106 (wrap64 (a2)) (wrap64 (a3))).bind fun t129 => (if t129 = true then (if 0 ≤ (Int.tmod (wrap64 (a4)) (wrap64 ((t106.length : Int) + 1))) then (if (Int.tmod (wrap64 (a4)) (wrap64 ((t106.length : Int) + 1))) ≤ (t106.length : Int) then ((audit_Rate.f kj42 (t106.take ((Int.tmod (wrap64 (a4)) (wrap64 ((t106.length : Int) + 1))) : Int).toNat) (wrap64 (a2)) (wrap64 (a3))).bind fun t135 => (if t135 = true then ((audit_Rate.f kj42 t106 (wrap64 (a2)) (wrap64 ((wrap64 (a3)) + 1))).bind fun t136 => (some t136)) else (some false))) else (none)) else (none)) else (some true))) = some r := by rw [if_pos rfl] at H; exact H
                        clear H
                        have H := H1
                        clear H1
                        replace H := Option.bind_eq_some_iff.mp H
                        obtain ⟨t129, A570, H⟩ := H
                        replace H : (if t129 = true then (if 0 ≤ (Int.tmod (wrap64 (a4)) (wrap64 ((t106.length : Int) + 1))) then (if (Int.tmod (wrap64 (a4)) (wrap64 ((t106.length : Int) + 1))) ≤ (t106.length : Int) then ((audit_Rate.f kj42 (t106.take ((Int.tmod (wrap64 (a4)) (wrap64 ((t106.length : Int) + 1))) : Int).toNat) (wrap64 (a2)) (wrap64 (a3))).bind fun t135 => (if t135 = true then ((audit_Rate.f kj42 t106 (wrap64 (a2)) (wrap64 ((wrap64 (a3)) + 1))).bind fun t136 => (some t136)) else (some false))) else (none)) else (none)) else (some true)) = some r := H
                        have A57 := Aside0.mk A570
                        clear A570
                        by_cases c58 : t129 = true
                        · subst c58
                          have H1 : (if 0 ≤ (Int.tmod (wrap64 (a4)) (wrap64 ((t106.length : Int) + 1))) then (if (Int.tmod (wrap64 (a4)) (wrap64 ((t106.length : Int) + 1))) ≤ (t106.length : Int) then ((audit_Rate.f kj42 (t106.take ((Int.tmod (wrap64 (a4)) (wrap64 ((t106.length : Int) + 1))) : Int).toNat) (wrap64 (a2)) (wrap64 (a3))).bind fun t135 => (if t135 = true then ((audit_Rate.f kj42 t106 (wrap64 (a2)) (wrap64 ((wrap64 (a3)) + 1))).bind fun t136 => (some t136)) else (some false))) else (none)) else (none)) = some r := by rw [if_pos rfl] at H; exact H
                          clear H
                          have H := H1
                          clear H1
                          obtain ⟨ji59, hji59⟩ : ∃ j_ : Int, (Int.tmod (wrap64 (a4)) (wrap64 ((t106.length : Int) + 1))) = j_ := ⟨_, rfl⟩
                          replace H : (if 0 ≤ (ji59) then (if (ji59) ≤ (t106.length : Int) then ((audit_Rate.f kj42 (t106.take ((ji59) : Int).toNat) (wrap64 (a2)) (wrap64 (a3))).bind fun t135 => (if t135 = true then ((audit_Rate.f kj42 t106 (wrap64 (a2)) (wrap64 ((wrap64 (a3)) + 1))).bind fun t136 => (some t136)) else (some false))) else (none)) else (none)) = some r := by first | (rw [hji59] at H; exact H) | (simp only [hji59] at H ⊢; exact H)
                          (try rw [hji59] at A55)
                          (try rw [hji59] at A57)
                          by_cases c60 : 0 ≤ (ji59)
                          · rw [if_pos c60] at H
                            have c60b0 := eq_true c60
                            have c60b1 : decide (0 ≤ (ji59)) = true := decide_eq_true c60
                            clear c60
                            by_cases c61 : (ji59) ≤ (t106.length : Int)
                            · rw [if_pos c61] at H
                              have c61b0 := eq_true c61
                              have c61b1 : decide ((ji59) ≤ (t106.length : Int)) = true := decide_eq_true c61
                              clear c61
                              obtain ⟨y130, hy130⟩ : ∃ y_ : List (S28), y_ = (t106.take ((ji59) : Int).toNat) := ⟨_, rfl⟩
                              replace H : ((audit_Rate.f kj42 y130 (wrap64 (a2)) (wrap64 (a3))).bind fun t135 => (if t135 = true then ((audit_Rate.f kj42 t106 (wrap64 (a2)) (wrap64 ((wrap64 (a3)) + 1))).bind fun t136 => (some t136)) else (some false))) = some r := by first | (rw [hy130]; with_reducible exact H) | (have H2_ := (Option.bind_some _ _).symm.trans H; rw [hy130]; with_reducible exact H2_) | (have H2_ := (Option.bind_some _ _).symm.trans H; with_reducible exact H2_) | with_reducible exact H | (rw [hy130]; exact H) | exact H
                              have Ny130 := Aside0.mk hy130
                              clear hy130
                              replace H := Option.bind_eq_some_iff.mp H
                              obtain ⟨t135, A620, H⟩ := H
                              replace H : (if t135 = true then ((audit_Rate.f kj42 t106 (wrap64 (a2)) (wrap64 ((wrap64 (a3)) + 1))).bind fun t136 => (some t136)) else (some false)) = some r := H
                              have A62 := Aside0.mk A620
                              clear A620
                              by_cases c63 : t135 = true
                              · subst c63
                                have H1 : ((audit_Rate.f kj42 t106 (wrap64 (a2)) (wrap64 ((wrap64 (a3)) + 1))).bind fun t136 => (some t136)) = some r := by rw [if_pos rfl] at H; exact H
                                clear H
                                have H := H1
                                clear H1
                                replace H := Option.bind_eq_some_iff.mp H
                                obtain ⟨t136, A640, H⟩ := H
                                replace H : (some t136) = some r := H
                                have A64 := Aside0.mk A640
                                clear A640
                                obtain rfl := Option.some.inj H
                                go_wp2_with (first | ((with_reducible refine gate_callee (f := 12) rfl ?_); refine goesL_ (some 82) rfl rfl Try.func12 (by kernel_rfl) rfl #[] rfl (by (try simp only [List.map_toArray, List.map_cons, List.map_nil]); first | done | rfl | (simp only [List.length_drop, List.length_take]; rfl)) ?_; (with_reducible refine (decorumlaw22_awake.calls  true _ A55.out).mono ?_); rintro e w65 ⟨rfl, hb⟩; refine ⟨_, rfl, ?_⟩; have n0_ := Aside0.mk (Kd.V_below (by (with_reducible repeat (first | apply Kd.V_alloc | apply Kd.V_drewN | apply Kd.V_drew)); exact HO_0.out) hb); have n1_ := Aside0.mk (below_step (by repeat (first | (with_reducible first | exact HB.out | apply below_alloc | apply pw_below_drewN | apply below_drew1) | exact HB.out)) hb); clear HO_0; clear HB; have HO_0 := n0_; have HB := n1_; clear n0_ n1_; (try clear hb); (try clear hb2); (try clear hk); (try clear hi)) | (go_at_call 15; (with_reducible refine (audit_Rate.calls kj42 _ _ t106 (wrap64 (a2)) (wrap64 (a3)) true _ ?side1 ?side2 A57.out).mono ?_); (case side1 => repeat (first | exact (Kd.V_reads' HO_0.out).2.2 | (with_reducible refine Kd.C_alloc ?_ _) | (with_reducible refine Kd.C_drewN ?_ _) | (with_reducible refine Kd.C_drew ?_))); (case side2 => exact (Kd.V_reads' HO_0.out).2.1); rintro e w66 ⟨rfl, hb⟩; have n0_ := Aside0.mk (Kd.V_below (by (with_reducible repeat (first | apply Kd.V_alloc | apply Kd.V_drewN | apply Kd.V_drew)); exact HO_0.out) hb); have n1_ := Aside0.mk (below_step (by repeat (first | (with_reducible first | exact HB.out | apply below_alloc | apply pw_below_drewN | apply below_drew1) | exact HB.out)) hb); clear HO_0; clear HB; have HO_0 := n0_; have HB := n1_; clear n0_ n1_; (try clear hb); (try clear hb2); (try clear hk); (try clear hi); have q67 : ((ji59) : Int) ≤ ((t106.length : Int) : Int) := of_decide_eq_true (by first | (with_reducible assumption) | assumption); obtain ⟨i067, hi067, _, hsz67, _⟩ := info_parts info28; have hroom67 : t106.length ≤ co21 := (Kd.V_reads' HO_0.out).2.1; have hC67 : Kd.F k28 _ _ Ao21 t106.length t106 := (Kd.V_at (base := w.heap.size) HO_0.out).2.2; have hcut67 := cut_to (P := Try.prog) 22 28 .i64 Try.underlying22 hi067 Ao21 t106.length co21 (ji59) (of_decide_eq_true (by first | (with_reducible assumption) | assumption)) q67 hroom67; have hr67 := Kd.F_take (m := ((ji59) : Int).toNat) hC67 (by omega); have hy67 : y130.length = ((ji59) : Int).toNat := (by rw [Ny130.out, List.length_take]; omega); rw [← Ny130.out] at hr67; rw [← hy67] at hcut67; have HO134 := Aside0.mk (show Kd.V k28 28 _ w.heap.size _ (.slice Ao21 y130.length co21) y130 from Kd.V_mk (by omega) hr67); have HC134 := Aside0.mk (show y130.length ≤ co21 from by omega); clear hr67 hC67 hroom67 hi067 hsz67; have KY67 := Aside0.mk hy67; clear hy67; replace q67 := eq_true q67) | (go_at_call 15; (with_reducible refine (audit_Rate.calls kj42 _ _ y130 (wrap64 (a2)) (wrap64 (a3)) true _ ?side1 ?side2 A62.out).mono ?_); (case side1 => repeat (first | exact (Kd.V_reads' HO134.out).2.2 | (with_reducible refine Kd.C_alloc ?_ _) | (with_reducible refine Kd.C_drewN ?_ _) | (with_reducible refine Kd.C_drew ?_))); (case side2 => exact (Kd.V_reads' HO134.out).2.1); rintro e w68 ⟨rfl, hb⟩; have n0_ := Aside0.mk (Kd.V_below (by (with_reducible repeat (first | apply Kd.V_alloc | apply Kd.V_drewN | apply Kd.V_drew)); exact HO_0.out) hb); have n1_ := Aside0.mk (Kd.V_below (by (with_reducible repeat (first | apply Kd.V_alloc | apply Kd.V_drewN | apply Kd.V_drew)); exact HO134.out) hb); have n2_ := Aside0.mk (below_step (by repeat (first | (with_reducible first | exact HB.out | apply below_alloc | apply pw_below_drewN | apply below_drew1) | exact HB.out)) hb); clear HO_0; clear HO134; clear HB; have HO_0 := n0_; have HO134 := n1_; have HB := n2_; clear n0_ n1_ n2_; (try clear hb); (try clear hb2); (try clear hk); (try clear hi)) | (go_at_call 15; (with_reducible refine (audit_Rate.calls kj42 _ _ t106 (wrap64 (a2)) (wrap64 ((wrap64 (a3)) + 1)) t136 _ ?side1 ?side2 A64.out).mono ?_); (case side1 => repeat (first | exact (Kd.V_reads' HO_0.out).2.2 | (with_reducible refine Kd.C_alloc ?_ _) | (with_reducible refine Kd.C_drewN ?_ _) | (with_reducible refine Kd.C_drew ?_))); (case side2 => exact (Kd.V_reads' HO_0.out).2.1); rintro e w69 ⟨rfl, hb⟩; have n0_ := Aside0.mk (Kd.V_below (by (with_reducible repeat (first | apply Kd.V_alloc | apply Kd.V_drewN | apply Kd.V_drew)); exact HO_0.out) hb); have n1_ := Aside0.mk (Kd.V_below (by (with_reducible repeat (first | apply Kd.V_alloc | apply Kd.V_drewN | apply Kd.V_drew)); exact HO134.out) hb); have n2_ := Aside0.mk (below_step (by repeat (first | (with_reducible first | exact HB.out | apply below_alloc | apply pw_below_drewN | apply below_drew1) | exact HB.out)) hb); clear HO_0; clear HO134; clear HB; have HO_0 := n0_; have HO134 := n1_; have HB := n2_; clear n0_ n1_ n2_; (try clear hb); (try clear hb2); (try clear hk); (try clear hi)))
                                go_ret
                                exact ⟨by first | rfl | (simp [errW_none, errW_some] <;> rfl) | (simp only [← hji59]; first | rfl | (simp [errW_none, errW_some] <;> rfl)) | (simp [*, errW_none, errW_some] <;> rfl) | (simp [wrap64]; done), by repeat (first | (with_reducible first | exact HB.out | apply below_alloc | apply pw_below_drewN | apply below_drew1) | exact HB.out)⟩
                              · replace c63 := Bool.eq_false_iff.mpr c63
                                subst c63
                                have H1 : (some false) = some r := by rw [if_neg (show ¬ (false = true) by decide)] at H; exact H
                                clear H
                                have H := H1
                                clear H1
                                exact absurd ((Option.some.inj H).trans HR_.out) (by decide)
                            · rw [if_neg c61] at H
                              exact absurd H (by simp)
                          · rw [if_neg c60] at H
                            exact absurd H (by simp)
                        · replace c58 := Bool.eq_false_iff.mpr c58
                          subst c58
                          have H1 : (some true) = some r := by rw [if_neg (show ¬ (false = true) by decide)] at H; exact H
                          clear H
                          have H := H1
                          clear H1
                          obtain rfl := Option.some.inj H
                          go_wp2_with (first | ((with_reducible refine gate_callee (f := 12) rfl ?_); refine goesL_ (some 82) rfl rfl Try.func12 (by kernel_rfl) rfl #[] rfl (by (try simp only [List.map_toArray, List.map_cons, List.map_nil]); first | done | rfl | (simp only [List.length_drop, List.length_take]; rfl)) ?_; (with_reducible refine (decorumlaw22_awake.calls  true _ A55.out).mono ?_); rintro e w70 ⟨rfl, hb⟩; refine ⟨_, rfl, ?_⟩; have n0_ := Aside0.mk (Kd.V_below (by (with_reducible repeat (first | apply Kd.V_alloc | apply Kd.V_drewN | apply Kd.V_drew)); exact HO_0.out) hb); have n1_ := Aside0.mk (below_step (by repeat (first | (with_reducible first | exact HB.out | apply below_alloc | apply pw_below_drewN | apply below_drew1) | exact HB.out)) hb); clear HO_0; clear HB; have HO_0 := n0_; have HB := n1_; clear n0_ n1_; (try clear hb); (try clear hb2); (try clear hk); (try clear hi)) | (go_at_call 15; (with_reducible refine (audit_Rate.calls kj42 _ _ t106 (wrap64 (a2)) (wrap64 (a3)) false _ ?side1 ?side2 A57.out).mono ?_); (case side1 => repeat (first | exact (Kd.V_reads' HO_0.out).2.2 | (with_reducible refine Kd.C_alloc ?_ _) | (with_reducible refine Kd.C_drewN ?_ _) | (with_reducible refine Kd.C_drew ?_))); (case side2 => exact (Kd.V_reads' HO_0.out).2.1); rintro e w71 ⟨rfl, hb⟩; have n0_ := Aside0.mk (Kd.V_below (by (with_reducible repeat (first | apply Kd.V_alloc | apply Kd.V_drewN | apply Kd.V_drew)); exact HO_0.out) hb); have n1_ := Aside0.mk (below_step (by repeat (first | (with_reducible first | exact HB.out | apply below_alloc | apply pw_below_drewN | apply below_drew1) | exact HB.out)) hb); clear HO_0; clear HB; have HO_0 := n0_; have HB := n1_; clear n0_ n1_; (try clear hb); (try clear hb2); (try clear hk); (try clear hi)))
                          go_ret
                          exact ⟨by first | rfl | (simp [errW_none, errW_some] <;> rfl) | (simp [*, errW_none, errW_some] <;> rfl) | (simp [wrap64]; done), by repeat (first | (with_reducible first | exact HB.out | apply below_alloc | apply pw_below_drewN | apply below_drew1) | exact HB.out)⟩
                      · replace c56 := Bool.eq_false_iff.mpr c56
                        subst c56
                        have H1 : (some false) = some r := by rw [if_neg (show ¬ (false = true) by decide)] at H; exact H
                        clear H
                        have H := H1
                        clear H1
                        exact absurd ((Option.some.inj H).trans HR_.out) (by decide)

end Go.Proofs.Ytaggkdnnnmbblaa.QAuditLess
