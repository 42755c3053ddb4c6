-- A text that a changed copy of the print program wrote for this claim (NOTES.md, changed print); it is not a printed text.
import Derived.Test.YtaggkdnnnmbblaaQAuditGapsx0
import Derived.Test.YtaggkdnnnmbblaaQAuditGapsx1
namespace Go.Proofs.Ytaggkdnnnmbblaa.QAuditGaps
open Go.Proofs.Ytaggkdnnnmbblaa.Given Go.Proofs.Ytaggkdnnnmbblaa.QBase
open Go.RowKit Go.Proofs.YtaggkdnnnmbblaaW.PrintWords Go.Proofs.YtaggkdnnnmbblaaW.PrintLast Go.Proofs.YtaggkdnnnmbblaaW.PrintMore
attribute [local go_sem] max2_int min2_int max_two min_two max_three min_three max_four min_four   -- for this text's walks alone
set_option linter.unusedVariables false
set_option linter.unusedSimpArgs false

/-! ### decorumlaw22_AuditGaps: function 3 -/
mutual
def decorumlaw22_AuditGaps.l0 : Nat → List (S28) → Int → Bool → Int → Option (Bool)
  | 0, _, _, _, _ => none
  | k + 1, x0, x1, x5, x6 => if x6 < (x0.length : Int) then (decorumlaw22_AuditGaps.l1 k x0 x1 x5 x6 (wrap64 (x6 + 1))) else ((decorumlaw22_awake.f).bind fun t109 => (if t109 = true then ((audit_Gaps.f x0 x1).bind fun t110 => (some (t110 == x5))) else (some false)))
def decorumlaw22_AuditGaps.l1 : Nat → List (S28) → Int → Bool → Int → Int → Option (Bool)
  | 0, _, _, _, _, _ => none
  | k + 1, x0, x1, x5, x6, x7 => if x7 < (x0.length : Int) then (if 0 ≤ x6 then (if x6 < (x0.length : Int) then ((decorumlaw22_went.f ((rd_T28 x0 x6).f0) ((rd_T28 x0 x6).f1) ((rd_T28 x0 x6).f2.f0) ((rd_T28 x0 x6).f2.f1) ((rd_T28 x0 x6).f2.f2) ((rd_T28 x0 x6).f2.f3) ((rd_T28 x0 x6).f2.f4)).bind fun t112 => (decorumlaw22_AuditGaps.j2 k x0 x1 x5 x6 x7 t112)) else (none)) else (none)) else (decorumlaw22_AuditGaps.j2 k x0 x1 x5 x6 x7 false)
def decorumlaw22_AuditGaps.j2 : Nat → List (S28) → Int → Bool → Int → Int → Bool → Option (Bool)
  | 0, _, _, _, _, _, _ => none
  | k + 1, x0, x1, x5, x6, x7, x28 => if x28 = true then (if 0 ≤ x7 then (if x7 < (x0.length : Int) then ((decorumlaw22_went.f ((rd_T28 x0 x7).f0) ((rd_T28 x0 x7).f1) ((rd_T28 x0 x7).f2.f0) ((rd_T28 x0 x7).f2.f1) ((rd_T28 x0 x7).f2.f2) ((rd_T28 x0 x7).f2.f3) ((rd_T28 x0 x7).f2.f4)).bind fun t114 => (if t114 = true then (if 0 ≤ x6 then (if x6 < (x0.length : Int) then (decorumlaw22_AuditGaps.j3 k x0 x1 x5 x6 x7 (((rd_T28 x0 x7).f2.f1).toList != ((rd_T28 x0 x6).f2.f1).toList)) else (none)) else (none)) else (decorumlaw22_AuditGaps.j3 k x0 x1 x5 x6 x7 true))) else (none)) else (none)) else (decorumlaw22_AuditGaps.l0 k x0 x1 x5 (wrap64 (x6 + 1)))
def decorumlaw22_AuditGaps.j3 : Nat → List (S28) → Int → Bool → Int → Int → Bool → Option (Bool)
  | 0, _, _, _, _, _, _ => none
  | k + 1, x0, x1, x5, x6, x7, x51 => if x51 = true then (decorumlaw22_AuditGaps.l1 k x0 x1 x5 x6 (wrap64 (x7 + 1))) else (if 0 ≤ x7 then (if x7 < (x0.length : Int) then (if 0 ≤ x6 then (if x6 < (x0.length : Int) then ((decorumref01_Held.f ((rd_T28 x0 x6).f1)).bind fun t119 => ((decorumref01_Add.f k ((rd_T28 x0 x7).f1) (wrap64 (-t119))).bind fun t120 => (if t120 < x1 then (decorumlaw22_AuditGaps.l0 k x0 x1 false (wrap64 (x6 + 1))) else (decorumlaw22_AuditGaps.l0 k x0 x1 x5 (wrap64 (x6 + 1)))))) else (none)) else (none)) else (none)) else (none))
end
def decorumlaw22_AuditGaps.f (k : Nat) (l0 : List (S28)) (a1 : Int) : Option (Bool) := (decorumlaw22_cut.f l0).bind fun t106 => (decorumlaw22_AuditGaps.l0 k t106 a1 true 0)
theorem decorumlaw22_AuditGaps.mono_l : ∀ k, (∀ y0 y1 y2 y3, LeO (decorumlaw22_AuditGaps.l0 k y0 y1 y2 y3) (decorumlaw22_AuditGaps.l0 (k + 1) y0 y1 y2 y3)) ∧ (∀ y0 y1 y2 y3 y4, LeO (decorumlaw22_AuditGaps.l1 k y0 y1 y2 y3 y4) (decorumlaw22_AuditGaps.l1 (k + 1) y0 y1 y2 y3 y4)) ∧ (∀ y0 y1 y2 y3 y4 y5, LeO (decorumlaw22_AuditGaps.j2 k y0 y1 y2 y3 y4 y5) (decorumlaw22_AuditGaps.j2 (k + 1) y0 y1 y2 y3 y4 y5)) ∧ (∀ y0 y1 y2 y3 y4 y5, LeO (decorumlaw22_AuditGaps.j3 k y0 y1 y2 y3 y4 y5) (decorumlaw22_AuditGaps.j3 (k + 1) y0 y1 y2 y3 y4 y5))
  | 0 => ⟨fun _ _ _ _ r h => by simp [decorumlaw22_AuditGaps.l0] at h, fun _ _ _ _ _ r h => by simp [decorumlaw22_AuditGaps.l1] at h, fun _ _ _ _ _ _ r h => by simp [decorumlaw22_AuditGaps.j2] at h, fun _ _ _ _ _ _ r h => by simp [decorumlaw22_AuditGaps.j3] at h⟩
  | k + 1 => by
    obtain ⟨ih0, ih1, ih2, ih3⟩ := decorumlaw22_AuditGaps.mono_l k
    refine ⟨?_, ?_, ?_, ?_⟩
    · intro y0 y1 y2 y3
      unfold decorumlaw22_AuditGaps.l0
      repeat' first
      | (with_reducible exact ih0 _ _ _ _)
      | (with_reducible exact ih1 _ _ _ _ _)
      | (with_reducible exact ih2 _ _ _ _ _ _)
      | (with_reducible exact ih3 _ _ _ _ _ _)
      | (with_reducible exact decorumref01_Add.mono _ _ _)
      | (with_reducible exact LeO.refl _)
      | (with_reducible exact LeO.none _)
      | (with_reducible refine LeO.ite ?_ ?_)
      | (with_reducible refine LeO.bind ?_ (fun _ => ?_))
      | exact ih0 _ _ _ _
      | exact ih1 _ _ _ _ _
      | exact ih2 _ _ _ _ _ _
      | exact ih3 _ _ _ _ _ _
      | exact decorumref01_Add.mono _ _ _
      | exact LeO.none _
      | refine LeO.ite ?_ ?_
      | refine LeO.bind ?_ (fun _ => ?_)
    · intro y0 y1 y2 y3 y4
      unfold decorumlaw22_AuditGaps.l1
      repeat' first
      | (with_reducible exact ih0 _ _ _ _)
      | (with_reducible exact ih1 _ _ _ _ _)
      | (with_reducible exact ih2 _ _ _ _ _ _)
      | (with_reducible exact ih3 _ _ _ _ _ _)
      | (with_reducible exact decorumref01_Add.mono _ _ _)
      | (with_reducible exact LeO.refl _)
      | (with_reducible exact LeO.none _)
      | (with_reducible refine LeO.ite ?_ ?_)
      | (with_reducible refine LeO.bind ?_ (fun _ => ?_))
      | exact ih0 _ _ _ _
      | exact ih1 _ _ _ _ _
      | exact ih2 _ _ _ _ _ _
      | exact ih3 _ _ _ _ _ _
      | exact decorumref01_Add.mono _ _ _
      | exact LeO.none _
      | refine LeO.ite ?_ ?_
      | refine LeO.bind ?_ (fun _ => ?_)
    · intro y0 y1 y2 y3 y4 y5
      unfold decorumlaw22_AuditGaps.j2
      repeat' first
      | (with_reducible exact ih0 _ _ _ _)
      | (with_reducible exact ih1 _ _ _ _ _)
      | (with_reducible exact ih2 _ _ _ _ _ _)
      | (with_reducible exact ih3 _ _ _ _ _ _)
      | (with_reducible exact decorumref01_Add.mono _ _ _)
      | (with_reducible exact LeO.refl _)
      | (with_reducible exact LeO.none _)
      | (with_reducible refine LeO.ite ?_ ?_)
      | (with_reducible refine LeO.bind ?_ (fun _ => ?_))
      | exact ih0 _ _ _ _
      | exact ih1 _ _ _ _ _
      | exact ih2 _ _ _ _ _ _
      | exact ih3 _ _ _ _ _ _
      | exact decorumref01_Add.mono _ _ _
      | exact LeO.none _
      | refine LeO.ite ?_ ?_
      | refine LeO.bind ?_ (fun _ => ?_)
    · intro y0 y1 y2 y3 y4 y5
      unfold decorumlaw22_AuditGaps.j3
      repeat' first
      | (with_reducible exact ih0 _ _ _ _)
      | (with_reducible exact ih1 _ _ _ _ _)
      | (with_reducible exact ih2 _ _ _ _ _ _)
      | (with_reducible exact ih3 _ _ _ _ _ _)
      | (with_reducible exact decorumref01_Add.mono _ _ _)
      | (with_reducible exact LeO.refl _)
      | (with_reducible exact LeO.none _)
      | (with_reducible refine LeO.ite ?_ ?_)
      | (with_reducible refine LeO.bind ?_ (fun _ => ?_))
      | exact ih0 _ _ _ _
      | exact ih1 _ _ _ _ _
      | exact ih2 _ _ _ _ _ _
      | exact ih3 _ _ _ _ _ _
      | exact decorumref01_Add.mono _ _ _
      | exact LeO.none _
      | refine LeO.ite ?_ ?_
      | refine LeO.bind ?_ (fun _ => ?_)
theorem decorumlaw22_AuditGaps.mono : ∀ a0 a1 k, LeO (decorumlaw22_AuditGaps.f k a0 a1) (decorumlaw22_AuditGaps.f (k + 1) a0 a1) := by
  intro a0 a1 k
  obtain ⟨ih0, ih1, ih2, ih3⟩ := decorumlaw22_AuditGaps.mono_l k
  unfold decorumlaw22_AuditGaps.f
  repeat' first
      | (with_reducible exact ih0 _ _ _ _)
      | (with_reducible exact ih1 _ _ _ _ _)
      | (with_reducible exact ih2 _ _ _ _ _ _)
      | (with_reducible exact ih3 _ _ _ _ _ _)
      | (with_reducible exact decorumref01_Add.mono _ _ _)
      | (with_reducible exact LeO.refl _)
      | (with_reducible exact LeO.none _)
      | (with_reducible refine LeO.ite ?_ ?_)
      | (with_reducible refine LeO.bind ?_ (fun _ => ?_))
      | exact ih0 _ _ _ _
      | exact ih1 _ _ _ _ _
      | exact ih2 _ _ _ _ _ _
      | exact ih3 _ _ _ _ _ _
      | exact decorumref01_Add.mono _ _ _
      | exact LeO.none _
      | refine LeO.ite ?_ ?_
      | refine LeO.bind ?_ (fun _ => ?_)
def decorumlaw22_AuditGaps.T9 : Bool × List (List Nat × List Nat) := (true, [([], []), ([], []), ([0, 1], [0, 1]), ([2], [2]), ([3], [3]), ([4], [4]), ([5, 4], [5]), ([6], [6]), ([6], [6]), ([7, 8, 6], [6, 7, 8]), ([9, 6], [6, 9]), ([10, 6], [6, 10]), ([11, 6], [6, 11]), ([6], [6]), ([6], [6]), ([13, 14, 6], [6, 13, 14]), ([15, 6], [6, 15]), ([16, 6], [6, 16]), ([17, 6], [6, 17]), ([12, 18, 6], [6, 12, 18]), ([6, 19], [6, 19])])
def decorumlaw22_AuditGaps.B9 : List Nat := [0, 0, 3, 7, 15, 31, 63, 127, 127, 511, 1023, 2047, 4095, 127, 127, 24703, 57471, 123007, 254079, 524287, 1048575]
theorem decorumlaw22_AuditGaps.tab9 : rtab .any (opsOf Try.f3 9) = decorumlaw22_AuditGaps.T9 := by kernel_rfl
theorem decorumlaw22_AuditGaps.bits9 : waitsOk decorumlaw22_AuditGaps.T9.2 decorumlaw22_AuditGaps.B9 = true := by kernel_rfl
def decorumlaw22_AuditGaps.T10 : Bool × List (List Nat × List Nat) := (true, [([], []), ([], []), ([0, 1], [0, 1]), ([2], [2]), ([3], [3]), ([], []), ([], []), ([5, 6], [5, 6]), ([7], [7]), ([8], [8]), ([9], [9]), ([10], [10]), ([4, 11, 10], [4, 11]), ([], []), ([12, 13], [12, 13])])
def decorumlaw22_AuditGaps.B10 : List Nat := [0, 0, 3, 7, 15, 0, 0, 96, 224, 480, 992, 2016, 4095, 0, 16383]
theorem decorumlaw22_AuditGaps.tab10 : rtab .any (opsOf Try.f3 10) = decorumlaw22_AuditGaps.T10 := by kernel_rfl
theorem decorumlaw22_AuditGaps.bits10 : waitsOk decorumlaw22_AuditGaps.T10.2 decorumlaw22_AuditGaps.B10 = true := by kernel_rfl
set_option maxHeartbeats 8000000 in
set_option maxRecDepth 100000 in
theorem decorumlaw22_AuditGaps.calls (k : Nat) (A0 : Option Addr) (c0 : Nat) (l0 : List (S28)) (a1 : Int) (r : Bool) (w : World) (hr0 : Kd.C k28 w A0 l0.length l0) (hc0 : l0.length ≤ c0) (hr_ : r = true) (h : decorumlaw22_AuditGaps.f k l0 a1 = some r) :
    Calls Try.prog 3 #[.slice A0 l0.length c0, .int .i64 a1] w fun e w' => e = .returned (.bool r) ∧ Below w.heap.size w w' := by
  have HR_ := Aside0.mk (hr_)
  have hu28 := Try.underlying28
  have HR0 := Aside0.mk hr0
  have HC0 := Aside0.mk hc0
  clear hr0 hc0
  have HB := Aside0.mk (Below.refl w.heap.size w)
  have H : ((decorumlaw22_cut.f l0).bind fun t106 => (decorumlaw22_AuditGaps.l0 k t106 a1 true 0)) = some r := h
  clear h
  replace H := Option.bind_eq_some_iff.mp H
  obtain ⟨t106, A30, H⟩ := H
  replace H : (decorumlaw22_AuditGaps.l0 k t106 a1 true 0) = some r := H
  have A3 := Aside0.mk A30
  clear A30
  have H' := Aside0.mk H
  clear H
  go_enter Try.func3, Try.ntmps3
  go_wp2_with (first | ((with_reducible refine gate_callee (f := 8) rfl ?_); refine goesL_ (some 9) rfl rfl Try.func8 (by kernel_rfl) rfl #[.slice A0 l0.length c0] rfl (by (try simp only [List.map_toArray, List.map_cons, List.map_nil]); first | done | rfl | (simp only [List.length_drop, List.length_take]; rfl)) ?_; (with_reducible refine (decorumlaw22_cut.calls (fun k_ => k_ < w.heap.size) _ _ l0 t106 _ ?side1 A3.out).mono ?_); (case side1 => exact Kd.V_mk HC0.out (Kd.F_below (Kd.C_F k28_heap HR0.out) (by repeat (first | (with_reducible first | exact HB.out | apply below_alloc | apply pw_below_drewN | apply below_drew1) | exact HB.out)))); rintro e w4 ⟨v107, rfl, ho0, hb⟩; refine ⟨_, rfl, ?_⟩; have n0_ := Aside0.mk (Kd.V_lower (Kd.V_mono (ok' := fun k_ => True) ho0 (fun k_ hk_ => trivial)) (below_size (by repeat (first | (with_reducible first | exact HB.out | apply below_alloc | apply pw_below_drewN | apply below_drew1) | exact HB.out)))); have n1_ := Aside0.mk (below_step (by repeat (first | (with_reducible first | exact HB.out | apply below_alloc | apply pw_below_drewN | apply below_drew1) | exact HB.out)) hb); clear HB; have HO108 := n0_; have HB := n1_; clear n0_ n1_; (try clear hb); (try clear hb2); (try clear hk); (try clear hi); (try clear ho0)))
  go_loopg [5, 6] k (fun kq v5 v6 w' => ∃ (x5_1 : Bool) (x6_1 : Int), v5 = .bool x5_1 ∧ v6 = .int .i64 x6_1 ∧ Aside0 (decorumlaw22_AuditGaps.l0 kq t106 a1 x5_1 x6_1 = some r) ∧ Aside0 (kq ≤ k) ∧ Aside0 (Kd.V k28 28 w' w.heap.size (fun _ => True) v107 t106) ∧ Aside0 (Below w.heap.size w w'))
  case atStart => exact ⟨(true), (0), (by first | rfl | (simp; done) | (simp [*]; done)), (by first | rfl | (simp; done) | (simp [*]; done)), H', ⟨Nat.le_refl _⟩, ⟨by (with_reducible repeat (first | apply Kd.V_alloc | apply Kd.V_drewN | apply Kd.V_drew)); exact HO108.out⟩, ⟨by repeat (first | (with_reducible first | exact HB.out | apply below_alloc | apply pw_below_drewN | apply below_drew1) | exact HB.out)⟩⟩
  case round =>
    clear H'
    try clear p2
    try clear c3
    obtain ⟨x5_1, x6_1, rfl, rfl, HA, HK1, HO_0, HB⟩ := hrel
    cases gk with
    | zero => exact absurd HA.out (by simp [decorumlaw22_AuditGaps.l0])
    | succ k1 =>
      have H := HA.out
      clear HA
      simp only [decorumlaw22_AuditGaps.l0] at H
      by_cases c5 : x6_1 < (t106.length : Int)
      · rw [if_pos c5] at H
        have c5b0 : decide (x6_1 < (t106.length : Int)) = true := decide_eq_true c5
        clear c5
        have H' := Aside0.mk H
        clear H
        obtain ⟨Ao6, co6, eo6⟩ := Kd.V_slice HO_0.out
        subst eo6
        go_wp2
        go_loopg [5, 7] k1 (fun kq v5 v7 w' => ∃ (x5_2 : Bool) (x7_2 : Int), v5 = .bool x5_2 ∧ v7 = .int .i64 x7_2 ∧ Aside0 (decorumlaw22_AuditGaps.l1 kq t106 a1 x5_2 x6_1 x7_2 = some r) ∧ Aside0 (kq ≤ k1) ∧ Aside0 (Kd.V k28 28 w' w.heap.size (fun _ => True) (.slice Ao6 t106.length co6) t106) ∧ Aside0 (Below w.heap.size w w'))
        case atStart => exact ⟨(x5_1), (wrap64 (x6_1 + 1)), (by first | rfl | (simp; done) | (simp [*]; done)), (by first | rfl | (simp; done) | (simp [*]; done)), H', ⟨Nat.le_refl _⟩, ⟨by (with_reducible repeat (first | apply Kd.V_alloc | apply Kd.V_drewN | apply Kd.V_drew)); exact HO_0.out⟩, ⟨by repeat (first | (with_reducible first | exact HB.out | apply below_alloc | apply pw_below_drewN | apply below_drew1) | exact HB.out)⟩⟩
        case round =>
          clear H'
          try clear p2
          try clear c3
          try clear c5
          try clear c5b0
          try clear p6
          try clear p2
          obtain ⟨x5_2, x7_2, rfl, rfl, HA, HK2, HO_0, HB⟩ := hrel
          cases gk with
          | zero => exact absurd HA.out (by simp [decorumlaw22_AuditGaps.l1])
          | succ k2 =>
            have H := HA.out
            clear HA
            simp only [decorumlaw22_AuditGaps.l1] at H
            have HC7 := Aside0.mk H
            clear H
            go_upto_region 7 with (fail)
            go_cut [28] (fun v28 wc => ∃ (kq : Nat) (x28_6 : Bool), v28 = .bool x28_6 ∧ Aside0 (decorumlaw22_AuditGaps.j2 kq t106 a1 x5_2 x6_1 x7_2 x28_6 = some r) ∧ Aside0 (kq ≤ k2) ∧ Aside0 (Kd.V k28 28 wc w.heap.size (fun _ => True) (.slice Ao6 t106.length co6) t106) ∧ Aside0 (Below w.heap.size w wc))
            case first =>
              have H := HC7.out
              clear HC7
              by_cases c8 : x7_2 < (t106.length : Int)
              · rw [if_pos c8] at H
                have c8b0 : decide (x7_2 < (t106.length : Int)) = true := decide_eq_true c8
                clear c8
                (first | rw [c8b0] | (simp only [i64_w, i32_w]; rw [c8b0]) | skip)
                by_cases c9 : 0 ≤ x6_1
                · rw [if_pos c9] at H
                  have c9b0 : decide (0 ≤ x6_1) = true := decide_eq_true c9
                  clear c9
                  by_cases c10 : x6_1 < (t106.length : Int)
                  · rw [if_pos c10] at H
                    have c10b0 : decide (x6_1 < (t106.length : Int)) = true := decide_eq_true c10
                    clear c10
                    replace H := Option.bind_eq_some_iff.mp H
                    obtain ⟨t112, A110, H⟩ := H
                    replace H : (decorumlaw22_AuditGaps.j2 k2 t106 a1 x5_2 x6_1 x7_2 t112) = some r := H
                    have A11 := Aside0.mk A110
                    clear A110
                    have H' := Aside0.mk H
                    clear H
                    have p111 : 0 ≤ (x6_1 : Int) := of_decide_eq_true (by first | (with_reducible assumption) | assumption)
                    have q111 : x6_1 < (t106.length : Int) := of_decide_eq_true (by first | (with_reducible assumption) | assumption)
                    obtain ⟨ad111, e111, hx111_0, hx111_1, hx111_2, hx111_3, hx111_4, hx111_5, hx111_6⟩ := at_T28 (Kd.V_reads' HO_0.out).2.2 x6_1 p111 q111
                    cases e111
                    replace p111 := eq_true p111
                    replace q111 := eq_true q111
                    go_wp2_with (first | (go_at_call 9; (with_reducible refine (decorumlaw22_went.calls ((rd_T28 t106 x6_1).f0) ((rd_T28 t106 x6_1).f1) ((rd_T28 t106 x6_1).f2.f0) ((rd_T28 t106 x6_1).f2.f1) ((rd_T28 t106 x6_1).f2.f2) ((rd_T28 t106 x6_1).f2.f3) ((rd_T28 t106 x6_1).f2.f4) t112 _ A11.out).mono ?_); rintro e w12 ⟨rfl, hb⟩; have n0_ := Aside0.mk (Kd.V_below (by (with_reducible repeat (first | apply Kd.V_alloc | apply Kd.V_drewN | apply Kd.V_drew)); exact HO_0.out) hb); have n1_ := Aside0.mk (below_step (by repeat (first | (with_reducible first | exact HB.out | apply below_alloc | apply pw_below_drewN | apply below_drew1) | exact HB.out)) hb); clear HO_0; clear HB; have HO_0 := n0_; have HB := n1_; clear n0_ n1_; (try clear hb); (try clear hb2); (try clear hk); (try clear hi)))
                    go_meet
                    case rel => exact ⟨_, (t112), (by first | rfl | (simp; done) | (simp [*]; done)), H', ⟨by have := HK1.out; have := HK2.out; first | omega | exact Nat.le_refl _⟩, ⟨by (with_reducible repeat (first | apply Kd.V_alloc | apply Kd.V_drewN | apply Kd.V_drew)); exact HO_0.out⟩, ⟨by repeat (first | (with_reducible first | exact HB.out | apply below_alloc | apply pw_below_drewN | apply below_drew1) | exact HB.out)⟩⟩
                  · rw [if_neg c10] at H
                    exact absurd H (by simp)
                · rw [if_neg c9] at H
                  exact absurd H (by simp)
              · rw [if_neg c8] at H
                have c8b0 : decide (x7_2 < (t106.length : Int)) = false := decide_eq_false c8
                clear c8
                (first | rw [c8b0] | (simp only [i64_w, i32_w]; rw [c8b0]) | skip)
                have H' := Aside0.mk H
                clear H
                go_wp2
                go_meet
                case rel => exact ⟨_, (false), (by first | rfl | (simp; done) | (simp [*]; done)), H', ⟨by have := HK1.out; have := HK2.out; first | omega | exact Nat.le_refl _⟩, ⟨by (with_reducible repeat (first | apply Kd.V_alloc | apply Kd.V_drewN | apply Kd.V_drew)); exact HO_0.out⟩, ⟨by repeat (first | (with_reducible first | exact HB.out | apply below_alloc | apply pw_below_drewN | apply below_drew1) | exact HB.out)⟩⟩
            case rest =>
              clear HC7
              try clear c1
              try clear p1
              try clear q1
              try clear hx1
              try clear p2
              try clear c3
              try clear c5
              try clear c5b0
              try clear p6
              try clear c8
              try clear c8b0
              try clear c9
              try clear c9b0
              try clear c10
              try clear c10b0
              try clear p11
              try clear q11
              try clear hx11
              try clear hx111_0
              try clear hx111_1
              try clear hx111_2
              try clear hx111_3
              try clear hx111_4
              try clear hx111_5
              try clear hx111_6
              try clear p111
              try clear p2
              try clear p6
              try clear q111
              obtain ⟨kq, x28_6, rfl, HA, HJ6, HO_0, HB⟩ := hcut
              cases kq with
              | zero => exact absurd HA.out (by simp [decorumlaw22_AuditGaps.j2])
              | succ kj6 =>
                have H := HA.out
                clear HA
                simp only [decorumlaw22_AuditGaps.j2] at H
                by_cases c13 : x28_6 = true
                · subst c13
                  have H1 : (if 0 ≤ x7_2 then (if x7_2 < (t106.length : Int) then ((decorumlaw22_went.f ((rd_T28 t106 x7_2).f0) ((rd_T28 t106 x7_2).f1) ((rd_T28 t106 x7_2).f2.f0) ((rd_T28 t106 x7_2).f2.f1) ((rd_T28 t106 x7_2).f2.f2) ((rd_T28 t106 x7_2).f2.f3) ((rd_T28 t106 x7_2).f2.f4)).bind fun t114 => (if t114 = true then (if 0 ≤ x6_1 then (if x6_1 < (t106.length : Int) then (decorumlaw22_AuditGaps.j3 kj6 t106 a1 x5_2 x6_1 x7_2 (((rd_T28 t106 x7_2).f2.f1).toList != ((rd_T28 t106 x6_1).f2.f1).toList)) else (none)) else (none)) else (decorumlaw22_AuditGaps.j3 kj6 t106 a1 x5_2 x6_1 x7_2 true))) else (none)) else (none)) = some r := by rw [if_pos rfl] at H; exact H
                  clear H
                  have H := H1
                  clear H1
                  have HC14 := Aside0.mk H
                  clear H
                  go_upto_region 9 with (fail)
                  go_cut [51] (fun v51 wc => ∃ (kq : Nat) (x51_13 : Bool), v51 = .bool x51_13 ∧ Aside0 (decorumlaw22_AuditGaps.j3 kq t106 a1 x5_2 x6_1 x7_2 x51_13 = some r) ∧ Aside0 (kq ≤ kj6) ∧ Aside0 (Kd.V k28 28 wc w.heap.size (fun _ => True) (.slice Ao6 t106.length co6) t106) ∧ Aside0 (Below w.heap.size w wc))
                  case first =>
                    have H := HC14.out
                    clear HC14
                    by_cases c15 : 0 ≤ x7_2
                    · rw [if_pos c15] at H
                      have c15b0 : decide (0 ≤ x7_2) = true := decide_eq_true c15
                      clear c15
                      (first | rw [c15b0] | (simp only [i64_w, i32_w]; rw [c15b0]) | skip)
                      by_cases c16 : x7_2 < (t106.length : Int)
                      · rw [if_pos c16] at H
                        have c16b0 : decide (x7_2 < (t106.length : Int)) = true := decide_eq_true c16
                        clear c16
                        replace H := Option.bind_eq_some_iff.mp H
                        obtain ⟨t114, A170, H⟩ := H
                        replace H : (if t114 = true then (if 0 ≤ x6_1 then (if x6_1 < (t106.length : Int) then (decorumlaw22_AuditGaps.j3 kj6 t106 a1 x5_2 x6_1 x7_2 (((rd_T28 t106 x7_2).f2.f1).toList != ((rd_T28 t106 x6_1).f2.f1).toList)) else (none)) else (none)) else (decorumlaw22_AuditGaps.j3 kj6 t106 a1 x5_2 x6_1 x7_2 true)) = some r := H
                        have A17 := Aside0.mk A170
                        clear A170
                        by_cases c18 : t114 = true
                        · subst c18
                          have H1 : (if 0 ≤ x6_1 then (if x6_1 < (t106.length : Int) then (decorumlaw22_AuditGaps.j3 kj6 t106 a1 x5_2 x6_1 x7_2 (((rd_T28 t106 x7_2).f2.f1).toList != ((rd_T28 t106 x6_1).f2.f1).toList)) else (none)) else (none)) = some r := by rw [if_pos rfl] at H; exact H
                          clear H
                          have H := H1
                          clear H1
                          by_cases c19 : 0 ≤ x6_1
                          · rw [if_pos c19] at H
                            have c19b0 : decide (0 ≤ x6_1) = true := decide_eq_true c19
                            clear c19
                            by_cases c20 : x6_1 < (t106.length : Int)
                            · rw [if_pos c20] at H
                              have c20b0 : decide (x6_1 < (t106.length : Int)) = true := decide_eq_true c20
                              clear c20
                              have H' := Aside0.mk H
                              clear H
                              try go_wp2
                              have n0_ := Aside0.mk (Kd.V_drew HO_0.out)
                              have n1_ := Aside0.mk (below_drew1 HB.out)
                              clear HO_0
                              clear HB
                              have HO_0 := n0_
                              have HB := n1_
                              clear n0_ n1_
                              have p113 : 0 ≤ (x7_2 : Int) := of_decide_eq_true (by first | (with_reducible assumption) | assumption)
                              have q113 : x7_2 < (t106.length : Int) := of_decide_eq_true (by first | (with_reducible assumption) | assumption)
                              obtain ⟨ad113, e113, hx113_0, hx113_1, hx113_2, hx113_3, hx113_4, hx113_5, hx113_6⟩ := at_T28 (Kd.V_reads' HO_0.out).2.2 x7_2 p113 q113
                              cases e113
                              replace p113 := eq_true p113
                              replace q113 := eq_true q113
                              have p115 : 0 ≤ (x7_2 : Int) := of_decide_eq_true (by first | (with_reducible assumption) | assumption)
                              have q115 : x7_2 < (t106.length : Int) := of_decide_eq_true (by first | (with_reducible assumption) | assumption)
                              obtain ⟨ad115, e115, hx115_0, hx115_1, hx115_2, hx115_3, hx115_4, hx115_5, hx115_6⟩ := at_T28 (Kd.V_reads' HO_0.out).2.2 x7_2 p115 q115
                              obtain rfl : ad113 = ad115 := (by injection e115)
                              replace p115 := eq_true p115
                              replace q115 := eq_true q115
                              have p116 : 0 ≤ (x6_1 : Int) := of_decide_eq_true (by first | (with_reducible assumption) | assumption)
                              have q116 : x6_1 < (t106.length : Int) := of_decide_eq_true (by first | (with_reducible assumption) | assumption)
                              obtain ⟨ad116, e116, hx116_0, hx116_1, hx116_2, hx116_3, hx116_4, hx116_5, hx116_6⟩ := at_T28 (Kd.V_reads' HO_0.out).2.2 x6_1 p116 q116
                              obtain rfl : ad113 = ad116 := (by injection e116)
                              replace p116 := eq_true p116
                              replace q116 := eq_true q116
                              refine start_ (n := 21) (S := fun w' => w'.cell? (ad113.add ((x7_2).toNat * 7)) = some (.int .i64 ((rd_T28 t106 x7_2).f0)) ∧ w'.cell? ⟨(ad113.add ((x7_2).toNat * 7)).block, (ad113.add ((x7_2).toNat * 7)).off + 1, none⟩ = some (.int .i64 ((rd_T28 t106 x7_2).f1)) ∧ w'.cell? ⟨(ad113.add ((x7_2).toNat * 7)).block, (ad113.add ((x7_2).toNat * 7)).off + 2, none⟩ = some (.int .i64 ((rd_T28 t106 x7_2).f2.f0)) ∧ w'.cell? ⟨(ad113.add ((x7_2).toNat * 7)).block, (ad113.add ((x7_2).toNat * 7)).off + 3, none⟩ = some (.string ((rd_T28 t106 x7_2).f2.f1)) ∧ w'.cell? ⟨(ad113.add ((x7_2).toNat * 7)).block, (ad113.add ((x7_2).toNat * 7)).off + 4, none⟩ = some (.string ((rd_T28 t106 x7_2).f2.f2)) ∧ w'.cell? ⟨(ad113.add ((x7_2).toNat * 7)).block, (ad113.add ((x7_2).toNat * 7)).off + 5, none⟩ = some (.int .i64 ((rd_T28 t106 x7_2).f2.f3)) ∧ w'.cell? ⟨(ad113.add ((x7_2).toNat * 7)).block, (ad113.add ((x7_2).toNat * 7)).off + 6, none⟩ = some (.int .i64 ((rd_T28 t106 x7_2).f2.f4)) ∧ w'.cell? (ad113.add ((x7_2).toNat * 7)) = some (.int .i64 ((rd_T28 t106 x7_2).f0)) ∧ w'.cell? ⟨(ad113.add ((x7_2).toNat * 7)).block, (ad113.add ((x7_2).toNat * 7)).off + 1, none⟩ = some (.int .i64 ((rd_T28 t106 x7_2).f1)) ∧ w'.cell? ⟨(ad113.add ((x7_2).toNat * 7)).block, (ad113.add ((x7_2).toNat * 7)).off + 2, none⟩ = some (.int .i64 ((rd_T28 t106 x7_2).f2.f0)) ∧ w'.cell? ⟨(ad113.add ((x7_2).toNat * 7)).block, (ad113.add ((x7_2).toNat * 7)).off + 3, none⟩ = some (.string ((rd_T28 t106 x7_2).f2.f1)) ∧ w'.cell? ⟨(ad113.add ((x7_2).toNat * 7)).block, (ad113.add ((x7_2).toNat * 7)).off + 4, none⟩ = some (.string ((rd_T28 t106 x7_2).f2.f2)) ∧ w'.cell? ⟨(ad113.add ((x7_2).toNat * 7)).block, (ad113.add ((x7_2).toNat * 7)).off + 5, none⟩ = some (.int .i64 ((rd_T28 t106 x7_2).f2.f3)) ∧ w'.cell? ⟨(ad113.add ((x7_2).toNat * 7)).block, (ad113.add ((x7_2).toNat * 7)).off + 6, none⟩ = some (.int .i64 ((rd_T28 t106 x7_2).f2.f4)) ∧ w'.cell? (ad113.add ((x6_1).toNat * 7)) = some (.int .i64 ((rd_T28 t106 x6_1).f0)) ∧ w'.cell? ⟨(ad113.add ((x6_1).toNat * 7)).block, (ad113.add ((x6_1).toNat * 7)).off + 1, none⟩ = some (.int .i64 ((rd_T28 t106 x6_1).f1)) ∧ w'.cell? ⟨(ad113.add ((x6_1).toNat * 7)).block, (ad113.add ((x6_1).toNat * 7)).off + 2, none⟩ = some (.int .i64 ((rd_T28 t106 x6_1).f2.f0)) ∧ w'.cell? ⟨(ad113.add ((x6_1).toNat * 7)).block, (ad113.add ((x6_1).toNat * 7)).off + 3, none⟩ = some (.string ((rd_T28 t106 x6_1).f2.f1)) ∧ w'.cell? ⟨(ad113.add ((x6_1).toNat * 7)).block, (ad113.add ((x6_1).toNat * 7)).off + 4, none⟩ = some (.string ((rd_T28 t106 x6_1).f2.f2)) ∧ w'.cell? ⟨(ad113.add ((x6_1).toNat * 7)).block, (ad113.add ((x6_1).toNat * 7)).off + 5, none⟩ = some (.int .i64 ((rd_T28 t106 x6_1).f2.f3)) ∧ w'.cell? ⟨(ad113.add ((x6_1).toNat * 7)).block, (ad113.add ((x6_1).toNat * 7)).off + 6, none⟩ = some (.int .i64 ((rd_T28 t106 x6_1).f2.f4))) (ds := []) #[false, false, false, false, false, false, false, false, false, false, false, false, false, false, false, false, false, false, false, false, false] (by kernel_rfl) rfl rfl ⟨hx113_0, hx113_1, hx113_2, hx113_3, hx113_4, hx113_5, hx113_6, hx115_0, hx115_1, hx115_2, hx115_3, hx115_4, hx115_5, hx115_6, hx116_0, hx116_1, hx116_2, hx116_3, hx116_4, hx116_5, hx116_6⟩ (fun hHeld => ?_); refine with_tabW decorumlaw22_AuditGaps.tab9 decorumlaw22_AuditGaps.bits9 (fun HT_ HW_ => ?_)
                              generalize wc.drew = w21 at HO_0 HB hx113_0 hx113_1 hx113_2 hx113_3 hx113_4 hx113_5 hx113_6 hx115_0 hx115_1 hx115_2 hx115_3 hx115_4 hx115_5 hx115_6 hx116_0 hx116_1 hx116_2 hx116_3 hx116_4 hx116_5 hx116_6 hHeld ⊢
                              refine pure_ (i := 0) (N := some 31) (v := ?_) (a' := ?_) #[true, false, false, false, false, false, false, false, false, false, false, false, false, false, false, false, false, false, false, false, false] rfl rfl (any_of HT_.out (by kernel_rfl)) (fun _ _ _ h => h) (Or.inl ⟨by rfl, ?_⟩) ?_ ?_
                              rotate_left
                              · intro w'
                                go_simp
                                with_reducible rfl
                              rotate_left
                              · simp only [Act.put, List.setIfInBounds_toArray, List.set_cons_zero, List.set_cons_succ, i64_w, i32_w]
                                rfl
                              refine pure_ (i := 1) (N := some 32) (v := ?_) (a' := ?_) #[true, true, false, false, false, false, false, false, false, false, false, false, false, false, false, false, false, false, false, false, false] rfl rfl (any_of HT_.out (by kernel_rfl)) (fun _ _ _ h => h) (Or.inl ⟨by rfl, ?_⟩) ?_ ?_
                              rotate_left
                              · intro w'
                                go_simp
                                with_reducible rfl
                              rotate_left
                              · simp only [Act.put, List.setIfInBounds_toArray, List.set_cons_zero, List.set_cons_succ, i64_w, i32_w]
                                rfl
                              refine pure_ (i := 2) (N := some 33) (v := ?_) (a' := ?_) #[true, true, true, false, false, false, false, false, false, false, false, false, false, false, false, false, false, false, false, false, false] rfl rfl (any_of HT_.out (by kernel_rfl)) (fun _ _ _ h => h) (Or.inl ⟨by rfl, ?_⟩) ?_ ?_
                              rotate_left
                              · intro w'
                                go_simp
                                with_reducible rfl
                              rotate_left
                              · simp only [Act.put, List.setIfInBounds_toArray, List.set_cons_zero, List.set_cons_succ, i64_w, i32_w]
                                rfl
                              refine take_ (i := 3) (N := some 34) (v := ?_) (a' := ?_) #[true, true, true, true, false, false, false, false, false, false, false, false, false, false, false, false, false, false, false, false, false] rfl rfl (take_ofW HT_.out HW_.out (by kernel_rfl)) (fun _ _ _ h => h) (Or.inl ⟨by rfl, ?_⟩) hHeld ?_ ?_
                              rotate_left
                              · rintro w' ⟨s0, s1, s2, s3, s4, s5, s6, s7, s8, s9, s10, s11, s12, s13, s14, s15, s16, s17, s18, s19, s20⟩
                                go_simp
                                with_reducible rfl
                              rotate_left
                              · simp only [Act.put, List.setIfInBounds_toArray, List.set_cons_zero, List.set_cons_succ, i64_w, i32_w]
                                rfl
                              refine one_ (i := 4) (N := some 35) #[true, true, true, true, true, false, false, false, false, false, false, false, false, false, false, false, false, false, false, false, false] rfl rfl (one_of HT_.out (by kernel_rfl)) (by decide) (fun K hK => ?_)
                              refine goes_ Try.func9 (by kernel_rfl) rfl #[.agg #[.int .i64 ((rd_T28 t106 x7_2).f0), .int .i64 ((rd_T28 t106 x7_2).f1), .int .i64 ((rd_T28 t106 x7_2).f2.f0), .string ((rd_T28 t106 x7_2).f2.f1), .string ((rd_T28 t106 x7_2).f2.f2), .int .i64 ((rd_T28 t106 x7_2).f2.f3), .int .i64 ((rd_T28 t106 x7_2).f2.f4)]] (by rfl) rfl rfl (by (try simp only [List.map_toArray, List.map_cons, List.map_nil]); first | done | rfl | (simp only [List.length_drop, List.length_take]; rfl)) ?_
                              with_reducible refine (decorumlaw22_went.calls ((rd_T28 t106 x7_2).f0) ((rd_T28 t106 x7_2).f1) ((rd_T28 t106 x7_2).f2.f0) ((rd_T28 t106 x7_2).f2.f1) ((rd_T28 t106 x7_2).f2.f2) ((rd_T28 t106 x7_2).f2.f3) ((rd_T28 t106 x7_2).f2.f4) true _ A17.out).mono ?_
                              rintro e w22 ⟨rfl, hb⟩
                              have HS0_ := (hb.cell (World.block_lt_of_cell? _ _ (hHeld.1))).trans (hHeld.1)
                              have HS1_ := (hb.cell (World.block_lt_of_cell? _ _ (hHeld.2.1))).trans (hHeld.2.1)
                              have HS2_ := (hb.cell (World.block_lt_of_cell? _ _ (hHeld.2.2.1))).trans (hHeld.2.2.1)
                              have HS3_ := (hb.cell (World.block_lt_of_cell? _ _ (hHeld.2.2.2.1))).trans (hHeld.2.2.2.1)
                              have HS4_ := (hb.cell (World.block_lt_of_cell? _ _ (hHeld.2.2.2.2.1))).trans (hHeld.2.2.2.2.1)
                              have HS5_ := (hb.cell (World.block_lt_of_cell? _ _ (hHeld.2.2.2.2.2.1))).trans (hHeld.2.2.2.2.2.1)
                              have HS6_ := (hb.cell (World.block_lt_of_cell? _ _ (hHeld.2.2.2.2.2.2.1))).trans (hHeld.2.2.2.2.2.2.1)
                              have HS7_ := (hb.cell (World.block_lt_of_cell? _ _ (hHeld.2.2.2.2.2.2.2.1))).trans (hHeld.2.2.2.2.2.2.2.1)
                              have HS8_ := (hb.cell (World.block_lt_of_cell? _ _ (hHeld.2.2.2.2.2.2.2.2.1))).trans (hHeld.2.2.2.2.2.2.2.2.1)
                              have HS9_ := (hb.cell (World.block_lt_of_cell? _ _ (hHeld.2.2.2.2.2.2.2.2.2.1))).trans (hHeld.2.2.2.2.2.2.2.2.2.1)
                              have HS10_ := (hb.cell (World.block_lt_of_cell? _ _ (hHeld.2.2.2.2.2.2.2.2.2.2.1))).trans (hHeld.2.2.2.2.2.2.2.2.2.2.1)
                              have HS11_ := (hb.cell (World.block_lt_of_cell? _ _ (hHeld.2.2.2.2.2.2.2.2.2.2.2.1))).trans (hHeld.2.2.2.2.2.2.2.2.2.2.2.1)
                              have HS12_ := (hb.cell (World.block_lt_of_cell? _ _ (hHeld.2.2.2.2.2.2.2.2.2.2.2.2.1))).trans (hHeld.2.2.2.2.2.2.2.2.2.2.2.2.1)
                              have HS13_ := (hb.cell (World.block_lt_of_cell? _ _ (hHeld.2.2.2.2.2.2.2.2.2.2.2.2.2.1))).trans (hHeld.2.2.2.2.2.2.2.2.2.2.2.2.2.1)
                              have HS14_ := (hb.cell (World.block_lt_of_cell? _ _ (hHeld.2.2.2.2.2.2.2.2.2.2.2.2.2.2.1))).trans (hHeld.2.2.2.2.2.2.2.2.2.2.2.2.2.2.1)
                              have HS15_ := (hb.cell (World.block_lt_of_cell? _ _ (hHeld.2.2.2.2.2.2.2.2.2.2.2.2.2.2.2.1))).trans (hHeld.2.2.2.2.2.2.2.2.2.2.2.2.2.2.2.1)
                              have HS16_ := (hb.cell (World.block_lt_of_cell? _ _ (hHeld.2.2.2.2.2.2.2.2.2.2.2.2.2.2.2.2.1))).trans (hHeld.2.2.2.2.2.2.2.2.2.2.2.2.2.2.2.2.1)
                              have HS17_ := (hb.cell (World.block_lt_of_cell? _ _ (hHeld.2.2.2.2.2.2.2.2.2.2.2.2.2.2.2.2.2.1))).trans (hHeld.2.2.2.2.2.2.2.2.2.2.2.2.2.2.2.2.2.1)
                              have HS18_ := (hb.cell (World.block_lt_of_cell? _ _ (hHeld.2.2.2.2.2.2.2.2.2.2.2.2.2.2.2.2.2.2.1))).trans (hHeld.2.2.2.2.2.2.2.2.2.2.2.2.2.2.2.2.2.2.1)
                              have HS19_ := (hb.cell (World.block_lt_of_cell? _ _ (hHeld.2.2.2.2.2.2.2.2.2.2.2.2.2.2.2.2.2.2.2.1))).trans (hHeld.2.2.2.2.2.2.2.2.2.2.2.2.2.2.2.2.2.2.2.1)
                              have HS20_ := (hb.cell (World.block_lt_of_cell? _ _ (hHeld.2.2.2.2.2.2.2.2.2.2.2.2.2.2.2.2.2.2.2.2))).trans (hHeld.2.2.2.2.2.2.2.2.2.2.2.2.2.2.2.2.2.2.2.2)
                              refine ⟨_, rfl, ?_⟩
                              have n0_ := Aside0.mk (Kd.V_below (by (with_reducible repeat (first | apply Kd.V_alloc | apply Kd.V_drewN | apply Kd.V_drew)); exact HO_0.out) hb)
                              have n1_ := Aside0.mk (below_step (by repeat (first | (with_reducible first | exact HB.out | apply below_alloc | apply pw_below_drewN | apply below_drew1) | exact HB.out)) hb)
                              clear HO_0
                              clear HB
                              have HO_0 := n0_
                              have HB := n1_
                              clear n0_ n1_
                              (try clear hb)
                              (try clear hb2)
                              (try clear hk)
                              (try clear hi)
                              refine hK.out _ _ ⟨HS0_, HS1_, HS2_, HS3_, HS4_, HS5_, HS6_, HS7_, HS8_, HS9_, HS10_, HS11_, HS12_, HS13_, HS14_, HS15_, HS16_, HS17_, HS18_, HS19_, HS20_⟩ (fun hHeld => ?_)
                              clear hK K
                              refine norm_ (a' := ?_) ?_ ?_
                              rotate_left
                              · show Act.put _ (some 35) _ = _
                                simp only [Act.put, List.setIfInBounds_toArray, List.set_cons_zero, List.set_cons_succ, i64_w, i32_w]
                                rfl
                              refine pure_ (i := 5) (N := some 36) (v := ?_) (a' := ?_) #[true, true, true, true, true, true, false, false, false, false, false, false, false, false, false, false, false, false, false, false, false] rfl rfl (any_of HT_.out (by kernel_rfl)) (fun _ _ _ h => h) (Or.inl ⟨by rfl, ?_⟩) ?_ ?_
                              rotate_left
                              · intro w'
                                go_simp
                                with_reducible rfl
                              rotate_left
                              · simp only [Act.put, List.setIfInBounds_toArray, List.set_cons_zero, List.set_cons_succ, i64_w, i32_w]
                                rfl
                              refine pure_ (i := 6) (N := some 37) (v := ?_) (a' := ?_) #[true, true, true, true, true, true, true, false, false, false, false, false, false, false, false, false, false, false, false, false, false] rfl rfl (any_of HT_.out (by kernel_rfl)) (fun _ _ _ h => h) (Or.inl ⟨by rfl, ?_⟩) ?_ ?_
                              rotate_left
                              · intro w'
                                go_simp
                                with_reducible rfl
                              rotate_left
                              · simp only [Act.put, List.setIfInBounds_toArray, List.set_cons_zero, List.set_cons_succ, i64_w, i32_w]
                                rfl
                              refine pure_ (i := 7) (N := some 38) (v := ?_) (a' := ?_) #[true, true, true, true, true, true, true, true, false, false, false, false, false, false, false, false, false, false, false, false, false] rfl rfl (any_of HT_.out (by kernel_rfl)) (fun _ _ _ h => h) (Or.inl ⟨by rfl, ?_⟩) ?_ ?_
                              rotate_left
                              · intro w'
                                go_simp
                                with_reducible rfl
                              rotate_left
                              · simp only [Act.put, List.setIfInBounds_toArray, List.set_cons_zero, List.set_cons_succ, i64_w, i32_w]
                                rfl
                              refine pure_ (i := 8) (N := some 39) (v := ?_) (a' := ?_) #[true, true, true, true, true, true, true, true, true, false, false, false, false, false, false, false, false, false, false, false, false] rfl rfl (any_of HT_.out (by kernel_rfl)) (fun _ _ _ h => h) (Or.inl ⟨by rfl, ?_⟩) ?_ ?_
                              rotate_left
                              · intro w'
                                go_simp
                                with_reducible rfl
                              rotate_left
                              · simp only [Act.put, List.setIfInBounds_toArray, List.set_cons_zero, List.set_cons_succ, i64_w, i32_w]
                                rfl
                              refine pure_ (i := 9) (N := some 40) (v := ?_) (a' := ?_) #[true, true, true, true, true, true, true, true, true, true, false, false, false, false, false, false, false, false, false, false, false] rfl rfl (any_of HT_.out (by kernel_rfl)) (fun _ _ _ h => h) (Or.inl ⟨by rfl, ?_⟩) ?_ ?_
                              rotate_left
                              · intro w'
                                go_simp
                                with_reducible rfl
                              rotate_left
                              · simp only [Act.put, List.setIfInBounds_toArray, List.set_cons_zero, List.set_cons_succ, i64_w, i32_w]
                                rfl
                              refine pure_ (i := 10) (N := some 41) (v := ?_) (a' := ?_) #[true, true, true, true, true, true, true, true, true, true, true, false, false, false, false, false, false, false, false, false, false] rfl rfl (any_of HT_.out (by kernel_rfl)) (fun _ _ _ h => h) (Or.inl ⟨by rfl, ?_⟩) ?_ ?_
                              rotate_left
                              · intro w'
                                go_simp
                                with_reducible rfl
                              rotate_left
                              · simp only [Act.put, List.setIfInBounds_toArray, List.set_cons_zero, List.set_cons_succ, i64_w, i32_w]
                                rfl
                              refine pure_ (i := 11) (N := some 42) (v := ?_) (a' := ?_) #[true, true, true, true, true, true, true, true, true, true, true, true, false, false, false, false, false, false, false, false, false] rfl rfl (any_of HT_.out (by kernel_rfl)) (fun _ _ _ h => h) (Or.inl ⟨by rfl, ?_⟩) ?_ ?_
                              rotate_left
                              · intro w'
                                go_simp
                                with_reducible rfl
                              rotate_left
                              · simp only [Act.put, List.setIfInBounds_toArray, List.set_cons_zero, List.set_cons_succ, i64_w, i32_w]
                                rfl
                              refine pure_ (i := 13) (N := some 44) (v := ?_) (a' := ?_) #[true, true, true, true, true, true, true, true, true, true, true, true, false, true, false, false, false, false, false, false, false] rfl rfl (any_of HT_.out (by kernel_rfl)) (fun _ _ _ h => h) (Or.inl ⟨by rfl, ?_⟩) ?_ ?_
                              rotate_left
                              · intro w'
                                go_simp
                                with_reducible rfl
                              rotate_left
                              · simp only [Act.put, List.setIfInBounds_toArray, List.set_cons_zero, List.set_cons_succ, i64_w, i32_w]
                                rfl
                              refine pure_ (i := 14) (N := some 45) (v := ?_) (a' := ?_) #[true, true, true, true, true, true, true, true, true, true, true, true, false, true, true, false, false, false, false, false, false] rfl rfl (any_of HT_.out (by kernel_rfl)) (fun _ _ _ h => h) (Or.inl ⟨by rfl, ?_⟩) ?_ ?_
                              rotate_left
                              · intro w'
                                go_simp
                                with_reducible rfl
                              rotate_left
                              · simp only [Act.put, List.setIfInBounds_toArray, List.set_cons_zero, List.set_cons_succ, i64_w, i32_w]
                                rfl
                              refine pure_ (i := 15) (N := some 46) (v := ?_) (a' := ?_) #[true, true, true, true, true, true, true, true, true, true, true, true, false, true, true, true, false, false, false, false, false] rfl rfl (any_of HT_.out (by kernel_rfl)) (fun _ _ _ h => h) (Or.inl ⟨by rfl, ?_⟩) ?_ ?_
                              rotate_left
                              · intro w'
                                go_simp
                                with_reducible rfl
                              rotate_left
                              · simp only [Act.put, List.setIfInBounds_toArray, List.set_cons_zero, List.set_cons_succ, i64_w, i32_w]
                                rfl
                              refine pure_ (i := 16) (N := some 47) (v := ?_) (a' := ?_) #[true, true, true, true, true, true, true, true, true, true, true, true, false, true, true, true, true, false, false, false, false] rfl rfl (any_of HT_.out (by kernel_rfl)) (fun _ _ _ h => h) (Or.inl ⟨by rfl, ?_⟩) ?_ ?_
                              rotate_left
                              · intro w'
                                go_simp
                                with_reducible rfl
                              rotate_left
                              · simp only [Act.put, List.setIfInBounds_toArray, List.set_cons_zero, List.set_cons_succ, i64_w, i32_w]
                                rfl
                              refine pure_ (i := 17) (N := some 48) (v := ?_) (a' := ?_) #[true, true, true, true, true, true, true, true, true, true, true, true, false, true, true, true, true, true, false, false, false] rfl rfl (any_of HT_.out (by kernel_rfl)) (fun _ _ _ h => h) (Or.inl ⟨by rfl, ?_⟩) ?_ ?_
                              rotate_left
                              · intro w'
                                go_simp
                                with_reducible rfl
                              rotate_left
                              · simp only [Act.put, List.setIfInBounds_toArray, List.set_cons_zero, List.set_cons_succ, i64_w, i32_w]
                                rfl
                              refine take_ (i := 12) (N := some 43) (v := ?_) (a' := ?_) #[true, true, true, true, true, true, true, true, true, true, true, true, true, true, true, true, true, true, false, false, false] rfl rfl (take_ofW HT_.out HW_.out (by kernel_rfl)) (fun _ _ _ h => h) (Or.inl ⟨by rfl, ?_⟩) hHeld ?_ ?_
                              rotate_left
                              · rintro w' ⟨s0, s1, s2, s3, s4, s5, s6, s7, s8, s9, s10, s11, s12, s13, s14, s15, s16, s17, s18, s19, s20⟩
                                go_simp
                                with_reducible rfl
                              rotate_left
                              · simp only [Act.put, List.setIfInBounds_toArray, List.set_cons_zero, List.set_cons_succ, i64_w, i32_w]
                                rfl
                              refine take_ (i := 18) (N := some 49) (v := ?_) (a' := ?_) #[true, true, true, true, true, true, true, true, true, true, true, true, true, true, true, true, true, true, true, false, false] rfl rfl (take_ofW HT_.out HW_.out (by kernel_rfl)) (fun _ _ _ h => h) (Or.inl ⟨by rfl, ?_⟩) hHeld ?_ ?_
                              rotate_left
                              · rintro w' ⟨s0, s1, s2, s3, s4, s5, s6, s7, s8, s9, s10, s11, s12, s13, s14, s15, s16, s17, s18, s19, s20⟩
                                go_simp
                                with_reducible rfl
                              rotate_left
                              · simp only [Act.put, List.setIfInBounds_toArray, List.set_cons_zero, List.set_cons_succ, i64_w, i32_w]
                                rfl
                              refine pure_ (i := 19) (N := some 50) (v := ?_) (a' := ?_) #[true, true, true, true, true, true, true, true, true, true, true, true, true, true, true, true, true, true, true, true, false] rfl rfl (any_of HT_.out (by kernel_rfl)) (fun _ _ _ h => h) (Or.inl ⟨by rfl, ?_⟩) ?_ ?_
                              rotate_left
                              · intro w'
                                go_simp
                                with_reducible rfl
                              rotate_left
                              · simp only [Act.put, List.setIfInBounds_toArray, List.set_cons_zero, List.set_cons_succ, i64_w, i32_w]
                                rfl
                              refine pure_ (i := 20) (N := some 51) (v := ?_) (a' := ?_) #[true, true, true, true, true, true, true, true, true, true, true, true, true, true, true, true, true, true, true, true, true] rfl rfl (any_of HT_.out (by kernel_rfl)) (fun _ _ _ h => h) (Or.inl ⟨by rfl, ?_⟩) ?_ ?_
                              rotate_left
                              · intro w'
                                go_simp
                                with_reducible rfl
                              rotate_left
                              · simp only [Act.put, List.setIfInBounds_toArray, List.set_cons_zero, List.set_cons_succ, i64_w, i32_w]
                                rfl
                              refine done_ (done_of HT_.out (by kernel_rfl)) ?_
                              try go_wp2
                              go_meet
                              case rel => exact ⟨_, ((((rd_T28 t106 x7_2).f2.f1).toList != ((rd_T28 t106 x6_1).f2.f1).toList)), (by first | rfl | (simp; done) | (simp [*]; done)), H', ⟨by have := HK1.out; have := HK2.out; have := HJ6.out; first | omega | exact Nat.le_refl _⟩, ⟨by (with_reducible repeat (first | apply Kd.V_alloc | apply Kd.V_drewN | apply Kd.V_drew)); exact HO_0.out⟩, ⟨by repeat (first | (with_reducible first | exact HB.out | apply below_alloc | apply pw_below_drewN | apply below_drew1) | exact HB.out)⟩⟩
                            · rw [if_neg c20] at H
                              exact absurd H (by simp)
                          · rw [if_neg c19] at H
                            exact absurd H (by simp)
                        · replace c18 := Bool.eq_false_iff.mpr c18
                          subst c18
                          have H1 : (decorumlaw22_AuditGaps.j3 kj6 t106 a1 x5_2 x6_1 x7_2 true) = some r := by rw [if_neg (show ¬ (false = true) by decide)] at H; exact H
                          clear H
                          have H := H1
                          clear H1
                          have H' := Aside0.mk H
                          clear H
                          try go_wp2
                          have n0_ := Aside0.mk (Kd.V_drew HO_0.out)
                          have n1_ := Aside0.mk (below_drew1 HB.out)
                          clear HO_0
                          clear HB
                          have HO_0 := n0_
                          have HB := n1_
                          clear n0_ n1_
                          have p113 : 0 ≤ (x7_2 : Int) := of_decide_eq_true (by first | (with_reducible assumption) | assumption)
                          have q113 : x7_2 < (t106.length : Int) := of_decide_eq_true (by first | (with_reducible assumption) | assumption)
                          obtain ⟨ad113, e113, hx113_0, hx113_1, hx113_2, hx113_3, hx113_4, hx113_5, hx113_6⟩ := at_T28 (Kd.V_reads' HO_0.out).2.2 x7_2 p113 q113
                          cases e113
                          replace p113 := eq_true p113
                          replace q113 := eq_true q113
                          refine start_ (n := 21) (S := fun w' => w'.cell? (ad113.add ((x7_2).toNat * 7)) = some (.int .i64 ((rd_T28 t106 x7_2).f0)) ∧ w'.cell? ⟨(ad113.add ((x7_2).toNat * 7)).block, (ad113.add ((x7_2).toNat * 7)).off + 1, none⟩ = some (.int .i64 ((rd_T28 t106 x7_2).f1)) ∧ w'.cell? ⟨(ad113.add ((x7_2).toNat * 7)).block, (ad113.add ((x7_2).toNat * 7)).off + 2, none⟩ = some (.int .i64 ((rd_T28 t106 x7_2).f2.f0)) ∧ w'.cell? ⟨(ad113.add ((x7_2).toNat * 7)).block, (ad113.add ((x7_2).toNat * 7)).off + 3, none⟩ = some (.string ((rd_T28 t106 x7_2).f2.f1)) ∧ w'.cell? ⟨(ad113.add ((x7_2).toNat * 7)).block, (ad113.add ((x7_2).toNat * 7)).off + 4, none⟩ = some (.string ((rd_T28 t106 x7_2).f2.f2)) ∧ w'.cell? ⟨(ad113.add ((x7_2).toNat * 7)).block, (ad113.add ((x7_2).toNat * 7)).off + 5, none⟩ = some (.int .i64 ((rd_T28 t106 x7_2).f2.f3)) ∧ w'.cell? ⟨(ad113.add ((x7_2).toNat * 7)).block, (ad113.add ((x7_2).toNat * 7)).off + 6, none⟩ = some (.int .i64 ((rd_T28 t106 x7_2).f2.f4))) (ds := []) #[false, false, false, false, false, false, false, false, false, false, false, false, false, false, false, false, false, false, false, false, false] (by kernel_rfl) rfl rfl ⟨hx113_0, hx113_1, hx113_2, hx113_3, hx113_4, hx113_5, hx113_6⟩ (fun hHeld => ?_); refine with_tabW decorumlaw22_AuditGaps.tab9 decorumlaw22_AuditGaps.bits9 (fun HT_ HW_ => ?_)
                          generalize wc.drew = w23 at HO_0 HB hx113_0 hx113_1 hx113_2 hx113_3 hx113_4 hx113_5 hx113_6 hHeld ⊢
                          refine pure_ (i := 0) (N := some 31) (v := ?_) (a' := ?_) #[true, false, false, false, false, false, false, false, false, false, false, false, false, false, false, false, false, false, false, false, false] rfl rfl (any_of HT_.out (by kernel_rfl)) (fun _ _ _ h => h) (Or.inl ⟨by rfl, ?_⟩) ?_ ?_
                          rotate_left
                          · intro w'
                            go_simp
                            with_reducible rfl
                          rotate_left
                          · simp only [Act.put, List.setIfInBounds_toArray, List.set_cons_zero, List.set_cons_succ, i64_w, i32_w]
                            rfl
                          refine pure_ (i := 1) (N := some 32) (v := ?_) (a' := ?_) #[true, true, false, false, false, false, false, false, false, false, false, false, false, false, false, false, false, false, false, false, false] rfl rfl (any_of HT_.out (by kernel_rfl)) (fun _ _ _ h => h) (Or.inl ⟨by rfl, ?_⟩) ?_ ?_
                          rotate_left
                          · intro w'
                            go_simp
                            with_reducible rfl
                          rotate_left
                          · simp only [Act.put, List.setIfInBounds_toArray, List.set_cons_zero, List.set_cons_succ, i64_w, i32_w]
                            rfl
                          refine pure_ (i := 2) (N := some 33) (v := ?_) (a' := ?_) #[true, true, true, false, false, false, false, false, false, false, false, false, false, false, false, false, false, false, false, false, false] rfl rfl (any_of HT_.out (by kernel_rfl)) (fun _ _ _ h => h) (Or.inl ⟨by rfl, ?_⟩) ?_ ?_
                          rotate_left
                          · intro w'
                            go_simp
                            with_reducible rfl
                          rotate_left
                          · simp only [Act.put, List.setIfInBounds_toArray, List.set_cons_zero, List.set_cons_succ, i64_w, i32_w]
                            rfl
                          refine take_ (i := 3) (N := some 34) (v := ?_) (a' := ?_) #[true, true, true, true, false, false, false, false, false, false, false, false, false, false, false, false, false, false, false, false, false] rfl rfl (take_ofW HT_.out HW_.out (by kernel_rfl)) (fun _ _ _ h => h) (Or.inl ⟨by rfl, ?_⟩) hHeld ?_ ?_
                          rotate_left
                          · rintro w' ⟨s0, s1, s2, s3, s4, s5, s6⟩
                            go_simp
                            with_reducible rfl
                          rotate_left
                          · simp only [Act.put, List.setIfInBounds_toArray, List.set_cons_zero, List.set_cons_succ, i64_w, i32_w]
                            rfl
                          refine one_ (i := 4) (N := some 35) #[true, true, true, true, true, false, false, false, false, false, false, false, false, false, false, false, false, false, false, false, false] rfl rfl (one_of HT_.out (by kernel_rfl)) (by decide) (fun K hK => ?_)
                          refine goes_ Try.func9 (by kernel_rfl) rfl #[.agg #[.int .i64 ((rd_T28 t106 x7_2).f0), .int .i64 ((rd_T28 t106 x7_2).f1), .int .i64 ((rd_T28 t106 x7_2).f2.f0), .string ((rd_T28 t106 x7_2).f2.f1), .string ((rd_T28 t106 x7_2).f2.f2), .int .i64 ((rd_T28 t106 x7_2).f2.f3), .int .i64 ((rd_T28 t106 x7_2).f2.f4)]] (by rfl) rfl rfl (by (try simp only [List.map_toArray, List.map_cons, List.map_nil]); first | done | rfl | (simp only [List.length_drop, List.length_take]; rfl)) ?_
                          with_reducible refine (decorumlaw22_went.calls ((rd_T28 t106 x7_2).f0) ((rd_T28 t106 x7_2).f1) ((rd_T28 t106 x7_2).f2.f0) ((rd_T28 t106 x7_2).f2.f1) ((rd_T28 t106 x7_2).f2.f2) ((rd_T28 t106 x7_2).f2.f3) ((rd_T28 t106 x7_2).f2.f4) false _ A17.out).mono ?_
                          rintro e w24 ⟨rfl, hb⟩
                          have HS0_ := (hb.cell (World.block_lt_of_cell? _ _ (hHeld.1))).trans (hHeld.1)
                          have HS1_ := (hb.cell (World.block_lt_of_cell? _ _ (hHeld.2.1))).trans (hHeld.2.1)
                          have HS2_ := (hb.cell (World.block_lt_of_cell? _ _ (hHeld.2.2.1))).trans (hHeld.2.2.1)
                          have HS3_ := (hb.cell (World.block_lt_of_cell? _ _ (hHeld.2.2.2.1))).trans (hHeld.2.2.2.1)
                          have HS4_ := (hb.cell (World.block_lt_of_cell? _ _ (hHeld.2.2.2.2.1))).trans (hHeld.2.2.2.2.1)
                          have HS5_ := (hb.cell (World.block_lt_of_cell? _ _ (hHeld.2.2.2.2.2.1))).trans (hHeld.2.2.2.2.2.1)
                          have HS6_ := (hb.cell (World.block_lt_of_cell? _ _ (hHeld.2.2.2.2.2.2))).trans (hHeld.2.2.2.2.2.2)
                          refine ⟨_, rfl, ?_⟩
                          have n0_ := Aside0.mk (Kd.V_below (by (with_reducible repeat (first | apply Kd.V_alloc | apply Kd.V_drewN | apply Kd.V_drew)); exact HO_0.out) hb)
                          have n1_ := Aside0.mk (below_step (by repeat (first | (with_reducible first | exact HB.out | apply below_alloc | apply pw_below_drewN | apply below_drew1) | exact HB.out)) hb)
                          clear HO_0
                          clear HB
                          have HO_0 := n0_
                          have HB := n1_
                          clear n0_ n1_
                          (try clear hb)
                          (try clear hb2)
                          (try clear hk)
                          (try clear hi)
                          refine hK.out _ _ ⟨HS0_, HS1_, HS2_, HS3_, HS4_, HS5_, HS6_⟩ (fun hHeld => ?_)
                          clear hK K
                          refine norm_ (a' := ?_) ?_ ?_
                          rotate_left
                          · show Act.put _ (some 35) _ = _
                            simp only [Act.put, List.setIfInBounds_toArray, List.set_cons_zero, List.set_cons_succ, i64_w, i32_w]
                            rfl
                          refine pure_ (i := 5) (N := some 36) (v := ?_) (a' := ?_) #[true, true, true, true, true, true, false, false, false, false, false, false, false, false, false, false, false, false, false, false, false] rfl rfl (any_of HT_.out (by kernel_rfl)) (fun _ _ _ h => h) (Or.inl ⟨by rfl, ?_⟩) ?_ ?_
                          rotate_left
                          · intro w'
                            go_simp
                            with_reducible rfl
                          rotate_left
                          · simp only [Act.put, List.setIfInBounds_toArray, List.set_cons_zero, List.set_cons_succ, i64_w, i32_w]
                            rfl
                          refine pure_ (i := 6) (N := some 37) (v := ?_) (a' := ?_) #[true, true, true, true, true, true, true, false, false, false, false, false, false, false, false, false, false, false, false, false, false] rfl rfl (any_of HT_.out (by kernel_rfl)) (fun _ _ _ h => h) (Or.inl ⟨by rfl, ?_⟩) ?_ ?_
                          rotate_left
                          · intro w'
                            go_simp
                            with_reducible rfl
                          rotate_left
                          · simp only [Act.put, List.setIfInBounds_toArray, List.set_cons_zero, List.set_cons_succ, i64_w, i32_w]
                            rfl
                          refine pure_ (i := 7) (N := some 38) (v := undef) (a' := ?_) #[true, true, true, true, true, true, true, true, false, false, false, false, false, false, false, false, false, false, false, false, false] rfl rfl (any_of HT_.out (by kernel_rfl)) (fun _ _ _ h => h) (Or.inr ⟨by rfl, rfl⟩) ?_ ?_
                          rotate_left
                          · simp only [Act.put, List.setIfInBounds_toArray, List.set_cons_zero, List.set_cons_succ, i64_w, i32_w]
                            rfl
                          refine pure_ (i := 8) (N := some 39) (v := undef) (a' := ?_) #[true, true, true, true, true, true, true, true, true, false, false, false, false, false, false, false, false, false, false, false, false] rfl rfl (any_of HT_.out (by kernel_rfl)) (fun _ _ _ h => h) (Or.inr ⟨by rfl, rfl⟩) ?_ ?_
                          rotate_left
                          · simp only [Act.put, List.setIfInBounds_toArray, List.set_cons_zero, List.set_cons_succ, i64_w, i32_w]
                            rfl
                          refine pure_ (i := 9) (N := some 40) (v := undef) (a' := ?_) #[true, true, true, true, true, true, true, true, true, true, false, false, false, false, false, false, false, false, false, false, false] rfl rfl (any_of HT_.out (by kernel_rfl)) (fun _ _ _ h => h) (Or.inr ⟨by rfl, rfl⟩) ?_ ?_
                          rotate_left
                          · simp only [Act.put, List.setIfInBounds_toArray, List.set_cons_zero, List.set_cons_succ, i64_w, i32_w]
                            rfl
                          refine pure_ (i := 10) (N := some 41) (v := undef) (a' := ?_) #[true, true, true, true, true, true, true, true, true, true, true, false, false, false, false, false, false, false, false, false, false] rfl rfl (any_of HT_.out (by kernel_rfl)) (fun _ _ _ h => h) (Or.inr ⟨by rfl, rfl⟩) ?_ ?_
                          rotate_left
                          · simp only [Act.put, List.setIfInBounds_toArray, List.set_cons_zero, List.set_cons_succ, i64_w, i32_w]
                            rfl
                          refine pure_ (i := 11) (N := some 42) (v := undef) (a' := ?_) #[true, true, true, true, true, true, true, true, true, true, true, true, false, false, false, false, false, false, false, false, false] rfl rfl (any_of HT_.out (by kernel_rfl)) (fun _ _ _ h => h) (Or.inr ⟨by rfl, rfl⟩) ?_ ?_
                          rotate_left
                          · simp only [Act.put, List.setIfInBounds_toArray, List.set_cons_zero, List.set_cons_succ, i64_w, i32_w]
                            rfl
                          refine pure_ (i := 12) (N := some 43) (v := undef) (a' := ?_) #[true, true, true, true, true, true, true, true, true, true, true, true, true, false, false, false, false, false, false, false, false] rfl rfl (any_of HT_.out (by kernel_rfl)) (fun _ _ _ h => h) (Or.inr ⟨by rfl, rfl⟩) ?_ ?_
                          rotate_left
                          · simp only [Act.put, List.setIfInBounds_toArray, List.set_cons_zero, List.set_cons_succ, i64_w, i32_w]
                            rfl
                          refine pure_ (i := 13) (N := some 44) (v := undef) (a' := ?_) #[true, true, true, true, true, true, true, true, true, true, true, true, true, true, false, false, false, false, false, false, false] rfl rfl (any_of HT_.out (by kernel_rfl)) (fun _ _ _ h => h) (Or.inr ⟨by rfl, rfl⟩) ?_ ?_
                          rotate_left
                          · simp only [Act.put, List.setIfInBounds_toArray, List.set_cons_zero, List.set_cons_succ, i64_w, i32_w]
                            rfl
                          refine pure_ (i := 14) (N := some 45) (v := undef) (a' := ?_) #[true, true, true, true, true, true, true, true, true, true, true, true, true, true, true, false, false, false, false, false, false] rfl rfl (any_of HT_.out (by kernel_rfl)) (fun _ _ _ h => h) (Or.inr ⟨by rfl, rfl⟩) ?_ ?_
                          rotate_left
                          · simp only [Act.put, List.setIfInBounds_toArray, List.set_cons_zero, List.set_cons_succ, i64_w, i32_w]
                            rfl
                          refine pure_ (i := 15) (N := some 46) (v := undef) (a' := ?_) #[true, true, true, true, true, true, true, true, true, true, true, true, true, true, true, true, false, false, false, false, false] rfl rfl (any_of HT_.out (by kernel_rfl)) (fun _ _ _ h => h) (Or.inr ⟨by rfl, rfl⟩) ?_ ?_
                          rotate_left
                          · simp only [Act.put, List.setIfInBounds_toArray, List.set_cons_zero, List.set_cons_succ, i64_w, i32_w]
                            rfl
                          refine pure_ (i := 16) (N := some 47) (v := undef) (a' := ?_) #[true, true, true, true, true, true, true, true, true, true, true, true, true, true, true, true, true, false, false, false, false] rfl rfl (any_of HT_.out (by kernel_rfl)) (fun _ _ _ h => h) (Or.inr ⟨by rfl, rfl⟩) ?_ ?_
                          rotate_left
                          · simp only [Act.put, List.setIfInBounds_toArray, List.set_cons_zero, List.set_cons_succ, i64_w, i32_w]
                            rfl
                          refine pure_ (i := 17) (N := some 48) (v := undef) (a' := ?_) #[true, true, true, true, true, true, true, true, true, true, true, true, true, true, true, true, true, true, false, false, false] rfl rfl (any_of HT_.out (by kernel_rfl)) (fun _ _ _ h => h) (Or.inr ⟨by rfl, rfl⟩) ?_ ?_
                          rotate_left
                          · simp only [Act.put, List.setIfInBounds_toArray, List.set_cons_zero, List.set_cons_succ, i64_w, i32_w]
                            rfl
                          refine pure_ (i := 18) (N := some 49) (v := undef) (a' := ?_) #[true, true, true, true, true, true, true, true, true, true, true, true, true, true, true, true, true, true, true, false, false] rfl rfl (any_of HT_.out (by kernel_rfl)) (fun _ _ _ h => h) (Or.inr ⟨by rfl, rfl⟩) ?_ ?_
                          rotate_left
                          · simp only [Act.put, List.setIfInBounds_toArray, List.set_cons_zero, List.set_cons_succ, i64_w, i32_w]
                            rfl
                          refine pure_ (i := 19) (N := some 50) (v := undef) (a' := ?_) #[true, true, true, true, true, true, true, true, true, true, true, true, true, true, true, true, true, true, true, true, false] rfl rfl (any_of HT_.out (by kernel_rfl)) (fun _ _ _ h => h) (Or.inr ⟨by rfl, rfl⟩) ?_ ?_
                          rotate_left
                          · simp only [Act.put, List.setIfInBounds_toArray, List.set_cons_zero, List.set_cons_succ, i64_w, i32_w]
                            rfl
                          refine pure_ (i := 20) (N := some 51) (v := ?_) (a' := ?_) #[true, true, true, true, true, true, true, true, true, true, true, true, true, true, true, true, true, true, true, true, true] rfl rfl (any_of HT_.out (by kernel_rfl)) (fun _ _ _ h => h) (Or.inl ⟨by rfl, ?_⟩) ?_ ?_
                          rotate_left
                          · intro w'
                            go_simp
                            with_reducible rfl
                          rotate_left
                          · simp only [Act.put, List.setIfInBounds_toArray, List.set_cons_zero, List.set_cons_succ, i64_w, i32_w]
                            rfl
                          refine done_ (done_of HT_.out (by kernel_rfl)) ?_
                          try go_wp2
                          go_meet
                          case rel => exact ⟨_, (true), (by first | rfl | (simp; done) | (simp [*]; done)), H', ⟨by have := HK1.out; have := HK2.out; have := HJ6.out; first | omega | exact Nat.le_refl _⟩, ⟨by (with_reducible repeat (first | apply Kd.V_alloc | apply Kd.V_drewN | apply Kd.V_drew)); exact HO_0.out⟩, ⟨by repeat (first | (with_reducible first | exact HB.out | apply below_alloc | apply pw_below_drewN | apply below_drew1) | exact HB.out)⟩⟩
                      · rw [if_neg c16] at H
                        exact absurd H (by simp)
                    · rw [if_neg c15] at H
                      exact absurd H (by simp)
                  case rest =>
                    clear HC14
                    try clear c1
                    try clear p1
                    try clear q1
                    try clear hx1
                    try clear c2
                    try clear p2
                    try clear c3
                    try clear c5
                    try clear c5b0
                    try clear p6
                    try clear c8
                    try clear c8b0
                    try clear c9
                    try clear c9b0
                    try clear c10
                    try clear c10b0
                    try clear p11
                    try clear q11
                    try clear hx11
                    try clear c13
                    try clear c15
                    try clear c15b0
                    try clear c16
                    try clear c16b0
                    try clear c18
                    try clear c19
                    try clear c19b0
                    try clear c20
                    try clear c20b0
                    try clear hx111_0
                    try clear hx111_1
                    try clear hx111_2
                    try clear hx111_3
                    try clear hx111_4
                    try clear hx111_5
                    try clear hx111_6
                    try clear hx113_0
                    try clear hx113_1
                    try clear hx113_2
                    try clear hx113_3
                    try clear hx113_4
                    try clear hx113_5
                    try clear hx113_6
                    try clear hx115_0
                    try clear hx115_1
                    try clear hx115_2
                    try clear hx115_3
                    try clear hx115_4
                    try clear hx115_5
                    try clear hx115_6
                    try clear hx116_0
                    try clear hx116_1
                    try clear hx116_2
                    try clear hx116_3
                    try clear hx116_4
                    try clear hx116_5
                    try clear hx116_6
                    try clear p1
                    try clear p11
                    try clear p111
                    try clear p113
                    try clear p115
                    try clear p116
                    try clear p2
                    try clear p6
                    try clear q1
                    try clear q11
                    try clear q111
                    try clear q113
                    try clear q115
                    try clear q116
                    obtain ⟨kq, x51_13, rfl, HA, HJ13, HO_0, HB⟩ := hcut
                    cases kq with
                    | zero => exact absurd HA.out (by simp [decorumlaw22_AuditGaps.j3])
                    | succ kj13 =>
                      have H := HA.out
                      clear HA
                      simp only [decorumlaw22_AuditGaps.j3] at H
                      by_cases c25 : x51_13 = true
                      · subst c25
                        have H1 : (decorumlaw22_AuditGaps.l1 kj13 t106 a1 x5_2 x6_1 (wrap64 (x7_2 + 1))) = some r := by rw [if_pos rfl] at H; exact H
                        clear H
                        have H := H1
                        clear H1
                        have H' := Aside0.mk H
                        clear H
                        go_wp2
                        go_roundg kj13
                        case measure => have := HK1.out; have := HK2.out; have := HJ6.out; have := HJ13.out; omega
                        case rel => exact ⟨(x5_2), (wrap64 (x7_2 + 1)), (by first | rfl | (simp; done) | (simp [*]; done)), (by first | rfl | (simp; done) | (simp [*]; done)), H', ⟨by have := HK1.out; have := HK2.out; have := HJ6.out; have := HJ13.out; omega⟩, ⟨by (with_reducible repeat (first | apply Kd.V_alloc | apply Kd.V_drewN | apply Kd.V_drew)); exact HO_0.out⟩, ⟨by repeat (first | (with_reducible first | exact HB.out | apply below_alloc | apply pw_below_drewN | apply below_drew1) | exact HB.out)⟩⟩
                      · replace c25 := Bool.eq_false_iff.mpr c25
                        subst c25
                        have H1 : (if 0 ≤ x7_2 then (if x7_2 < (t106.length : Int) then (if 0 ≤ x6_1 then (if x6_1 < (t106.length : Int) then ((decorumref01_Held.f ((rd_T28 t106 x6_1).f1)).bind fun t119 => ((decorumref01_Add.f kj13 ((rd_T28 t106 x7_2).f1) (wrap64 (-t119))).bind fun t120 => (if t120 < a1 then (decorumlaw22_AuditGaps.l0 kj13 t106 a1 false (wrap64 (x6_1 + 1))) else (decorumlaw22_AuditGaps.l0 kj13 t106 a1 x5_2 (wrap64 (x6_1 + 1)))))) else (none)) else (none)) else (none)) else (none)) = some r := by rw [if_neg (show ¬ (false = true) by decide)] at H; exact H
                        clear H
                        have H := H1
                        clear H1
                        by_cases c26 : 0 ≤ x7_2
                        · rw [if_pos c26] at H
                          have c26b0 : decide (0 ≤ x7_2) = true := decide_eq_true c26
                          clear c26
                          by_cases c27 : x7_2 < (t106.length : Int)
                          · rw [if_pos c27] at H
                            have c27b0 : decide (x7_2 < (t106.length : Int)) = true := decide_eq_true c27
                            clear c27
                            by_cases c28 : 0 ≤ x6_1
                            · rw [if_pos c28] at H
                              have c28b0 : decide (0 ≤ x6_1) = true := decide_eq_true c28
                              clear c28
                              by_cases c29 : x6_1 < (t106.length : Int)
                              · rw [if_pos c29] at H
                                have c29b0 : decide (x6_1 < (t106.length : Int)) = true := decide_eq_true c29
                                clear c29
                                replace H := Option.bind_eq_some_iff.mp H
                                obtain ⟨t119, A300, H⟩ := H
                                replace H : ((decorumref01_Add.f kj13 ((rd_T28 t106 x7_2).f1) (wrap64 (-t119))).bind fun t120 => (if t120 < a1 then (decorumlaw22_AuditGaps.l0 kj13 t106 a1 false (wrap64 (x6_1 + 1))) else (decorumlaw22_AuditGaps.l0 kj13 t106 a1 x5_2 (wrap64 (x6_1 + 1))))) = some r := H
                                have A30 := Aside0.mk A300
                                clear A300
                                replace H := Option.bind_eq_some_iff.mp H
                                obtain ⟨t120, A310, H⟩ := H
                                replace H : (if t120 < a1 then (decorumlaw22_AuditGaps.l0 kj13 t106 a1 false (wrap64 (x6_1 + 1))) else (decorumlaw22_AuditGaps.l0 kj13 t106 a1 x5_2 (wrap64 (x6_1 + 1)))) = some r := H
                                have A31 := Aside0.mk A310
                                clear A310
                                by_cases c32 : t120 < a1
                                · rw [if_pos c32] at H
                                  have c32b0 : decide (t120 < a1) = true := decide_eq_true c32
                                  clear c32
                                  have H' := Aside0.mk H
                                  clear H
                                  try go_wp2
                                  have n0_ := Aside0.mk (Kd.V_drew HO_0.out)
                                  have n1_ := Aside0.mk (below_drew1 HB.out)
                                  clear HO_0
                                  clear HB
                                  have HO_0 := n0_
                                  have HB := n1_
                                  clear n0_ n1_
                                  have p117 : 0 ≤ (x7_2 : Int) := of_decide_eq_true (by first | (with_reducible assumption) | assumption)
                                  have q117 : x7_2 < (t106.length : Int) := of_decide_eq_true (by first | (with_reducible assumption) | assumption)
                                  obtain ⟨ad117, e117, hx117_0, hx117_1, hx117_2, hx117_3, hx117_4, hx117_5, hx117_6⟩ := at_T28 (Kd.V_reads' HO_0.out).2.2 x7_2 p117 q117
                                  cases e117
                                  replace p117 := eq_true p117
                                  replace q117 := eq_true q117
                                  have p118 : 0 ≤ (x6_1 : Int) := of_decide_eq_true (by first | (with_reducible assumption) | assumption)
                                  have q118 : x6_1 < (t106.length : Int) := of_decide_eq_true (by first | (with_reducible assumption) | assumption)
                                  obtain ⟨ad118, e118, hx118_0, hx118_1, hx118_2, hx118_3, hx118_4, hx118_5, hx118_6⟩ := at_T28 (Kd.V_reads' HO_0.out).2.2 x6_1 p118 q118
                                  obtain rfl : ad117 = ad118 := (by injection e118)
                                  replace p118 := eq_true p118
                                  replace q118 := eq_true q118
                                  refine start_ (n := 15) (S := fun w' => w'.cell? (ad117.add ((x7_2).toNat * 7)) = some (.int .i64 ((rd_T28 t106 x7_2).f0)) ∧ w'.cell? ⟨(ad117.add ((x7_2).toNat * 7)).block, (ad117.add ((x7_2).toNat * 7)).off + 1, none⟩ = some (.int .i64 ((rd_T28 t106 x7_2).f1)) ∧ w'.cell? ⟨(ad117.add ((x7_2).toNat * 7)).block, (ad117.add ((x7_2).toNat * 7)).off + 2, none⟩ = some (.int .i64 ((rd_T28 t106 x7_2).f2.f0)) ∧ w'.cell? ⟨(ad117.add ((x7_2).toNat * 7)).block, (ad117.add ((x7_2).toNat * 7)).off + 3, none⟩ = some (.string ((rd_T28 t106 x7_2).f2.f1)) ∧ w'.cell? ⟨(ad117.add ((x7_2).toNat * 7)).block, (ad117.add ((x7_2).toNat * 7)).off + 4, none⟩ = some (.string ((rd_T28 t106 x7_2).f2.f2)) ∧ w'.cell? ⟨(ad117.add ((x7_2).toNat * 7)).block, (ad117.add ((x7_2).toNat * 7)).off + 5, none⟩ = some (.int .i64 ((rd_T28 t106 x7_2).f2.f3)) ∧ w'.cell? ⟨(ad117.add ((x7_2).toNat * 7)).block, (ad117.add ((x7_2).toNat * 7)).off + 6, none⟩ = some (.int .i64 ((rd_T28 t106 x7_2).f2.f4)) ∧ w'.cell? (ad117.add ((x6_1).toNat * 7)) = some (.int .i64 ((rd_T28 t106 x6_1).f0)) ∧ w'.cell? ⟨(ad117.add ((x6_1).toNat * 7)).block, (ad117.add ((x6_1).toNat * 7)).off + 1, none⟩ = some (.int .i64 ((rd_T28 t106 x6_1).f1)) ∧ w'.cell? ⟨(ad117.add ((x6_1).toNat * 7)).block, (ad117.add ((x6_1).toNat * 7)).off + 2, none⟩ = some (.int .i64 ((rd_T28 t106 x6_1).f2.f0)) ∧ w'.cell? ⟨(ad117.add ((x6_1).toNat * 7)).block, (ad117.add ((x6_1).toNat * 7)).off + 3, none⟩ = some (.string ((rd_T28 t106 x6_1).f2.f1)) ∧ w'.cell? ⟨(ad117.add ((x6_1).toNat * 7)).block, (ad117.add ((x6_1).toNat * 7)).off + 4, none⟩ = some (.string ((rd_T28 t106 x6_1).f2.f2)) ∧ w'.cell? ⟨(ad117.add ((x6_1).toNat * 7)).block, (ad117.add ((x6_1).toNat * 7)).off + 5, none⟩ = some (.int .i64 ((rd_T28 t106 x6_1).f2.f3)) ∧ w'.cell? ⟨(ad117.add ((x6_1).toNat * 7)).block, (ad117.add ((x6_1).toNat * 7)).off + 6, none⟩ = some (.int .i64 ((rd_T28 t106 x6_1).f2.f4))) (ds := []) #[false, false, false, false, false, false, false, false, false, false, false, false, false, false, false] (by kernel_rfl) rfl rfl ⟨hx117_0, hx117_1, hx117_2, hx117_3, hx117_4, hx117_5, hx117_6, hx118_0, hx118_1, hx118_2, hx118_3, hx118_4, hx118_5, hx118_6⟩ (fun hHeld => ?_); refine with_tabW decorumlaw22_AuditGaps.tab10 decorumlaw22_AuditGaps.bits10 (fun HT_ HW_ => ?_)
                                  generalize wc.drew = w33 at HO_0 HB hx117_0 hx117_1 hx117_2 hx117_3 hx117_4 hx117_5 hx117_6 hx118_0 hx118_1 hx118_2 hx118_3 hx118_4 hx118_5 hx118_6 hHeld ⊢
                                  refine pure_ (i := 0) (N := some 52) (v := ?_) (a' := ?_) #[true, false, false, false, false, false, false, false, false, false, false, false, false, false, false] rfl rfl (any_of HT_.out (by kernel_rfl)) (fun _ _ _ h => h) (Or.inl ⟨by rfl, ?_⟩) ?_ ?_
                                  rotate_left
                                  · intro w'
                                    go_simp
                                    with_reducible rfl
                                  rotate_left
                                  · simp only [Act.put, List.setIfInBounds_toArray, List.set_cons_zero, List.set_cons_succ, i64_w, i32_w]
                                    rfl
                                  refine pure_ (i := 1) (N := some 53) (v := ?_) (a' := ?_) #[true, true, false, false, false, false, false, false, false, false, false, false, false, false, false] rfl rfl (any_of HT_.out (by kernel_rfl)) (fun _ _ _ h => h) (Or.inl ⟨by rfl, ?_⟩) ?_ ?_
                                  rotate_left
                                  · intro w'
                                    go_simp
                                    with_reducible rfl
                                  rotate_left
                                  · simp only [Act.put, List.setIfInBounds_toArray, List.set_cons_zero, List.set_cons_succ, i64_w, i32_w]
                                    rfl
                                  refine pure_ (i := 2) (N := some 54) (v := ?_) (a' := ?_) #[true, true, true, false, false, false, false, false, false, false, false, false, false, false, false] rfl rfl (any_of HT_.out (by kernel_rfl)) (fun _ _ _ h => h) (Or.inl ⟨by rfl, ?_⟩) ?_ ?_
                                  rotate_left
                                  · intro w'
                                    go_simp
                                    with_reducible rfl
                                  rotate_left
                                  · simp only [Act.put, List.setIfInBounds_toArray, List.set_cons_zero, List.set_cons_succ, i64_w, i32_w]
                                    rfl
                                  refine pure_ (i := 3) (N := some 55) (v := ?_) (a' := ?_) #[true, true, true, true, false, false, false, false, false, false, false, false, false, false, false] rfl rfl (any_of HT_.out (by kernel_rfl)) (fun _ _ _ h => h) (Or.inl ⟨by rfl, ?_⟩) ?_ ?_
                                  rotate_left
                                  · intro w'
                                    go_simp
                                    with_reducible rfl
                                  rotate_left
                                  · simp only [Act.put, List.setIfInBounds_toArray, List.set_cons_zero, List.set_cons_succ, i64_w, i32_w]
                                    rfl
                                  refine pure_ (i := 5) (N := some 57) (v := ?_) (a' := ?_) #[true, true, true, true, false, true, false, false, false, false, false, false, false, false, false] rfl rfl (any_of HT_.out (by kernel_rfl)) (fun _ _ _ h => h) (Or.inl ⟨by rfl, ?_⟩) ?_ ?_
                                  rotate_left
                                  · intro w'
                                    go_simp
                                    with_reducible rfl
                                  rotate_left
                                  · simp only [Act.put, List.setIfInBounds_toArray, List.set_cons_zero, List.set_cons_succ, i64_w, i32_w]
                                    rfl
                                  refine pure_ (i := 6) (N := some 58) (v := ?_) (a' := ?_) #[true, true, true, true, false, true, true, false, false, false, false, false, false, false, false] rfl rfl (any_of HT_.out (by kernel_rfl)) (fun _ _ _ h => h) (Or.inl ⟨by rfl, ?_⟩) ?_ ?_
                                  rotate_left
                                  · intro w'
                                    go_simp
                                    with_reducible rfl
                                  rotate_left
                                  · simp only [Act.put, List.setIfInBounds_toArray, List.set_cons_zero, List.set_cons_succ, i64_w, i32_w]
                                    rfl
                                  refine pure_ (i := 7) (N := some 59) (v := ?_) (a' := ?_) #[true, true, true, true, false, true, true, true, false, false, false, false, false, false, false] rfl rfl (any_of HT_.out (by kernel_rfl)) (fun _ _ _ h => h) (Or.inl ⟨by rfl, ?_⟩) ?_ ?_
                                  rotate_left
                                  · intro w'
                                    go_simp
                                    with_reducible rfl
                                  rotate_left
                                  · simp only [Act.put, List.setIfInBounds_toArray, List.set_cons_zero, List.set_cons_succ, i64_w, i32_w]
                                    rfl
                                  refine pure_ (i := 8) (N := some 60) (v := ?_) (a' := ?_) #[true, true, true, true, false, true, true, true, true, false, false, false, false, false, false] rfl rfl (any_of HT_.out (by kernel_rfl)) (fun _ _ _ h => h) (Or.inl ⟨by rfl, ?_⟩) ?_ ?_
                                  rotate_left
                                  · intro w'
                                    go_simp
                                    with_reducible rfl
                                  rotate_left
                                  · simp only [Act.put, List.setIfInBounds_toArray, List.set_cons_zero, List.set_cons_succ, i64_w, i32_w]
                                    rfl
                                  refine pure_ (i := 13) (N := some 65) (v := ?_) (a' := ?_) #[true, true, true, true, false, true, true, true, true, false, false, false, false, true, false] rfl rfl (any_of HT_.out (by kernel_rfl)) (fun _ _ _ h => h) (Or.inl ⟨by rfl, ?_⟩) ?_ ?_
                                  rotate_left
                                  · intro w'
                                    go_simp
                                    with_reducible rfl
                                  rotate_left
                                  · simp only [Act.put, List.setIfInBounds_toArray, List.set_cons_zero, List.set_cons_succ, i64_w, i32_w]
                                    rfl
                                  refine take_ (i := 4) (N := some 56) (v := ?_) (a' := ?_) #[true, true, true, true, true, true, true, true, true, false, false, false, false, true, false] rfl rfl (take_ofW HT_.out HW_.out (by kernel_rfl)) (fun _ _ _ h => h) (Or.inl ⟨by rfl, ?_⟩) hHeld ?_ ?_
                                  rotate_left
                                  · rintro w' ⟨s0, s1, s2, s3, s4, s5, s6, s7, s8, s9, s10, s11, s12, s13⟩
                                    go_simp
                                    with_reducible rfl
                                  rotate_left
                                  · simp only [Act.put, List.setIfInBounds_toArray, List.set_cons_zero, List.set_cons_succ, i64_w, i32_w]
                                    rfl
                                  refine take_ (i := 9) (N := some 61) (v := ?_) (a' := ?_) #[true, true, true, true, true, true, true, true, true, true, false, false, false, true, false] rfl rfl (take_ofW HT_.out HW_.out (by kernel_rfl)) (fun _ _ _ h => h) (Or.inl ⟨by rfl, ?_⟩) hHeld ?_ ?_
                                  rotate_left
                                  · rintro w' ⟨s0, s1, s2, s3, s4, s5, s6, s7, s8, s9, s10, s11, s12, s13⟩
                                    go_simp
                                    with_reducible rfl
                                  rotate_left
                                  · simp only [Act.put, List.setIfInBounds_toArray, List.set_cons_zero, List.set_cons_succ, i64_w, i32_w]
                                    rfl
                                  refine one_ (i := 10) (N := some 62) #[true, true, true, true, true, true, true, true, true, true, true, false, false, true, false] rfl rfl (one_of HT_.out (by kernel_rfl)) (by decide) (fun K hK => ?_)
                                  refine goes_ Try.func11 (by kernel_rfl) rfl #[.int .i64 ((rd_T28 t106 x6_1).f1)] (by rfl) rfl rfl (by (try simp only [List.map_toArray, List.map_cons, List.map_nil]); first | done | rfl | (simp only [List.length_drop, List.length_take]; rfl)) ?_
                                  with_reducible refine (decorumref01_Held.calls ((rd_T28 t106 x6_1).f1) t119 _ A30.out).mono ?_
                                  rintro e w' ⟨rfl, ⟨nd, rfl⟩⟩
                                  refine ⟨_, rfl, ?_⟩
                                  refine hK.out _ _ ⟨hHeld.1, hHeld.2.1, hHeld.2.2.1, hHeld.2.2.2.1, hHeld.2.2.2.2.1, hHeld.2.2.2.2.2.1, hHeld.2.2.2.2.2.2.1, hHeld.2.2.2.2.2.2.2.1, hHeld.2.2.2.2.2.2.2.2.1, hHeld.2.2.2.2.2.2.2.2.2.1, hHeld.2.2.2.2.2.2.2.2.2.2.1, hHeld.2.2.2.2.2.2.2.2.2.2.2.1, hHeld.2.2.2.2.2.2.2.2.2.2.2.2.1, hHeld.2.2.2.2.2.2.2.2.2.2.2.2.2⟩ (fun hHeld => ?_)
                                  clear hK K
                                  refine norm_ (a' := ?_) ?_ ?_
                                  rotate_left
                                  · show Act.put _ (some 62) _ = _
                                    simp only [Act.put, List.setIfInBounds_toArray, List.set_cons_zero, List.set_cons_succ, i64_w, i32_w]
                                    rfl
                                  refine pure_ (i := 11) (N := some 63) (v := ?_) (a' := ?_) #[true, true, true, true, true, true, true, true, true, true, true, true, false, true, false] rfl rfl (any_of HT_.out (by kernel_rfl)) (fun _ _ _ h => h) (Or.inl ⟨by rfl, ?_⟩) ?_ ?_
                                  rotate_left
                                  · intro w'
                                    go_simp
                                    with_reducible rfl
                                  rotate_left
                                  · simp only [Act.put, List.setIfInBounds_toArray, List.set_cons_zero, List.set_cons_succ, i64_w, i32_w]
                                    rfl
                                  refine one_ (i := 12) (N := some 64) #[true, true, true, true, true, true, true, true, true, true, true, true, true, true, false] rfl rfl (one_of HT_.out (by kernel_rfl)) (by decide) (fun K hK => ?_)
                                  refine goes_ Try.func10 (by kernel_rfl) rfl #[.int .i64 ((rd_T28 t106 x7_2).f1), .int .i64 (wrap64 (-t119))] (by rfl) rfl rfl (by (try simp only [List.map_toArray, List.map_cons, List.map_nil]); first | done | rfl | (simp only [List.length_drop, List.length_take]; rfl)) ?_
                                  with_reducible refine (decorumref01_Add.calls kj13 ((rd_T28 t106 x7_2).f1) (wrap64 (-t119)) t120 _ A31.out).mono ?_
                                  rintro e w' ⟨rfl, ⟨nd, rfl⟩⟩
                                  refine ⟨_, rfl, ?_⟩
                                  refine hK.out _ _ ⟨hHeld.1, hHeld.2.1, hHeld.2.2.1, hHeld.2.2.2.1, hHeld.2.2.2.2.1, hHeld.2.2.2.2.2.1, hHeld.2.2.2.2.2.2.1, hHeld.2.2.2.2.2.2.2.1, hHeld.2.2.2.2.2.2.2.2.1, hHeld.2.2.2.2.2.2.2.2.2.1, hHeld.2.2.2.2.2.2.2.2.2.2.1, hHeld.2.2.2.2.2.2.2.2.2.2.2.1, hHeld.2.2.2.2.2.2.2.2.2.2.2.2.1, hHeld.2.2.2.2.2.2.2.2.2.2.2.2.2⟩ (fun hHeld => ?_)
                                  clear hK K
                                  refine norm_ (a' := ?_) ?_ ?_
                                  rotate_left
                                  · show Act.put _ (some 64) _ = _
                                    simp only [Act.put, List.setIfInBounds_toArray, List.set_cons_zero, List.set_cons_succ, i64_w, i32_w]
                                    rfl
                                  refine pure_ (i := 14) (N := some 66) (v := ?_) (a' := ?_) #[true, true, true, true, true, true, true, true, true, true, true, true, true, true, true] rfl rfl (any_of HT_.out (by kernel_rfl)) (fun _ _ _ h => h) (Or.inl ⟨by rfl, ?_⟩) ?_ ?_
                                  rotate_left
                                  · intro w'
                                    go_simp
                                    with_reducible rfl
                                  rotate_left
                                  · simp only [Act.put, List.setIfInBounds_toArray, List.set_cons_zero, List.set_cons_succ, i64_w, i32_w]
                                    rfl
                                  refine done_ (done_of HT_.out (by kernel_rfl)) ?_
                                  try go_wp2
                                  go_roundg kj13
                                  case measure => have := HK1.out; have := HK2.out; have := HJ6.out; have := HJ13.out; omega
                                  case rel => exact ⟨(false), (wrap64 (x6_1 + 1)), (by first | rfl | (simp; done) | (simp [*]; done)), (by first | rfl | (simp; done) | (simp [*]; done)), H', ⟨by have := HK1.out; have := HK2.out; have := HJ6.out; have := HJ13.out; omega⟩, ⟨by (with_reducible repeat (first | apply Kd.V_alloc | apply Kd.V_drewN | apply Kd.V_drew)); exact HO_0.out⟩, ⟨by repeat (first | (with_reducible first | exact HB.out | apply below_alloc | apply pw_below_drewN | apply below_drew1) | exact HB.out)⟩⟩
                                · rw [if_neg c32] at H
                                  have c32b0 : decide (t120 < a1) = false := decide_eq_false c32
                                  clear c32
                                  have H' := Aside0.mk H
                                  clear H
                                  try go_wp2
                                  have n0_ := Aside0.mk (Kd.V_drew HO_0.out)
                                  have n1_ := Aside0.mk (below_drew1 HB.out)
                                  clear HO_0
                                  clear HB
                                  have HO_0 := n0_
                                  have HB := n1_
                                  clear n0_ n1_
                                  have p117 : 0 ≤ (x7_2 : Int) := of_decide_eq_true (by first | (with_reducible assumption) | assumption)
                                  have q117 : x7_2 < (t106.length : Int) := of_decide_eq_true (by first | (with_reducible assumption) | assumption)
                                  obtain ⟨ad117, e117, hx117_0, hx117_1, hx117_2, hx117_3, hx117_4, hx117_5, hx117_6⟩ := at_T28 (Kd.V_reads' HO_0.out).2.2 x7_2 p117 q117
                                  cases e117
                                  replace p117 := eq_true p117
                                  replace q117 := eq_true q117
                                  have p118 : 0 ≤ (x6_1 : Int) := of_decide_eq_true (by first | (with_reducible assumption) | assumption)
                                  have q118 : x6_1 < (t106.length : Int) := of_decide_eq_true (by first | (with_reducible assumption) | assumption)
                                  obtain ⟨ad118, e118, hx118_0, hx118_1, hx118_2, hx118_3, hx118_4, hx118_5, hx118_6⟩ := at_T28 (Kd.V_reads' HO_0.out).2.2 x6_1 p118 q118
                                  obtain rfl : ad117 = ad118 := (by injection e118)
                                  replace p118 := eq_true p118
                                  replace q118 := eq_true q118
                                  refine start_ (n := 15) (S := fun w' => w'.cell? (ad117.add ((x7_2).toNat * 7)) = some (.int .i64 ((rd_T28 t106 x7_2).f0)) ∧ w'.cell? ⟨(ad117.add ((x7_2).toNat * 7)).block, (ad117.add ((x7_2).toNat * 7)).off + 1, none⟩ = some (.int .i64 ((rd_T28 t106 x7_2).f1)) ∧ w'.cell? ⟨(ad117.add ((x7_2).toNat * 7)).block, (ad117.add ((x7_2).toNat * 7)).off + 2, none⟩ = some (.int .i64 ((rd_T28 t106 x7_2).f2.f0)) ∧ w'.cell? ⟨(ad117.add ((x7_2).toNat * 7)).block, (ad117.add ((x7_2).toNat * 7)).off + 3, none⟩ = some (.string ((rd_T28 t106 x7_2).f2.f1)) ∧ w'.cell? ⟨(ad117.add ((x7_2).toNat * 7)).block, (ad117.add ((x7_2).toNat * 7)).off + 4, none⟩ = some (.string ((rd_T28 t106 x7_2).f2.f2)) ∧ w'.cell? ⟨(ad117.add ((x7_2).toNat * 7)).block, (ad117.add ((x7_2).toNat * 7)).off + 5, none⟩ = some (.int .i64 ((rd_T28 t106 x7_2).f2.f3)) ∧ w'.cell? ⟨(ad117.add ((x7_2).toNat * 7)).block, (ad117.add ((x7_2).toNat * 7)).off + 6, none⟩ = some (.int .i64 ((rd_T28 t106 x7_2).f2.f4)) ∧ w'.cell? (ad117.add ((x6_1).toNat * 7)) = some (.int .i64 ((rd_T28 t106 x6_1).f0)) ∧ w'.cell? ⟨(ad117.add ((x6_1).toNat * 7)).block, (ad117.add ((x6_1).toNat * 7)).off + 1, none⟩ = some (.int .i64 ((rd_T28 t106 x6_1).f1)) ∧ w'.cell? ⟨(ad117.add ((x6_1).toNat * 7)).block, (ad117.add ((x6_1).toNat * 7)).off + 2, none⟩ = some (.int .i64 ((rd_T28 t106 x6_1).f2.f0)) ∧ w'.cell? ⟨(ad117.add ((x6_1).toNat * 7)).block, (ad117.add ((x6_1).toNat * 7)).off + 3, none⟩ = some (.string ((rd_T28 t106 x6_1).f2.f1)) ∧ w'.cell? ⟨(ad117.add ((x6_1).toNat * 7)).block, (ad117.add ((x6_1).toNat * 7)).off + 4, none⟩ = some (.string ((rd_T28 t106 x6_1).f2.f2)) ∧ w'.cell? ⟨(ad117.add ((x6_1).toNat * 7)).block, (ad117.add ((x6_1).toNat * 7)).off + 5, none⟩ = some (.int .i64 ((rd_T28 t106 x6_1).f2.f3)) ∧ w'.cell? ⟨(ad117.add ((x6_1).toNat * 7)).block, (ad117.add ((x6_1).toNat * 7)).off + 6, none⟩ = some (.int .i64 ((rd_T28 t106 x6_1).f2.f4))) (ds := []) #[false, false, false, false, false, false, false, false, false, false, false, false, false, false, false] (by kernel_rfl) rfl rfl ⟨hx117_0, hx117_1, hx117_2, hx117_3, hx117_4, hx117_5, hx117_6, hx118_0, hx118_1, hx118_2, hx118_3, hx118_4, hx118_5, hx118_6⟩ (fun hHeld => ?_); refine with_tabW decorumlaw22_AuditGaps.tab10 decorumlaw22_AuditGaps.bits10 (fun HT_ HW_ => ?_)
                                  generalize wc.drew = w34 at HO_0 HB hx117_0 hx117_1 hx117_2 hx117_3 hx117_4 hx117_5 hx117_6 hx118_0 hx118_1 hx118_2 hx118_3 hx118_4 hx118_5 hx118_6 hHeld ⊢
                                  refine pure_ (i := 0) (N := some 52) (v := ?_) (a' := ?_) #[true, false, false, false, false, false, false, false, false, false, false, false, false, false, false] rfl rfl (any_of HT_.out (by kernel_rfl)) (fun _ _ _ h => h) (Or.inl ⟨by rfl, ?_⟩) ?_ ?_
                                  rotate_left
                                  · intro w'
                                    go_simp
                                    with_reducible rfl
                                  rotate_left
                                  · simp only [Act.put, List.setIfInBounds_toArray, List.set_cons_zero, List.set_cons_succ, i64_w, i32_w]
                                    rfl
                                  refine pure_ (i := 1) (N := some 53) (v := ?_) (a' := ?_) #[true, true, false, false, false, false, false, false, false, false, false, false, false, false, false] rfl rfl (any_of HT_.out (by kernel_rfl)) (fun _ _ _ h => h) (Or.inl ⟨by rfl, ?_⟩) ?_ ?_
                                  rotate_left
                                  · intro w'
                                    go_simp
                                    with_reducible rfl
                                  rotate_left
                                  · simp only [Act.put, List.setIfInBounds_toArray, List.set_cons_zero, List.set_cons_succ, i64_w, i32_w]
                                    rfl
                                  refine pure_ (i := 2) (N := some 54) (v := ?_) (a' := ?_) #[true, true, true, false, false, false, false, false, false, false, false, false, false, false, false] rfl rfl (any_of HT_.out (by kernel_rfl)) (fun _ _ _ h => h) (Or.inl ⟨by rfl, ?_⟩) ?_ ?_
                                  rotate_left
                                  · intro w'
                                    go_simp
                                    with_reducible rfl
                                  rotate_left
                                  · simp only [Act.put, List.setIfInBounds_toArray, List.set_cons_zero, List.set_cons_succ, i64_w, i32_w]
                                    rfl
                                  refine pure_ (i := 3) (N := some 55) (v := ?_) (a' := ?_) #[true, true, true, true, false, false, false, false, false, false, false, false, false, false, false] rfl rfl (any_of HT_.out (by kernel_rfl)) (fun _ _ _ h => h) (Or.inl ⟨by rfl, ?_⟩) ?_ ?_
                                  rotate_left
                                  · intro w'
                                    go_simp
                                    with_reducible rfl
                                  rotate_left
                                  · simp only [Act.put, List.setIfInBounds_toArray, List.set_cons_zero, List.set_cons_succ, i64_w, i32_w]
                                    rfl
                                  refine pure_ (i := 5) (N := some 57) (v := ?_) (a' := ?_) #[true, true, true, true, false, true, false, false, false, false, false, false, false, false, false] rfl rfl (any_of HT_.out (by kernel_rfl)) (fun _ _ _ h => h) (Or.inl ⟨by rfl, ?_⟩) ?_ ?_
                                  rotate_left
                                  · intro w'
                                    go_simp
                                    with_reducible rfl
                                  rotate_left
                                  · simp only [Act.put, List.setIfInBounds_toArray, List.set_cons_zero, List.set_cons_succ, i64_w, i32_w]
                                    rfl
                                  refine pure_ (i := 6) (N := some 58) (v := ?_) (a' := ?_) #[true, true, true, true, false, true, true, false, false, false, false, false, false, false, false] rfl rfl (any_of HT_.out (by kernel_rfl)) (fun _ _ _ h => h) (Or.inl ⟨by rfl, ?_⟩) ?_ ?_
                                  rotate_left
                                  · intro w'
                                    go_simp
                                    with_reducible rfl
                                  rotate_left
                                  · simp only [Act.put, List.setIfInBounds_toArray, List.set_cons_zero, List.set_cons_succ, i64_w, i32_w]
                                    rfl
                                  refine pure_ (i := 7) (N := some 59) (v := ?_) (a' := ?_) #[true, true, true, true, false, true, true, true, false, false, false, false, false, false, false] rfl rfl (any_of HT_.out (by kernel_rfl)) (fun _ _ _ h => h) (Or.inl ⟨by rfl, ?_⟩) ?_ ?_
                                  rotate_left
                                  · intro w'
                                    go_simp
                                    with_reducible rfl
                                  rotate_left
                                  · simp only [Act.put, List.setIfInBounds_toArray, List.set_cons_zero, List.set_cons_succ, i64_w, i32_w]
                                    rfl
                                  refine pure_ (i := 8) (N := some 60) (v := ?_) (a' := ?_) #[true, true, true, true, false, true, true, true, true, false, false, false, false, false, false] rfl rfl (any_of HT_.out (by kernel_rfl)) (fun _ _ _ h => h) (Or.inl ⟨by rfl, ?_⟩) ?_ ?_
                                  rotate_left
                                  · intro w'
                                    go_simp
                                    with_reducible rfl
                                  rotate_left
                                  · simp only [Act.put, List.setIfInBounds_toArray, List.set_cons_zero, List.set_cons_succ, i64_w, i32_w]
                                    rfl
                                  refine pure_ (i := 13) (N := some 65) (v := ?_) (a' := ?_) #[true, true, true, true, false, true, true, true, true, false, false, false, false, true, false] rfl rfl (any_of HT_.out (by kernel_rfl)) (fun _ _ _ h => h) (Or.inl ⟨by rfl, ?_⟩) ?_ ?_
                                  rotate_left
                                  · intro w'
                                    go_simp
                                    with_reducible rfl
                                  rotate_left
                                  · simp only [Act.put, List.setIfInBounds_toArray, List.set_cons_zero, List.set_cons_succ, i64_w, i32_w]
                                    rfl
                                  refine take_ (i := 4) (N := some 56) (v := ?_) (a' := ?_) #[true, true, true, true, true, true, true, true, true, false, false, false, false, true, false] rfl rfl (take_ofW HT_.out HW_.out (by kernel_rfl)) (fun _ _ _ h => h) (Or.inl ⟨by rfl, ?_⟩) hHeld ?_ ?_
                                  rotate_left
                                  · rintro w' ⟨s0, s1, s2, s3, s4, s5, s6, s7, s8, s9, s10, s11, s12, s13⟩
                                    go_simp
                                    with_reducible rfl
                                  rotate_left
                                  · simp only [Act.put, List.setIfInBounds_toArray, List.set_cons_zero, List.set_cons_succ, i64_w, i32_w]
                                    rfl
                                  refine take_ (i := 9) (N := some 61) (v := ?_) (a' := ?_) #[true, true, true, true, true, true, true, true, true, true, false, false, false, true, false] rfl rfl (take_ofW HT_.out HW_.out (by kernel_rfl)) (fun _ _ _ h => h) (Or.inl ⟨by rfl, ?_⟩) hHeld ?_ ?_
                                  rotate_left
                                  · rintro w' ⟨s0, s1, s2, s3, s4, s5, s6, s7, s8, s9, s10, s11, s12, s13⟩
                                    go_simp
                                    with_reducible rfl
                                  rotate_left
                                  · simp only [Act.put, List.setIfInBounds_toArray, List.set_cons_zero, List.set_cons_succ, i64_w, i32_w]
                                    rfl
                                  refine one_ (i := 10) (N := some 62) #[true, true, true, true, true, true, true, true, true, true, true, false, false, true, false] rfl rfl (one_of HT_.out (by kernel_rfl)) (by decide) (fun K hK => ?_)
                                  refine goes_ Try.func11 (by kernel_rfl) rfl #[.int .i64 ((rd_T28 t106 x6_1).f1)] (by rfl) rfl rfl (by (try simp only [List.map_toArray, List.map_cons, List.map_nil]); first | done | rfl | (simp only [List.length_drop, List.length_take]; rfl)) ?_
                                  with_reducible refine (decorumref01_Held.calls ((rd_T28 t106 x6_1).f1) t119 _ A30.out).mono ?_
                                  rintro e w' ⟨rfl, ⟨nd, rfl⟩⟩
                                  refine ⟨_, rfl, ?_⟩
                                  refine hK.out _ _ ⟨hHeld.1, hHeld.2.1, hHeld.2.2.1, hHeld.2.2.2.1, hHeld.2.2.2.2.1, hHeld.2.2.2.2.2.1, hHeld.2.2.2.2.2.2.1, hHeld.2.2.2.2.2.2.2.1, hHeld.2.2.2.2.2.2.2.2.1, hHeld.2.2.2.2.2.2.2.2.2.1, hHeld.2.2.2.2.2.2.2.2.2.2.1, hHeld.2.2.2.2.2.2.2.2.2.2.2.1, hHeld.2.2.2.2.2.2.2.2.2.2.2.2.1, hHeld.2.2.2.2.2.2.2.2.2.2.2.2.2⟩ (fun hHeld => ?_)
                                  clear hK K
                                  refine norm_ (a' := ?_) ?_ ?_
                                  rotate_left
                                  · show Act.put _ (some 62) _ = _
                                    simp only [Act.put, List.setIfInBounds_toArray, List.set_cons_zero, List.set_cons_succ, i64_w, i32_w]
                                    rfl
                                  refine pure_ (i := 11) (N := some 63) (v := ?_) (a' := ?_) #[true, true, true, true, true, true, true, true, true, true, true, true, false, true, false] rfl rfl (any_of HT_.out (by kernel_rfl)) (fun _ _ _ h => h) (Or.inl ⟨by rfl, ?_⟩) ?_ ?_
                                  rotate_left
                                  · intro w'
                                    go_simp
                                    with_reducible rfl
                                  rotate_left
                                  · simp only [Act.put, List.setIfInBounds_toArray, List.set_cons_zero, List.set_cons_succ, i64_w, i32_w]
                                    rfl
                                  refine one_ (i := 12) (N := some 64) #[true, true, true, true, true, true, true, true, true, true, true, true, true, true, false] rfl rfl (one_of HT_.out (by kernel_rfl)) (by decide) (fun K hK => ?_)
                                  refine goes_ Try.func10 (by kernel_rfl) rfl #[.int .i64 ((rd_T28 t106 x7_2).f1), .int .i64 (wrap64 (-t119))] (by rfl) rfl rfl (by (try simp only [List.map_toArray, List.map_cons, List.map_nil]); first | done | rfl | (simp only [List.length_drop, List.length_take]; rfl)) ?_
                                  with_reducible refine (decorumref01_Add.calls kj13 ((rd_T28 t106 x7_2).f1) (wrap64 (-t119)) t120 _ A31.out).mono ?_
                                  rintro e w' ⟨rfl, ⟨nd, rfl⟩⟩
                                  refine ⟨_, rfl, ?_⟩
                                  refine hK.out _ _ ⟨hHeld.1, hHeld.2.1, hHeld.2.2.1, hHeld.2.2.2.1, hHeld.2.2.2.2.1, hHeld.2.2.2.2.2.1, hHeld.2.2.2.2.2.2.1, hHeld.2.2.2.2.2.2.2.1, hHeld.2.2.2.2.2.2.2.2.1, hHeld.2.2.2.2.2.2.2.2.2.1, hHeld.2.2.2.2.2.2.2.2.2.2.1, hHeld.2.2.2.2.2.2.2.2.2.2.2.1, hHeld.2.2.2.2.2.2.2.2.2.2.2.2.1, hHeld.2.2.2.2.2.2.2.2.2.2.2.2.2⟩ (fun hHeld => ?_)
                                  clear hK K
                                  refine norm_ (a' := ?_) ?_ ?_
                                  rotate_left
                                  · show Act.put _ (some 64) _ = _
                                    simp only [Act.put, List.setIfInBounds_toArray, List.set_cons_zero, List.set_cons_succ, i64_w, i32_w]
                                    rfl
                                  refine pure_ (i := 14) (N := some 66) (v := ?_) (a' := ?_) #[true, true, true, true, true, true, true, true, true, true, true, true, true, true, true] rfl rfl (any_of HT_.out (by kernel_rfl)) (fun _ _ _ h => h) (Or.inl ⟨by rfl, ?_⟩) ?_ ?_
                                  rotate_left
                                  · intro w'
                                    go_simp
                                    with_reducible rfl
                                  rotate_left
                                  · simp only [Act.put, List.setIfInBounds_toArray, List.set_cons_zero, List.set_cons_succ, i64_w, i32_w]
                                    rfl
                                  refine done_ (done_of HT_.out (by kernel_rfl)) ?_
                                  try go_wp2
                                  go_roundg kj13
                                  case measure => have := HK1.out; have := HK2.out; have := HJ6.out; have := HJ13.out; omega
                                  case rel => exact ⟨(x5_2), (wrap64 (x6_1 + 1)), (by first | rfl | (simp; done) | (simp [*]; done)), (by first | rfl | (simp; done) | (simp [*]; done)), H', ⟨by have := HK1.out; have := HK2.out; have := HJ6.out; have := HJ13.out; omega⟩, ⟨by (with_reducible repeat (first | apply Kd.V_alloc | apply Kd.V_drewN | apply Kd.V_drew)); exact HO_0.out⟩, ⟨by repeat (first | (with_reducible first | exact HB.out | apply below_alloc | apply pw_below_drewN | apply below_drew1) | exact HB.out)⟩⟩
                              · rw [if_neg c29] at H
                                exact absurd H (by simp)
                            · rw [if_neg c28] at H
                              exact absurd H (by simp)
                          · rw [if_neg c27] at H
                            exact absurd H (by simp)
                        · rw [if_neg c26] at H
                          exact absurd H (by simp)
                · replace c13 := Bool.eq_false_iff.mpr c13
                  subst c13
                  have H1 : (decorumlaw22_AuditGaps.l0 kj6 t106 a1 x5_2 (wrap64 (x6_1 + 1))) = some r := by rw [if_neg (show ¬ (false = true) by decide)] at H; exact H
                  clear H
                  have H := H1
                  clear H1
                  have H' := Aside0.mk H
                  clear H
                  go_wp2
                  go_roundg kj6
                  case measure => have := HK1.out; have := HK2.out; have := HJ6.out; omega
                  case rel => exact ⟨(x5_2), (wrap64 (x6_1 + 1)), (by first | rfl | (simp; done) | (simp [*]; done)), (by first | rfl | (simp; done) | (simp [*]; done)), H', ⟨by have := HK1.out; have := HK2.out; have := HJ6.out; omega⟩, ⟨by (with_reducible repeat (first | apply Kd.V_alloc | apply Kd.V_drewN | apply Kd.V_drew)); exact HO_0.out⟩, ⟨by repeat (first | (with_reducible first | exact HB.out | apply below_alloc | apply pw_below_drewN | apply below_drew1) | exact HB.out)⟩⟩
      · rw [if_neg c5] at H
        have c5b0 : decide (x6_1 < (t106.length : Int)) = false := decide_eq_false c5
        clear c5
        replace H := Option.bind_eq_some_iff.mp H
        obtain ⟨t109, A350, H⟩ := H
        replace H : (if t109 = true then ((audit_Gaps.f t106 a1).bind fun t110 => (some (t110 == x5_1))) else (some false)) = some r := H
        have A35 := Aside0.mk A350
        clear A350
        by_cases c36 : t109 = true
        · subst c36
          have H1 : ((audit_Gaps.f t106 a1).bind fun t110 => (some (t110 == x5_1))) = some r := by rw [if_pos rfl] at H; exact H
          clear H
          have H := H1
          clear H1
          replace H := Option.bind_eq_some_iff.mp H
          obtain ⟨t110, A370, H⟩ := H
          replace H : (some (t110 == x5_1)) = some r := H
          have A37 := Aside0.mk A370
          clear A370
          obtain rfl := Option.some.inj H
          obtain ⟨Ao38, co38, eo38⟩ := Kd.V_slice HO_0.out
          subst eo38
          go_wp2_with (first | ((with_reducible refine gate_callee (f := 12) rfl ?_); refine goesL_ (some 67) rfl rfl Try.func12 (by kernel_rfl) rfl #[] rfl (by (try simp only [List.map_toArray, List.map_cons, List.map_nil]); first | done | rfl | (simp only [List.length_drop, List.length_take]; rfl)) ?_; (with_reducible refine (decorumlaw22_awake.calls  true _ A35.out).mono ?_); rintro e w39 ⟨rfl, hb⟩; refine ⟨_, rfl, ?_⟩; have n0_ := Aside0.mk (Kd.V_below (by (with_reducible repeat (first | apply Kd.V_alloc | apply Kd.V_drewN | apply Kd.V_drew)); exact HO_0.out) hb); have n1_ := Aside0.mk (below_step (by repeat (first | (with_reducible first | exact HB.out | apply below_alloc | apply pw_below_drewN | apply below_drew1) | exact HB.out)) hb); clear HO_0; clear HB; have HO_0 := n0_; have HB := n1_; clear n0_ n1_; (try clear hb); (try clear hb2); (try clear hk); (try clear hi)) | (go_at_call 13; (with_reducible refine (audit_Gaps.calls _ _ t106 a1 t110 _ ?side1 ?side2 A37.out).mono ?_); (case side1 => repeat (first | exact (Kd.V_reads' HO_0.out).2.2 | (with_reducible refine Kd.C_alloc ?_ _) | (with_reducible refine Kd.C_drewN ?_ _) | (with_reducible refine Kd.C_drew ?_))); (case side2 => exact (Kd.V_reads' HO_0.out).2.1); rintro e w40 ⟨rfl, hb⟩; have n0_ := Aside0.mk (Kd.V_below (by (with_reducible repeat (first | apply Kd.V_alloc | apply Kd.V_drewN | apply Kd.V_drew)); exact HO_0.out) hb); have n1_ := Aside0.mk (below_step (by repeat (first | (with_reducible first | exact HB.out | apply below_alloc | apply pw_below_drewN | apply below_drew1) | exact HB.out)) hb); clear HO_0; clear HB; have HO_0 := n0_; have HB := n1_; clear n0_ n1_; (try clear hb); (try clear hb2); (try clear hk); (try clear hi)))
          go_ret
          exact ⟨by first | rfl | (simp [errW_none, errW_some] <;> rfl) | (simp [*, errW_none, errW_some] <;> rfl) | (simp [wrap64]; done), by repeat (first | (with_reducible first | exact HB.out | apply below_alloc | apply pw_below_drewN | apply below_drew1) | exact HB.out)⟩
        · replace c36 := Bool.eq_false_iff.mpr c36
          subst c36
          have H1 : (some false) = some r := by rw [if_neg (show ¬ (false = true) by decide)] at H; exact H
          clear H
          have H := H1
          clear H1
          exact absurd ((Option.some.inj H).trans HR_.out) (by decide)

end Go.Proofs.Ytaggkdnnnmbblaa.QAuditGaps
