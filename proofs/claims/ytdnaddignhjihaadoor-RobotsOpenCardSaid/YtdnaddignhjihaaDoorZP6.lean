/- robotsOpen_holds: a part of its proof (the texts QO2x1, PureAl, WalkRobotsOpen, Lift, RowRobotsOpen without what this claim does not lean on). -/
import Derived.HandedShaped
import Derived.Handed
import Derived.Test.YtdnaddignhjihaaDoorRows
import Derived.WalkKit
import Derived.ProofKit
import Derived.OpenShut
import Derived.ShutString
import Derived.ChangeOld
import Derived.Below
import Derived.SizedLaws
import Derived.LaidMore
import Derived.Lay
import Derived.SevenTiedAt
import Derived.Stop.Joined
import Derived.Test.YtdnaddignhjihaaDoorCards
import Derived.Test.YtdnaddignhjihaaDoorTie
import Derived.Test.YtdnaddignhjihaaDoorZP5
namespace Go.Proofs.YtdnaddignhjihaaDoor.QO2
open Go.Proofs.YtdnaddignhjihaaDoor.Given Go.Proofs.YtdnaddignhjihaaDoor.QBase Go.Proofs.YtdnaddignhjihaaDoor.QU
open Go.RowKit Go.Proofs.YtdnaddignhjihaaDoorW.PrintWords Go.Proofs.YtdnaddignhjihaaDoorW.PrintLast Go.Proofs.YtdnaddignhjihaaDoorW.PrintMore
attribute [local go_sem] max2_int min2_int max_two min_two max_three min_three max_four min_four   -- for this text's walks alone
set_option linter.unusedVariables false
set_option linter.unusedSimpArgs false
mutual
def decorumlaw11_RobotsOpen.j0 : Nat → ByteArray → ByteArray → Bool → Bool → Bool → List (S30) → Int → Option (Bool)
  | 0, _, _, _, _, _, _, _ => none
  | k + 1, x1, x2, x24, x102000, x102001, x102002, x102003 => if x24 = true then ((decorumlaw11_awake.f).bind fun t102 => (some t102)) else (decorumlaw11_RobotsOpen.l0 k x1 x2 0 x102000 x102001 x102002 x102003)
def decorumlaw11_RobotsOpen.l0 : Nat → ByteArray → ByteArray → Int → Bool → Bool → List (S30) → Int → Option (Bool)
  | 0, _, _, _, _, _, _, _ => none
  | k + 1, x1, x2, x7, x102000, x102001, x102002, x102003 => if x7 < (x102002.length : Int) then (if 0 ≤ x7 then (if (((rd_T30 x102002 x7).f1).size : Int) > 80 then ((decorumlaw11_awake.f).bind fun t104 => (some t104)) else (decorumlaw11_RobotsOpen.l0 k x1 x2 (wrap64 (x7 + 1)) x102000 x102001 x102002 x102003)) else (none)) else ((some (([] : List (S30)) : List (S30))).bind fun y106 => (if y106.length + x102002.length < 5864062014805 then ((some (y106 ++ x102002 : List (S30))).bind fun y109 => (if y109.length < 5864062014805 then ((robots_Allowed.f k x102000 x102001 x102002 x102003 x1).bind fun t117 => (if t117 = true then ((robots_Allowed.f k x102000 x102001 (y109 ++ [(⟨true, x2⟩ : S30)]) x102003 x1).bind fun t118 => (decorumlaw11_RobotsOpen.j2 k x1 (!t118) x102000 x102001 x102002 x102003 true x102001 x102002 x102003 false true x102002 x102003)) else (decorumlaw11_RobotsOpen.j2 k x1 false x102000 x102001 x102002 x102003 true x102001 x102002 x102003 false true x102002 x102003))) else (none))) else (none)))
def decorumlaw11_RobotsOpen.j2 : Nat → ByteArray → Bool → Bool → Bool → List (S30) → Int → Bool → Bool → List (S30) → Int → Bool → Bool → List (S30) → Int → Option (Bool)
  | 0, _, _, _, _, _, _, _, _, _, _, _, _, _, _ => none
  | k + 1, x1, x65, x102000, x102001, x102002, x102003, x116000, x116001, x116002, x116003, x117000, x117001, x117002, x117003 => if x65 = true then (some false) else ((decorumlaw11_awake.f).bind fun t119 => (if t119 = true then ((robots_Allowed.f k x116000 x116001 x116002 x116003 x1).bind fun t120 => (if t120 = true then ((robots_Allowed.f k x117000 x117001 x117002 x117003 x1).bind fun t121 => (if (t121 == (x1.toList == ([47, 114, 111, 98, 111, 116, 115, 46, 116, 120, 116] : List UInt8))) = true then ((robots_Allowed.f k false false ([] : List (S30)) x102003 x1).bind fun t122 => (some t122)) else (some false))) else (some false))) else (some false)))
end
def decorumlaw11_RobotsOpen.f (k : Nat) (a0_0 : Bool) (a0_1 : Bool) (l0_2 : List (S30)) (a0_3 : Int) (a1 : ByteArray) (a2 : ByteArray) : Option (Bool) := if (l0_2.length : Int) > 20 then (decorumlaw11_RobotsOpen.j0 k a1 a2 true a0_0 a0_1 l0_2 a0_3) else (if (a1.size : Int) > 80 then (decorumlaw11_RobotsOpen.j0 k a1 a2 true a0_0 a0_1 l0_2 a0_3) else (decorumlaw11_RobotsOpen.j0 k a1 a2 (decide ((a2.size : Int) > 80)) a0_0 a0_1 l0_2 a0_3))
set_option maxHeartbeats 8000000 in
set_option maxRecDepth 100000 in
theorem decorumlaw11_RobotsOpen.calls (k : Nat) (a0_0 : Bool) (a0_1 : Bool) (A0_2 : Option Addr) (c0_2 : Nat) (l0_2 : List (S30)) (a0_3 : Int) (a1 : ByteArray) (a2 : ByteArray) (r : Bool) (w : World) (hr0_2 : Kd.C k30 w A0_2 l0_2.length l0_2) (hc0_2 : l0_2.length ≤ c0_2) (hr_ : r = true) (h : decorumlaw11_RobotsOpen.f k a0_0 a0_1 l0_2 a0_3 a1 a2 = some r) (hS_ : Shp w) :
    Calls Tryd.prog 6 #[.agg #[.bool a0_0, .bool a0_1, .slice A0_2 l0_2.length c0_2, .int .i64 a0_3], .string a1, .string a2] w fun e w' => e = .returned (.bool r) ∧ Below w.heap.size w w' := by
  have HR_ := Aside0.mk (hr_)
  have hu26 := Tryd.underlying26
  have hu30 := Tryd.underlying30
  have HR0_2 := Aside0.mk hr0_2
  have HC0_2 := Aside0.mk hc0_2
  clear hr0_2 hc0_2
  have HB := Aside0.mk (Below.refl w.heap.size w)
  have HS_ := Aside0.mk hS_
  clear hS_
  have H : (if (l0_2.length : Int) > 20 then (decorumlaw11_RobotsOpen.j0 k a1 a2 true a0_0 a0_1 l0_2 a0_3) else (if (a1.size : Int) > 80 then (decorumlaw11_RobotsOpen.j0 k a1 a2 true a0_0 a0_1 l0_2 a0_3) else (decorumlaw11_RobotsOpen.j0 k a1 a2 (decide ((a2.size : Int) > 80)) a0_0 a0_1 l0_2 a0_3))) = some r := h
  clear h
  have HC4 := Aside0.mk H
  clear H
  go_enter Tryd.func6, Tryd.ntmps6
  go_upto_region 1 with (first | ((with_reducible refine gate_dst (N := 3) rfl ?_); (try (refine gate_guard (by rfl) ?_; dsimp only)); refine box_event ?hg (N := 3) ?hd (cs := #[.bool a0_0, .bool a0_1, .slice A0_2 l0_2.length c0_2, .int .i64 a0_3]) (t := 26) ?hr ?_; (case hd => rfl); (case hg => rfl); (case hr => first | (go_simp; done) | (go_simp; rfl)); intro gb101 hg w5 hbox hb; have n0_ := Aside0.mk (below_step (by repeat (first | (with_reducible first | exact HB.out | apply below_alloc | apply pw_below_drewN | apply below_drew1) | exact HB.out)) hb); have n1_ := Aside0.mk (hbox); have n2_ := Aside0.mk ((by rw [hg]; exact (below_size (by repeat (first | (with_reducible first | exact HB.out | apply below_alloc | apply pw_below_drewN | apply below_drew1) | exact HB.out))) : w.heap.size ≤ gb101)); have n3_ := Aside0.mk ((by rw [hg]; exact (below_size (by repeat (first | (with_reducible first | exact HB.out | apply below_alloc | apply pw_below_drewN | apply below_drew1) | exact HB.out))) : w.heap.size ≤ gb101)); clear HB; have HB := n0_; have BK101 := n1_; have GW101 := n2_; have GE101 := n3_; clear n0_ n1_ n2_ n3_; clear hb hbox hg))
  (try simp only [Act.put, List.setIfInBounds_toArray, List.set_cons_zero, List.set_cons_succ])
  go_cut [24] (fun v24 wc => ∃ (kq : Nat) (x24_3 : Bool), v24 = .bool x24_3 ∧ Aside0 (decorumlaw11_RobotsOpen.j0 kq a1 a2 x24_3 a0_0 a0_1 l0_2 a0_3 = some r) ∧ Aside0 (kq ≤ k) ∧ Aside0 (wc.heap[gb101]? = some (.cells #[.bool a0_0, .bool a0_1, (.slice A0_2 l0_2.length c0_2), .int .i64 a0_3] 26 (0, 0))) ∧ Aside0 (Below w.heap.size w wc))
  case first =>
    have H := HC4.out
    clear HC4
    by_cases c6 : (l0_2.length : Int) > 20
    · rw [if_pos c6] at H
      have c6b0 : decide (20 < (l0_2.length : Int)) = true := decide_eq_true c6
      have c6b1 : decide (20 < l0_2.length) = true := decide_eq_true (by omega)
      clear c6
      (first | rw [c6b0] | (simp only [i64_w, i32_w]; rw [c6b0]) | skip)
      have H' := Aside0.mk H
      clear H
      have hcz7_0 : w5.cell? ⟨gb101, 0, none⟩ = some (.bool a0_0) := (blk_cell BK101.out 0).trans rfl
      have hcz7_1 : w5.cell? ⟨gb101, 1, none⟩ = some (.bool a0_1) := (blk_cell BK101.out 1).trans rfl
      have hcz7_2 : w5.cell? ⟨gb101, 2, none⟩ = some (.slice A0_2 l0_2.length c0_2) := (blk_cell BK101.out 2).trans rfl
      have hcz7_3 : w5.cell? ⟨gb101, 3, none⟩ = some (.int .i64 a0_3) := (blk_cell BK101.out 3).trans rfl
      have hfz7_0 := blk_frozen BK101.out 0
      have hfz7_1 := blk_frozen BK101.out 1
      have hfz7_2 := blk_frozen BK101.out 2
      have hfz7_3 := blk_frozen BK101.out 3
      go_wp2
      go_meet
      case rel => exact ⟨_, (true), (by first | rfl | (simp; done) | (simp [*]; done)), H', ⟨by first | omega | exact Nat.le_refl _⟩, ⟨by (with_reducible repeat (first | refine blk_drewN ?_ _ | refine blk_drew ?_ | refine blk_alloc ?_ _)); exact BK101.out⟩, ⟨by repeat (first | (with_reducible first | exact HB.out | apply below_alloc | apply pw_below_drewN | apply below_drew1 | refine below_set ?_ GE101.out) | exact HB.out)⟩⟩
    · rw [if_neg c6] at H
      have c6b0 : decide (20 < (l0_2.length : Int)) = false := decide_eq_false c6
      have c6b1 : decide (20 < l0_2.length) = false := decide_eq_false (by omega)
      clear c6
      (first | rw [c6b0] | (simp only [i64_w, i32_w]; rw [c6b0]) | skip)
      by_cases c8 : (a1.size : Int) > 80
      · rw [if_pos c8] at H
        have c8b0 : decide (80 < (a1.size : Int)) = true := decide_eq_true c8
        have c8b1 : decide (80 < a1.size) = true := decide_eq_true (by omega)
        clear c8
        have H' := Aside0.mk H
        clear H
        have hcz9_0 : w5.cell? ⟨gb101, 0, none⟩ = some (.bool a0_0) := (blk_cell BK101.out 0).trans rfl
        have hcz9_1 : w5.cell? ⟨gb101, 1, none⟩ = some (.bool a0_1) := (blk_cell BK101.out 1).trans rfl
        have hcz9_2 : w5.cell? ⟨gb101, 2, none⟩ = some (.slice A0_2 l0_2.length c0_2) := (blk_cell BK101.out 2).trans rfl
        have hcz9_3 : w5.cell? ⟨gb101, 3, none⟩ = some (.int .i64 a0_3) := (blk_cell BK101.out 3).trans rfl
        have hfz9_0 := blk_frozen BK101.out 0
        have hfz9_1 := blk_frozen BK101.out 1
        have hfz9_2 := blk_frozen BK101.out 2
        have hfz9_3 := blk_frozen BK101.out 3
        go_wp2
        go_meet
        case rel => exact ⟨_, (true), (by first | rfl | (simp; done) | (simp [*]; done)), H', ⟨by first | omega | exact Nat.le_refl _⟩, ⟨by (with_reducible repeat (first | refine blk_drewN ?_ _ | refine blk_drew ?_ | refine blk_alloc ?_ _)); exact BK101.out⟩, ⟨by repeat (first | (with_reducible first | exact HB.out | apply below_alloc | apply pw_below_drewN | apply below_drew1 | refine below_set ?_ GE101.out) | exact HB.out)⟩⟩
      · rw [if_neg c8] at H
        have c8b0 : decide (80 < (a1.size : Int)) = false := decide_eq_false c8
        have c8b1 : decide (80 < a1.size) = false := decide_eq_false (by omega)
        clear c8
        have H' := Aside0.mk H
        clear H
        have hcz10_0 : w5.cell? ⟨gb101, 0, none⟩ = some (.bool a0_0) := (blk_cell BK101.out 0).trans rfl
        have hcz10_1 : w5.cell? ⟨gb101, 1, none⟩ = some (.bool a0_1) := (blk_cell BK101.out 1).trans rfl
        have hcz10_2 : w5.cell? ⟨gb101, 2, none⟩ = some (.slice A0_2 l0_2.length c0_2) := (blk_cell BK101.out 2).trans rfl
        have hcz10_3 : w5.cell? ⟨gb101, 3, none⟩ = some (.int .i64 a0_3) := (blk_cell BK101.out 3).trans rfl
        have hfz10_0 := blk_frozen BK101.out 0
        have hfz10_1 := blk_frozen BK101.out 1
        have hfz10_2 := blk_frozen BK101.out 2
        have hfz10_3 := blk_frozen BK101.out 3
        go_wp2
        go_meet
        case rel => exact ⟨_, (decide ((a2.size : Int) > 80)), (by first | rfl | (simp; done) | (simp [*]; done)), H', ⟨by first | omega | exact Nat.le_refl _⟩, ⟨by (with_reducible repeat (first | refine blk_drewN ?_ _ | refine blk_drew ?_ | refine blk_alloc ?_ _)); exact BK101.out⟩, ⟨by repeat (first | (with_reducible first | exact HB.out | apply below_alloc | apply pw_below_drewN | apply below_drew1 | refine below_set ?_ GE101.out) | exact HB.out)⟩⟩
  case rest =>
    clear HC4
    try clear p2
    try clear c6
    try clear c6b0
    try clear c6b1
    try clear c8
    try clear c8b0
    try clear c8b1
    try clear hcz10_0
    try clear hcz10_1
    try clear hcz10_2
    try clear hcz10_3
    try clear hcz7_0
    try clear hcz7_1
    try clear hcz7_2
    try clear hcz7_3
    try clear hcz9_0
    try clear hcz9_1
    try clear hcz9_2
    try clear hcz9_3
    try clear hfz10_0
    try clear hfz10_1
    try clear hfz10_2
    try clear hfz10_3
    try clear hfz7_0
    try clear hfz7_1
    try clear hfz7_2
    try clear hfz7_3
    try clear hfz9_0
    try clear hfz9_1
    try clear hfz9_2
    try clear hfz9_3
    obtain ⟨kq, x24_3, rfl, HA, HJ3, BK101, HB⟩ := hcut
    cases kq with
    | zero => exact absurd HA.out (by simp [decorumlaw11_RobotsOpen.j0])
    | succ kj3 =>
      have H := HA.out
      clear HA
      simp only [decorumlaw11_RobotsOpen.j0] at H
      by_cases c11 : x24_3 = true
      · subst c11
        have H1 : ((decorumlaw11_awake.f).bind fun t102 => (some t102)) = some r := by rw [if_pos rfl] at H; exact H
        clear H
        have H := H1
        clear H1
        replace H := Option.bind_eq_some_iff.mp H
        obtain ⟨t102, A120, H⟩ := H
        replace H : (some t102) = some r := H
        have A12 := Aside0.mk A120
        clear A120
        obtain rfl := Option.some.inj H
        go_wp2_with (first | ((with_reducible refine gate_callee (f := 7) rfl ?_); refine goesL_ (some 25) rfl rfl Tryd.func7 (by kernel_rfl) rfl #[] rfl (by (try simp only [List.map_toArray, List.map_cons, List.map_nil]); first | done | rfl | (simp only [List.length_drop, List.length_take]; rfl)) ?_; (with_reducible refine (decorumlaw11_awake.calls  t102 _ A12.out (Shp.below HS_.out (by repeat (first | (with_reducible first | exact HB.out | apply below_alloc | apply pw_below_drewN | apply below_drew1 | refine below_set ?_ GE101.out) | exact HB.out)))).mono ?_); rintro e w13 ⟨rfl, hb⟩; refine ⟨_, rfl, ?_⟩; have n0_ := Aside0.mk (blk_below (g := gb101) (o := .cells #[.bool a0_0, .bool a0_1, .slice A0_2 l0_2.length c0_2, .int .i64 a0_3] 26 (0, 0)) (by (with_reducible repeat (first | refine blk_drewN ?_ _ | refine blk_drew ?_ | refine blk_alloc ?_ _)); exact BK101.out) hb); have n1_ := Aside0.mk (below_step (by repeat (first | (with_reducible first | exact HB.out | apply below_alloc | apply pw_below_drewN | apply below_drew1 | refine below_set ?_ GE101.out) | exact HB.out)) hb); clear BK101; clear HB; have BK101 := n0_; have HB := n1_; clear n0_ n1_; (try clear hb); (try clear hb2); (try clear hk); (try clear hi)))
        go_ret
        exact ⟨by first | rfl | (simp [errW_none, errW_some] <;> rfl) | (simp [*, errW_none, errW_some] <;> rfl) | (simp [wrap64]; done) | (simp [errW_none, errW_some] <;> exact empty_bne _), by repeat (first | (with_reducible first | exact HB.out | apply below_alloc | apply pw_below_drewN | apply below_drew1 | refine below_set ?_ GE101.out) | exact HB.out)⟩
      · replace c11 := Bool.eq_false_iff.mpr c11
        subst c11
        have H1 : (decorumlaw11_RobotsOpen.l0 kj3 a1 a2 0 a0_0 a0_1 l0_2 a0_3) = some r := by rw [if_neg (show ¬ (false = true) by decide)] at H; exact H
        clear H
        have H := H1
        clear H1
        have H' := Aside0.mk H
        clear H
        go_wp2
        go_loopg [7] kj3 (fun kq v7 w' => ∃ (x7_2 : Int), v7 = .int .i64 x7_2 ∧ Aside0 (decorumlaw11_RobotsOpen.l0 kq a1 a2 x7_2 a0_0 a0_1 l0_2 a0_3 = some r) ∧ Aside0 (kq ≤ kj3) ∧ Aside0 (w'.heap[gb101]? = some (.cells #[.bool a0_0, .bool a0_1, (.slice A0_2 l0_2.length c0_2), .int .i64 a0_3] 26 (0, 0))) ∧ Aside0 (Below w.heap.size w w'))
        case atStart => exact ⟨(0), (by first | rfl | (simp; done) | (simp [*]; done)), H', ⟨Nat.le_refl _⟩, ⟨by (with_reducible repeat (first | refine blk_drewN ?_ _ | refine blk_drew ?_ | refine blk_alloc ?_ _)); exact BK101.out⟩, ⟨by repeat (first | (with_reducible first | exact HB.out | apply below_alloc | apply pw_below_drewN | apply below_drew1 | refine below_set ?_ GE101.out) | exact HB.out)⟩⟩
        case round =>
          clear H'
          try clear c1
          try clear p2
          try clear c6
          try clear c6b0
          try clear c6b1
          try clear p6
          try clear c7
          try clear c8
          try clear c8b0
          try clear c8b1
          try clear c11
          try clear hcz10_0
          try clear hcz10_1
          try clear hcz10_2
          try clear hcz10_3
          try clear hcz7_0
          try clear hcz7_1
          try clear hcz7_2
          try clear hcz7_3
          try clear hcz9_0
          try clear hcz9_1
          try clear hcz9_2
          try clear hcz9_3
          try clear hfz10_0
          try clear hfz10_1
          try clear hfz10_2
          try clear hfz10_3
          try clear hfz7_0
          try clear hfz7_1
          try clear hfz7_2
          try clear hfz7_3
          try clear hfz9_0
          try clear hfz9_1
          try clear hfz9_2
          try clear hfz9_3
          try clear p2
          obtain ⟨x7_2, rfl, HA, HK2, BK101, HB⟩ := hrel
          cases gk with
          | zero => exact absurd HA.out (by simp [decorumlaw11_RobotsOpen.l0])
          | succ k2 =>
            have H := HA.out
            clear HA
            simp only [decorumlaw11_RobotsOpen.l0] at H
            by_cases c14 : x7_2 < (l0_2.length : Int)
            · rw [if_pos c14] at H
              have c14b0 : decide (x7_2 < (l0_2.length : Int)) = true := decide_eq_true c14
              clear c14
              by_cases c15 : 0 ≤ x7_2
              · rw [if_pos c15] at H
                have c15b0 : decide (0 ≤ x7_2) = true := decide_eq_true c15
                clear c15
                by_cases c16 : (((rd_T30 l0_2 x7_2).f1).size : Int) > 80
                · rw [if_pos c16] at H
                  have c16b0 : decide (80 < (((rd_T30 l0_2 x7_2).f1).size : Int)) = true := decide_eq_true c16
                  have c16b1 : decide (80 < ((rd_T30 l0_2 x7_2).f1).size) = true := decide_eq_true (by omega)
                  clear c16
                  replace H := Option.bind_eq_some_iff.mp H
                  obtain ⟨t104, A170, H⟩ := H
                  replace H : (some t104) = some r := H
                  have A17 := Aside0.mk A170
                  clear A170
                  obtain rfl := Option.some.inj H
                  have hcz18_0 : wr.cell? ⟨gb101, 0, none⟩ = some (.bool a0_0) := (blk_cell BK101.out 0).trans rfl
                  have hcz18_1 : wr.cell? ⟨gb101, 1, none⟩ = some (.bool a0_1) := (blk_cell BK101.out 1).trans rfl
                  have hcz18_2 : wr.cell? ⟨gb101, 2, none⟩ = some (.slice A0_2 l0_2.length c0_2) := (blk_cell BK101.out 2).trans rfl
                  have hcz18_3 : wr.cell? ⟨gb101, 3, none⟩ = some (.int .i64 a0_3) := (blk_cell BK101.out 3).trans rfl
                  have hfz18_0 := blk_frozen BK101.out 0
                  have hfz18_1 := blk_frozen BK101.out 1
                  have hfz18_2 := blk_frozen BK101.out 2
                  have hfz18_3 := blk_frozen BK101.out 3
                  have p103 : 0 ≤ (x7_2 : Int) := of_decide_eq_true (by first | (with_reducible assumption) | assumption)
                  have q103 : x7_2 < (l0_2.length : Int) := of_decide_eq_true (by first | (with_reducible assumption) | assumption)
                  obtain ⟨ad103, e103, hx103_0, hx103_1⟩ := at_T30 HR0_2.out x7_2 p103 q103
                  cases e103
                  replace hx103_0 := (HB.out.cell (World.block_lt_of_cell? w _ hx103_0)).trans hx103_0
                  replace hx103_1 := (HB.out.cell (World.block_lt_of_cell? w _ hx103_1)).trans hx103_1
                  replace p103 := eq_true p103
                  replace q103 := eq_true q103
                  go_wp2_with (first | ((with_reducible refine gate_callee (f := 7) rfl ?_); refine goesL_ (some 41) rfl rfl Tryd.func7 (by kernel_rfl) rfl #[] rfl (by (try simp only [List.map_toArray, List.map_cons, List.map_nil]); first | done | rfl | (simp only [List.length_drop, List.length_take]; rfl)) ?_; (with_reducible refine (decorumlaw11_awake.calls  t104 _ A17.out (Shp.below HS_.out (by repeat (first | (with_reducible first | exact HB.out | apply below_alloc | apply pw_below_drewN | apply below_drew1 | refine below_set ?_ GE101.out) | exact HB.out)))).mono ?_); rintro e w19 ⟨rfl, hb⟩; refine ⟨_, rfl, ?_⟩; have n0_ := Aside0.mk (blk_below (g := gb101) (o := .cells #[.bool a0_0, .bool a0_1, .slice (some ad103) l0_2.length c0_2, .int .i64 a0_3] 26 (0, 0)) (by (with_reducible repeat (first | refine blk_drewN ?_ _ | refine blk_drew ?_ | refine blk_alloc ?_ _)); exact BK101.out) hb); have n1_ := Aside0.mk (below_step (by repeat (first | (with_reducible first | exact HB.out | apply below_alloc | apply pw_below_drewN | apply below_drew1 | refine below_set ?_ GE101.out) | exact HB.out)) hb); clear BK101; clear HB; have BK101 := n0_; have HB := n1_; clear n0_ n1_; (try clear hb); (try clear hb2); (try clear hk); (try clear hi)))
                  go_ret
                  exact ⟨by first | rfl | (simp [errW_none, errW_some] <;> rfl) | (simp [*, errW_none, errW_some] <;> rfl) | (simp [wrap64]; done) | (simp [errW_none, errW_some] <;> exact empty_bne _), by repeat (first | (with_reducible first | exact HB.out | apply below_alloc | apply pw_below_drewN | apply below_drew1 | refine below_set ?_ GE101.out) | exact HB.out)⟩
                · rw [if_neg c16] at H
                  have c16b0 : decide (80 < (((rd_T30 l0_2 x7_2).f1).size : Int)) = false := decide_eq_false c16
                  have c16b1 : decide (80 < ((rd_T30 l0_2 x7_2).f1).size) = false := decide_eq_false (by omega)
                  clear c16
                  have H' := Aside0.mk H
                  clear H
                  have hcz20_0 : wr.cell? ⟨gb101, 0, none⟩ = some (.bool a0_0) := (blk_cell BK101.out 0).trans rfl
                  have hcz20_1 : wr.cell? ⟨gb101, 1, none⟩ = some (.bool a0_1) := (blk_cell BK101.out 1).trans rfl
                  have hcz20_2 : wr.cell? ⟨gb101, 2, none⟩ = some (.slice A0_2 l0_2.length c0_2) := (blk_cell BK101.out 2).trans rfl
                  have hcz20_3 : wr.cell? ⟨gb101, 3, none⟩ = some (.int .i64 a0_3) := (blk_cell BK101.out 3).trans rfl
                  have hfz20_0 := blk_frozen BK101.out 0
                  have hfz20_1 := blk_frozen BK101.out 1
                  have hfz20_2 := blk_frozen BK101.out 2
                  have hfz20_3 := blk_frozen BK101.out 3
                  have p103 : 0 ≤ (x7_2 : Int) := of_decide_eq_true (by first | (with_reducible assumption) | assumption)
                  have q103 : x7_2 < (l0_2.length : Int) := of_decide_eq_true (by first | (with_reducible assumption) | assumption)
                  obtain ⟨ad103, e103, hx103_0, hx103_1⟩ := at_T30 HR0_2.out x7_2 p103 q103
                  cases e103
                  replace hx103_0 := (HB.out.cell (World.block_lt_of_cell? w _ hx103_0)).trans hx103_0
                  replace hx103_1 := (HB.out.cell (World.block_lt_of_cell? w _ hx103_1)).trans hx103_1
                  replace p103 := eq_true p103
                  replace q103 := eq_true q103
                  go_wp2
                  go_roundg k2
                  case measure => have := HJ3.out; have := HK2.out; omega
                  case rel => exact ⟨(wrap64 (x7_2 + 1)), (by first | rfl | (simp; done) | (simp [*]; done)), H', ⟨by have := HJ3.out; have := HK2.out; omega⟩, ⟨by (with_reducible repeat (first | refine blk_drewN ?_ _ | refine blk_drew ?_ | refine blk_alloc ?_ _)); exact BK101.out⟩, ⟨by repeat (first | (with_reducible first | exact HB.out | apply below_alloc | apply pw_below_drewN | apply below_drew1 | refine below_set ?_ GE101.out) | exact HB.out)⟩⟩
              · rw [if_neg c15] at H
                exact absurd H (by simp)
            · rw [if_neg c14] at H
              have c14b0 : decide (x7_2 < (l0_2.length : Int)) = false := decide_eq_false c14
              clear c14
              obtain ⟨y106, hy106⟩ : ∃ y_ : List (S30), y_ = (([] : List (S30))) := ⟨_, rfl⟩
              replace H : (if y106.length + l0_2.length < 5864062014805 then ((some (y106 ++ l0_2 : List (S30))).bind fun y109 => (if y109.length < 5864062014805 then ((robots_Allowed.f k2 a0_0 a0_1 l0_2 a0_3 a1).bind fun t117 => (if t117 = true then ((robots_Allowed.f k2 a0_0 a0_1 (y109 ++ [(⟨true, a2⟩ : S30)]) a0_3 a1).bind fun t118 => (decorumlaw11_RobotsOpen.j2 k2 a1 (!t118) a0_0 a0_1 l0_2 a0_3 true a0_1 l0_2 a0_3 false true l0_2 a0_3)) else (decorumlaw11_RobotsOpen.j2 k2 a1 false a0_0 a0_1 l0_2 a0_3 true a0_1 l0_2 a0_3 false true l0_2 a0_3))) else (none))) else (none)) = some r := by first | (rw [hy106]; with_reducible exact H) | (have H2_ := (Option.bind_some _ _).symm.trans H; rw [hy106]; with_reducible exact H2_) | (have H2_ := (Option.bind_some _ _).symm.trans H; with_reducible exact H2_) | with_reducible exact H | (rw [hy106]; exact H) | exact H
              have Ny106 := Aside0.mk hy106
              clear hy106
              by_cases c21 : y106.length + l0_2.length < 5864062014805
              · rw [if_pos c21] at H
                have LMc21 := Aside0.mk c21
                clear c21
                obtain ⟨y109, hy109⟩ : ∃ y_ : List (S30), y_ = (y106 ++ l0_2) := ⟨_, rfl⟩
                replace H : (if y109.length < 5864062014805 then ((robots_Allowed.f k2 a0_0 a0_1 l0_2 a0_3 a1).bind fun t117 => (if t117 = true then ((robots_Allowed.f k2 a0_0 a0_1 (y109 ++ [(⟨true, a2⟩ : S30)]) a0_3 a1).bind fun t118 => (decorumlaw11_RobotsOpen.j2 k2 a1 (!t118) a0_0 a0_1 l0_2 a0_3 true a0_1 l0_2 a0_3 false true l0_2 a0_3)) else (decorumlaw11_RobotsOpen.j2 k2 a1 false a0_0 a0_1 l0_2 a0_3 true a0_1 l0_2 a0_3 false true l0_2 a0_3))) else (none)) = some r := by first | (rw [hy109]; with_reducible exact H) | (have H2_ := (Option.bind_some _ _).symm.trans H; rw [hy109]; with_reducible exact H2_) | (have H2_ := (Option.bind_some _ _).symm.trans H; with_reducible exact H2_) | with_reducible exact H | (rw [hy109]; exact H) | exact H
                have Ny109 := Aside0.mk hy109
                clear hy109
                by_cases c22 : y109.length < 5864062014805
                · rw [if_pos c22] at H
                  have LMc22 := Aside0.mk c22
                  clear c22
                  obtain ⟨y112, hy112⟩ : ∃ y_ : List (S30), y_ = (y109 ++ [(⟨true, a2⟩ : S30)]) := ⟨_, rfl⟩
                  replace H : ((robots_Allowed.f k2 a0_0 a0_1 l0_2 a0_3 a1).bind fun t117 => (if t117 = true then ((robots_Allowed.f k2 a0_0 a0_1 y112 a0_3 a1).bind fun t118 => (decorumlaw11_RobotsOpen.j2 k2 a1 (!t118) a0_0 a0_1 l0_2 a0_3 true a0_1 l0_2 a0_3 false true l0_2 a0_3)) else (decorumlaw11_RobotsOpen.j2 k2 a1 false a0_0 a0_1 l0_2 a0_3 true a0_1 l0_2 a0_3 false true l0_2 a0_3))) = some r := by first | (rw [hy112]; with_reducible exact H) | (have H2_ := (Option.bind_some _ _).symm.trans H; rw [hy112]; with_reducible exact H2_) | (have H2_ := (Option.bind_some _ _).symm.trans H; with_reducible exact H2_) | with_reducible exact H | (rw [hy112]; exact H) | exact H
                  have Ny112 := Aside0.mk hy112
                  clear hy112
                  have HC23 := Aside0.mk H
                  clear H
                  have hcz24_0 : wr.cell? ⟨gb101, 0, none⟩ = some (.bool a0_0) := (blk_cell BK101.out 0).trans rfl
                  have hcz24_1 : wr.cell? ⟨gb101, 1, none⟩ = some (.bool a0_1) := (blk_cell BK101.out 1).trans rfl
                  have hcz24_2 : wr.cell? ⟨gb101, 2, none⟩ = some (.slice A0_2 l0_2.length c0_2) := (blk_cell BK101.out 2).trans rfl
                  have hcz24_3 : wr.cell? ⟨gb101, 3, none⟩ = some (.int .i64 a0_3) := (blk_cell BK101.out 3).trans rfl
                  have hfz24_0 := blk_frozen BK101.out 0
                  have hfz24_1 := blk_frozen BK101.out 1
                  have hfz24_2 := blk_frozen BK101.out 2
                  have hfz24_3 := blk_frozen BK101.out 3
                  try go_wp2_with (first | ((with_reducible refine gate_dst (N := 8) rfl ?_); (try (refine gate_guard (by rfl) ?_; dsimp only)); refine box_event ?hg (N := 8) ?hd (cs := #[.bool false, .bool false, .slice none 0 0, .int .i64 0]) (t := 26) ?hr ?_; (case hd => rfl); (case hg => rfl); (case hr => first | (go_simp; done) | (go_simp; rfl)); intro gb105 hg w25 hbox hb; have n0_ := Aside0.mk (blk_below (g := gb101) (o := .cells #[.bool a0_0, .bool a0_1, .slice A0_2 l0_2.length c0_2, .int .i64 a0_3] 26 (0, 0)) (by (with_reducible repeat (first | refine blk_drewN ?_ _ | refine blk_drew ?_ | refine blk_alloc ?_ _)); exact BK101.out) hb); have n1_ := Aside0.mk (below_step (by repeat (first | (with_reducible first | exact HB.out | apply below_alloc | apply pw_below_drewN | apply below_drew1 | refine below_set ?_ GE101.out) | exact HB.out)) hb); have n2_ := Aside0.mk (hbox); have n3_ := Aside0.mk ((by rw [hg]; exact (below_size (by repeat (first | (with_reducible first | exact HB.out | apply below_alloc | apply pw_below_drewN | apply below_drew1 | refine below_set ?_ GE101.out) | exact HB.out))) : w.heap.size ≤ gb105)); have n4_ := Aside0.mk ((by rw [hg]; exact (below_size (by repeat (first | (with_reducible first | exact HB.out | apply below_alloc | apply pw_below_drewN | apply below_drew1 | refine below_set ?_ GE101.out) | exact HB.out))) : w.heap.size ≤ gb105)); have n5_ := Aside0.mk ((by rw [hg]; exact Nat.ne_of_lt (blk_lt (g := gb101) (o := .cells #[.bool a0_0, .bool a0_1, .slice A0_2 l0_2.length c0_2, .int .i64 a0_3] 26 (0, 0)) (by (with_reducible repeat (first | refine blk_drewN ?_ _ | refine blk_drew ?_ | refine blk_alloc ?_ _)); exact BK101.out)) : gb101 ≠ gb105)); have n6_ := Aside0.mk ((by rw [hg]; exact Nat.ne_of_gt (blk_lt (g := gb101) (o := .cells #[.bool a0_0, .bool a0_1, .slice A0_2 l0_2.length c0_2, .int .i64 a0_3] 26 (0, 0)) (by (with_reducible repeat (first | refine blk_drewN ?_ _ | refine blk_drew ?_ | refine blk_alloc ?_ _)); exact BK101.out)) : gb105 ≠ gb101)); clear BK101; clear HB; have BK101 := n0_; have HB := n1_; have BK105 := n2_; have GW105 := n3_; have GE105 := n4_; have NB101_105 := n5_; have NB105_101 := n6_; clear n0_ n1_ n2_ n3_ n4_ n5_ n6_; clear hb hbox hg; have hnb26 := NB105_101.out; have hnc26 := NB101_105.out; have hcz27_0 : w25.cell? ⟨gb105, 0, none⟩ = some (.bool false) := (blk_cell BK105.out 0).trans rfl; have hcz27_1 : w25.cell? ⟨gb105, 1, none⟩ = some (.bool false) := (blk_cell BK105.out 1).trans rfl; have hcz27_2 : w25.cell? ⟨gb105, 2, none⟩ = some (.slice none 0 0) := (blk_cell BK105.out 2).trans rfl; have hcz27_3 : w25.cell? ⟨gb105, 3, none⟩ = some (.int .i64 0) := (blk_cell BK105.out 3).trans rfl; have hfz27_0 := blk_frozen BK105.out 0; have hfz27_1 := blk_frozen BK105.out 1; have hfz27_2 := blk_frozen BK105.out 2; have hfz27_3 := blk_frozen BK105.out 3) | ((with_reducible refine gate_dst (N := 43) rfl ?_); (try (refine gate_guard (by rfl) ?_; dsimp only)); refine Kd.R_lit k30 _ 30 ?hg (N := 43) ?hd (xs := ([] : List (S30))) (inner := []) (ok := fun _ => True) (okp := fun _ => True) ?hr ?hp (fun _ hk => hk) trivial (Below.refl _ _) (Nat.le_refl _) (by simp) ?_; (case hd => rfl); (case hg => rfl); (case hr => first | (go_simp; done) | (go_simp; rfl)); (case hp => exact (Reps.none _ _)); intro v107 w28 ho29 hb hg_ hnew_; clear hg_ hnew_; (first | rw [← Ny106.out] at ho29 | (simp only [Int.reduceToNat] at ho29; rw [← Ny106.out] at ho29)); have n0_ := Aside0.mk (Kd.R_lower ho29 (below_size (by repeat (first | (with_reducible first | exact HB.out | apply below_alloc | apply pw_below_drewN | apply below_drew1 | refine below_set ?_ GE101.out | refine below_set ?_ GE105.out) | exact HB.out)))); have n1_ := Aside0.mk (blk_below (g := gb101) (o := .cells #[.bool a0_0, .bool a0_1, .slice A0_2 l0_2.length c0_2, .int .i64 a0_3] 26 (0, 0)) (by (with_reducible repeat (first | refine blk_drewN ?_ _ | refine blk_drew ?_ | refine blk_alloc ?_ _)); refine blk_far ?_ NB101_105.out _; (with_reducible repeat (first | refine blk_drewN ?_ _ | refine blk_drew ?_ | refine blk_alloc ?_ _)); refine blk_far ?_ NB101_105.out _; (with_reducible repeat (first | refine blk_drewN ?_ _ | refine blk_drew ?_ | refine blk_alloc ?_ _)); refine blk_far ?_ NB101_105.out _; (with_reducible repeat (first | refine blk_drewN ?_ _ | refine blk_drew ?_ | refine blk_alloc ?_ _)); refine blk_far ?_ NB101_105.out _; (with_reducible repeat (first | refine blk_drewN ?_ _ | refine blk_drew ?_ | refine blk_alloc ?_ _)); exact BK101.out) hb); have n2_ := Aside0.mk (blk_below (g := gb105) (o := .cells #[.bool a0_0, .bool a0_1, .slice A0_2 l0_2.length c0_2, .int .i64 a0_3] 26 (0, 0)) (by (with_reducible repeat (first | refine blk_drewN ?_ _ | refine blk_drew ?_ | refine blk_alloc ?_ _)); refine blk_put (cs := #[.bool a0_0, .bool a0_1, .slice A0_2 l0_2.length c0_2, .int .i64 0]) ?_ 3 _ rfl; (with_reducible repeat (first | refine blk_drewN ?_ _ | refine blk_drew ?_ | refine blk_alloc ?_ _)); refine blk_put (cs := #[.bool a0_0, .bool a0_1, .slice none 0 0, .int .i64 0]) ?_ 2 _ rfl; (with_reducible repeat (first | refine blk_drewN ?_ _ | refine blk_drew ?_ | refine blk_alloc ?_ _)); refine blk_put (cs := #[.bool a0_0, .bool false, .slice none 0 0, .int .i64 0]) ?_ 1 _ rfl; (with_reducible repeat (first | refine blk_drewN ?_ _ | refine blk_drew ?_ | refine blk_alloc ?_ _)); refine blk_put (cs := #[.bool false, .bool false, .slice none 0 0, .int .i64 0]) ?_ 0 _ rfl; (with_reducible repeat (first | refine blk_drewN ?_ _ | refine blk_drew ?_ | refine blk_alloc ?_ _)); exact BK105.out) hb); have n3_ := Aside0.mk (below_step (by repeat (first | (with_reducible first | exact HB.out | apply below_alloc | apply pw_below_drewN | apply below_drew1 | refine below_set ?_ GE101.out | refine below_set ?_ GE105.out) | exact HB.out)) hb); clear BK101; clear BK105; clear HB; have HO108 := n0_; have BK101 := n1_; have BK105 := n2_; have HB := n3_; clear n0_ n1_ n2_ n3_; clear hb ho29; have hcz30_0 : w28.cell? ⟨gb101, 0, none⟩ = some (.bool a0_0) := (blk_cell BK101.out 0).trans rfl; have hcz30_1 : w28.cell? ⟨gb101, 1, none⟩ = some (.bool a0_1) := (blk_cell BK101.out 1).trans rfl; have hcz30_2 : w28.cell? ⟨gb101, 2, none⟩ = some (.slice A0_2 l0_2.length c0_2) := (blk_cell BK101.out 2).trans rfl; have hcz30_3 : w28.cell? ⟨gb101, 3, none⟩ = some (.int .i64 a0_3) := (blk_cell BK101.out 3).trans rfl; have hfz30_0 := blk_frozen BK101.out 0; have hfz30_1 := blk_frozen BK101.out 1; have hfz30_2 := blk_frozen BK101.out 2; have hfz30_3 := blk_frozen BK101.out 3) | ((with_reducible refine gate_builtin (b := .append) (xs := #[.tmp 43, .tmp 45]) rfl ?_); (try (refine gate_guard (by rfl) ?_; dsimp only)); at_builtin; refine Kd.R_append_rows k30 (w0 := w) w.heap.size rfl (.tmp 43) (.tmp 45) 24 30 (.agg #[(.bool false), (.string ⟨#[]⟩)]) 24 rfl Tryd.underlying24 info30 rfl (by decide) (by omega) v107 y106 l0_2 _ _ _ (fun _ => True) (fun _ => False) rfl rfl ?aO ?aR (fun _ _ h => h) (fun _ h => h.elim) ?aF ?aB ?aS ?aL ?_; (case aR => repeat (first | exact (Kd.C_below HR0_2.out HB.out) | (with_reducible refine Kd.C_alloc ?_ _) | (with_reducible refine Kd.C_drewN ?_ _) | (with_reducible refine Kd.C_drew ?_))); (case aB => exact (by repeat (first | (with_reducible first | exact HB.out | apply below_alloc | apply pw_below_drewN | apply below_drew1 | refine below_set ?_ GE101.out | refine below_set ?_ GE105.out) | exact HB.out))); (case aF => exact (fun _ _ => trivial)); (case aO => exact (by (with_reducible repeat (first | apply Kd.R_alloc | apply Kd.R_drewN | apply Kd.R_drew)); exact HO108.out)); (case aS => exact (below_size (by repeat (first | (with_reducible first | exact HB.out | apply below_alloc | apply pw_below_drewN | apply below_drew1 | refine below_set ?_ GE101.out | refine below_set ?_ GE105.out) | exact HB.out)))); (case aL => have := LMc21.out; omega); intro v110 w31 ho hb hg hat; rw [← Ny109.out] at ho; have n0_ := Aside0.mk (blk_grown (g := gb101) (o := .cells #[.bool a0_0, .bool a0_1, .slice A0_2 l0_2.length c0_2, .int .i64 a0_3] 26 (0, 0)) (by (with_reducible repeat (first | refine blk_drewN ?_ _ | refine blk_drew ?_ | refine blk_alloc ?_ _)); exact BK101.out) hg (Kd.R_ne HO108.out BK101.out (by decide))); have n1_ := Aside0.mk (blk_grown (g := gb105) (o := .cells #[.bool a0_0, .bool a0_1, .slice A0_2 l0_2.length c0_2, .int .i64 a0_3] 26 (0, 0)) (by (with_reducible repeat (first | refine blk_drewN ?_ _ | refine blk_drew ?_ | refine blk_alloc ?_ _)); exact BK105.out) hg (Kd.R_ne HO108.out BK105.out (by decide))); have n2_ := Aside0.mk (hb); have n3_ := Aside0.mk (ho); clear BK101; clear BK105; clear HB; clear HO108; have BK101 := n0_; have BK105 := n1_; have HB := n2_; have HO111 := n3_; clear n0_ n1_ n2_ n3_; clear ho hb hg hat) | ((with_reducible refine gate_builtin (b := .append) (xs := #[.tmp 46, .tmp 49]) rfl ?_); (try (refine gate_guard (by rfl) ?_; dsimp only)); at_builtin; refine Kd.R_append k30 (w0 := w) w.heap.size rfl (.tmp 46) (.tmp 49) 24 30 (.agg #[(.bool false), (.string ⟨#[]⟩)]) 24 rfl Tryd.underlying24 info30 rfl (by decide) (by omega) v110 y109 (⟨true, a2⟩ : S30) [.bool true, .string a2] (fun _ => True) (fun _ => False) rfl rfl ?aP (fun _ hk => hk.elim) ?aF ?aO ?aB ?aS ?aL ?_; (case aP => exact k30_mkM _ _ _ (⟨true, a2⟩ : S30)); (case aB => exact (by repeat (first | (with_reducible first | exact HB.out | apply below_alloc | apply pw_below_drewN | apply below_drew1 | refine below_set ?_ GE101.out | refine below_set ?_ GE105.out) | exact HB.out))); (case aF => exact (fun _ _ => trivial)); (case aO => exact (by (with_reducible repeat (first | apply Kd.R_alloc | apply Kd.R_drewN | apply Kd.R_drew)); exact HO111.out)); (case aS => exact (below_size (by repeat (first | (with_reducible first | exact HB.out | apply below_alloc | apply pw_below_drewN | apply below_drew1 | refine below_set ?_ GE101.out | refine below_set ?_ GE105.out) | exact HB.out)))); (case aL => have := LMc22.out; omega); intro v113 w32 ho hb hg hat; rw [← Ny112.out] at ho; have n0_ := Aside0.mk (blk_grown (g := gb101) (o := .cells #[.bool a0_0, .bool a0_1, .slice A0_2 l0_2.length c0_2, .int .i64 a0_3] 26 (0, 0)) (by (with_reducible repeat (first | refine blk_drewN ?_ _ | refine blk_drew ?_ | refine blk_alloc ?_ _)); exact BK101.out) hg (Kd.R_ne HO111.out BK101.out (by decide))); have n1_ := Aside0.mk (blk_grown (g := gb105) (o := .cells #[.bool a0_0, .bool a0_1, .slice A0_2 l0_2.length c0_2, .int .i64 a0_3] 26 (0, 0)) (by (with_reducible repeat (first | refine blk_drewN ?_ _ | refine blk_drew ?_ | refine blk_alloc ?_ _)); exact BK105.out) hg (Kd.R_ne HO111.out BK105.out (by decide))); have n2_ := Aside0.mk (hb); have n3_ := Aside0.mk (ho); clear BK101; clear BK105; clear HB; clear HO111; have BK101 := n0_; have BK105 := n1_; have HB := n2_; have HO114 := n3_; clear n0_ n1_ n2_ n3_; clear ho hb hg hat; obtain ⟨Ao33, co33, eo33⟩ := Kd.R_slice HO114.out; subst eo33; have hcz34_0 : w32.cell? ⟨gb105, 0, none⟩ = some (.bool a0_0) := (blk_cell BK105.out 0).trans rfl; have hcz34_1 : w32.cell? ⟨gb105, 1, none⟩ = some (.bool a0_1) := (blk_cell BK105.out 1).trans rfl; have hcz34_2 : w32.cell? ⟨gb105, 2, none⟩ = some (.slice A0_2 l0_2.length c0_2) := (blk_cell BK105.out 2).trans rfl; have hcz34_3 : w32.cell? ⟨gb105, 3, none⟩ = some (.int .i64 a0_3) := (blk_cell BK105.out 3).trans rfl; have hfz34_0 := blk_frozen BK105.out 0; have hfz34_1 := blk_frozen BK105.out 1; have hfz34_2 := blk_frozen BK105.out 2; have hfz34_3 := blk_frozen BK105.out 3))
                  have n0_ : Aside0 (Kd.R k30 30 (w32.setCell ⟨gb105, 2, none⟩ (.slice Ao33 y112.length co33)) w.heap.size (fun _ => True) (.slice Ao33 y112.length co33) y112) := ⟨by (with_reducible repeat (first | apply Kd.R_alloc | apply Kd.R_drewN | apply Kd.R_drew)); exact Kd.R_mono (Kd.R_far (p := ⟨gb105, 2, none⟩) (Kd.R_types HO114.out BK105.out (by decide)) (fun _ hk => hk.2) (.slice Ao33 y112.length co33)) (fun _ hk => trivial)⟩
                  have n1_ : Aside0 ((w32.setCell ⟨gb105, 2, none⟩ (.slice Ao33 y112.length co33)).heap[gb101]? = some (.cells #[.bool a0_0, .bool a0_1, .slice A0_2 l0_2.length c0_2, .int .i64 a0_3] 26 (0, 0))) := ⟨by (with_reducible repeat (first | refine blk_drewN ?_ _ | refine blk_drew ?_ | refine blk_alloc ?_ _)); refine blk_far ?_ NB101_105.out _; (with_reducible repeat (first | refine blk_drewN ?_ _ | refine blk_drew ?_ | refine blk_alloc ?_ _)); exact BK101.out⟩
                  have n2_ : Aside0 ((w32.setCell ⟨gb105, 2, none⟩ (.slice Ao33 y112.length co33)).heap[gb105]? = some (.cells #[.bool a0_0, .bool a0_1, .slice Ao33 y112.length co33, .int .i64 a0_3] 26 (0, 0))) := ⟨by (with_reducible repeat (first | refine blk_drewN ?_ _ | refine blk_drew ?_ | refine blk_alloc ?_ _)); refine blk_put (cs := #[.bool a0_0, .bool a0_1, .slice A0_2 l0_2.length c0_2, .int .i64 a0_3]) ?_ 2 _ rfl; (with_reducible repeat (first | refine blk_drewN ?_ _ | refine blk_drew ?_ | refine blk_alloc ?_ _)); exact BK105.out⟩
                  have n3_ : Aside0 (Below w.heap.size w (w32.setCell ⟨gb105, 2, none⟩ (.slice Ao33 y112.length co33))) := ⟨by repeat (first | (with_reducible first | exact HB.out | apply below_alloc | apply pw_below_drewN | apply below_drew1 | refine below_set ?_ GE101.out | refine below_set ?_ GE105.out) | exact HB.out)⟩
                  (try clear HO114)
                  (try clear BK101)
                  (try clear BK105)
                  (try clear HB)
                  generalize (w32.setCell ⟨gb105, 2, none⟩ (.slice Ao33 y112.length co33)) = w35 at n0_ n1_ n2_ n3_ ⊢
                  have HO114 := n0_
                  have BK101 := n1_
                  have BK105 := n2_
                  have HB := n3_
                  clear n0_ n1_ n2_ n3_
                  have n0_ := Aside0.mk (Kd.R_drew HO114.out)
                  have n1_ := Aside0.mk (blk_drew BK101.out)
                  have n2_ := Aside0.mk (blk_drew BK105.out)
                  have n3_ := Aside0.mk (below_drew1 HB.out)
                  clear HO114
                  clear BK101
                  clear BK105
                  clear HB
                  have HO114 := n0_
                  have BK101 := n1_
                  have BK105 := n2_
                  have HB := n3_
                  clear n0_ n1_ n2_ n3_
                  refine start_ (n := 6) (S := fun w' => w'.cell? ⟨gb101, 0, none⟩ = some (.bool a0_0) ∧ w'.cell? ⟨gb101, 1, none⟩ = some (.bool a0_1) ∧ w'.cell? ⟨gb101, 2, none⟩ = some (.slice A0_2 l0_2.length c0_2) ∧ w'.cell? ⟨gb101, 3, none⟩ = some (.int .i64 a0_3)) (ds := []) #[false, false, false, false, false, false] (by kernel_rfl) rfl rfl ⟨(blk_cell BK101.out 0).trans rfl, (blk_cell BK101.out 1).trans rfl, (blk_cell BK101.out 2).trans rfl, (blk_cell BK101.out 3).trans rfl⟩ (fun hHeld => ?_)
                  generalize w35.drew = w36 at HO114 BK101 BK105 HB hHeld ⊢
                  refine take_ (i := 0) (N := some 52) (v := ?_) (a' := ?_) #[true, false, false, false, false, false] rfl rfl (by kernel_rfl) (fun _ _ _ h => h) (Or.inl ⟨by rfl, ?_⟩) hHeld ?_ ?_
                  rotate_left
                  · rintro w' ⟨s0, s1, s2, s3⟩
                    go_simp
                    with_reducible rfl
                  rotate_left
                  · simp only [Act.put, List.setIfInBounds_toArray, List.set_cons_zero, List.set_cons_succ, i64_w, i32_w]
                    rfl
                  refine take_ (i := 1) (N := some 53) (v := ?_) (a' := ?_) #[true, true, false, false, false, false] rfl rfl (by kernel_rfl) (fun _ _ _ h => h) (Or.inl ⟨by rfl, ?_⟩) hHeld ?_ ?_
                  rotate_left
                  · rintro w' ⟨s0, s1, s2, s3⟩
                    go_simp
                    with_reducible rfl
                  rotate_left
                  · simp only [Act.put, List.setIfInBounds_toArray, List.set_cons_zero, List.set_cons_succ, i64_w, i32_w]
                    rfl
                  refine join_ (σ := Nat × Nat) 2 #[true, true, true, true, false, false] (fun s_ => [(9, .pointer (some ⟨s_.1, 0, none⟩)), (10, .pointer (some ⟨s_.2, 0, none⟩))]) (fun s_ w' => (w'.cell? ⟨gb101, 0, none⟩ = some (.bool a0_0) ∧ w'.cell? ⟨gb101, 1, none⟩ = some (.bool a0_1) ∧ w'.cell? ⟨gb101, 2, none⟩ = some (.slice A0_2 l0_2.length c0_2) ∧ w'.cell? ⟨gb101, 3, none⟩ = some (.int .i64 a0_3)) ∧ (Kd.R k30 30 w' w.heap.size (fun _ => True) (.slice Ao33 y112.length co33) y112) ∧ (w'.heap[gb101]? = some (.cells #[.bool a0_0, .bool a0_1, .slice A0_2 l0_2.length c0_2, .int .i64 a0_3] 26 (0, 0))) ∧ (w'.heap[gb105]? = some (.cells #[.bool a0_0, .bool a0_1, .slice Ao33 y112.length co33, .int .i64 a0_3] 26 (0, 0))) ∧ (w'.heap[s_.1]? = some (.cells #[.bool false, .bool false, .slice none 0 0, .int .i64 0] 26 (0, 0))) ∧ (w'.heap[s_.2]? = some (.cells #[.bool false, .bool false, .slice none 0 0, .int .i64 0] 26 (0, 0))) ∧ (w.heap.size ≤ s_.1) ∧ (w.heap.size ≤ s_.1) ∧ (gb101 ≠ s_.1) ∧ (s_.1 ≠ gb101) ∧ (gb105 ≠ s_.1) ∧ (s_.1 ≠ gb105) ∧ (s_.2 ≠ s_.1) ∧ (s_.1 ≠ s_.2) ∧ (w.heap.size ≤ s_.2) ∧ (w.heap.size ≤ s_.2) ∧ (gb101 ≠ s_.2) ∧ (s_.2 ≠ gb101) ∧ (gb105 ≠ s_.2) ∧ (s_.2 ≠ gb105) ∧ (Below w.heap.size w w')) ?_ ?_
                  rotate_left
                  · intro hCont
                    refine two_ (i := 2) (j := 3) (Ni := some 9) (Nj := some 10) #[true, true, true, false, false, false] #[true, true, false, true, false, false] rfl rfl rfl rfl (by kernel_rfl) (by decide) (by decide) (fun K hK => ?_) (fun K hK => ?_)
                    · skip
                      refine box_step ?hg (N := 9) ?hd (cs := #[.bool false, .bool false, .slice none 0 0, .int .i64 0]) (t := 26) ?hr ?_; (case hd => rfl); (case hg => rfl); (case hr => first | (go_simp; done) | (go_simp; rfl))
                      intro gb115 hg w37 hbox hb
                      have n0_ := Aside0.mk (Kd.R_below (by (with_reducible repeat (first | apply Kd.R_alloc | apply Kd.R_drewN | apply Kd.R_drew)); exact HO114.out) hb)
                      have n1_ := Aside0.mk (blk_below (g := gb101) (o := .cells #[.bool a0_0, .bool a0_1, .slice A0_2 l0_2.length c0_2, .int .i64 a0_3] 26 (0, 0)) (by (with_reducible repeat (first | refine blk_drewN ?_ _ | refine blk_drew ?_ | refine blk_alloc ?_ _)); exact BK101.out) hb)
                      have n2_ := Aside0.mk (blk_below (g := gb105) (o := .cells #[.bool a0_0, .bool a0_1, .slice Ao33 y112.length co33, .int .i64 a0_3] 26 (0, 0)) (by (with_reducible repeat (first | refine blk_drewN ?_ _ | refine blk_drew ?_ | refine blk_alloc ?_ _)); exact BK105.out) hb)
                      have n3_ := Aside0.mk (below_step (by repeat (first | (with_reducible first | exact HB.out | apply below_alloc | apply pw_below_drewN | apply below_drew1 | refine below_set ?_ GE101.out | refine below_set ?_ GE105.out) | exact HB.out)) hb)
                      have n4_ := Aside0.mk (hbox)
                      have n5_ := Aside0.mk ((by rw [hg]; exact (below_size (by repeat (first | (with_reducible first | exact HB.out | apply below_alloc | apply pw_below_drewN | apply below_drew1 | refine below_set ?_ GE101.out | refine below_set ?_ GE105.out) | exact HB.out))) : w.heap.size ≤ gb115))
                      have n6_ := Aside0.mk ((by rw [hg]; exact (below_size (by repeat (first | (with_reducible first | exact HB.out | apply below_alloc | apply pw_below_drewN | apply below_drew1 | refine below_set ?_ GE101.out | refine below_set ?_ GE105.out) | exact HB.out))) : w.heap.size ≤ gb115))
                      have n7_ := Aside0.mk ((by rw [hg]; exact Nat.ne_of_lt (blk_lt (g := gb101) (o := .cells #[.bool a0_0, .bool a0_1, .slice A0_2 l0_2.length c0_2, .int .i64 a0_3] 26 (0, 0)) (by (with_reducible repeat (first | refine blk_drewN ?_ _ | refine blk_drew ?_ | refine blk_alloc ?_ _)); exact BK101.out)) : gb101 ≠ gb115))
                      have n8_ := Aside0.mk ((by rw [hg]; exact Nat.ne_of_gt (blk_lt (g := gb101) (o := .cells #[.bool a0_0, .bool a0_1, .slice A0_2 l0_2.length c0_2, .int .i64 a0_3] 26 (0, 0)) (by (with_reducible repeat (first | refine blk_drewN ?_ _ | refine blk_drew ?_ | refine blk_alloc ?_ _)); exact BK101.out)) : gb115 ≠ gb101))
                      have n9_ := Aside0.mk ((by rw [hg]; exact Nat.ne_of_lt (blk_lt (g := gb105) (o := .cells #[.bool a0_0, .bool a0_1, .slice Ao33 y112.length co33, .int .i64 a0_3] 26 (0, 0)) (by (with_reducible repeat (first | refine blk_drewN ?_ _ | refine blk_drew ?_ | refine blk_alloc ?_ _)); exact BK105.out)) : gb105 ≠ gb115))
                      have n10_ := Aside0.mk ((by rw [hg]; exact Nat.ne_of_gt (blk_lt (g := gb105) (o := .cells #[.bool a0_0, .bool a0_1, .slice Ao33 y112.length co33, .int .i64 a0_3] 26 (0, 0)) (by (with_reducible repeat (first | refine blk_drewN ?_ _ | refine blk_drew ?_ | refine blk_alloc ?_ _)); exact BK105.out)) : gb115 ≠ gb105))
                      clear HO114
                      clear BK101
                      clear BK105
                      clear HB
                      have HO114 := n0_
                      have BK101 := n1_
                      have BK105 := n2_
                      have HB := n3_
                      have BK115 := n4_
                      have GW115 := n5_
                      have GE115 := n6_
                      have NB101_115 := n7_
                      have NB115_101 := n8_
                      have NB105_115 := n9_
                      have NB115_105 := n10_
                      clear n0_ n1_ n2_ n3_ n4_ n5_ n6_ n7_ n8_ n9_ n10_
                      clear hb hbox hg
                      refine hK.out _ _ ⟨(blk_cell BK101.out 0).trans rfl, (blk_cell BK101.out 1).trans rfl, (blk_cell BK101.out 2).trans rfl, (blk_cell BK101.out 3).trans rfl⟩ (fun hHeld => ?_)
                      clear hK K
                      refine norm_ (a' := ?_) ?_ ?_
                      rotate_left
                      · show Act.put _ (some 9) _ = _
                        simp only [Act.put, List.setIfInBounds_toArray, List.set_cons_zero, List.set_cons_succ, i64_w, i32_w]
                        rfl
                      refine one_ (i := 3) (N := some 10) #[true, true, true, true, false, false] rfl rfl (by kernel_rfl) (by decide) (fun K hK => ?_)
                      refine box_step ?hg (N := 10) ?hd (cs := #[.bool false, .bool false, .slice none 0 0, .int .i64 0]) (t := 26) ?hr ?_; (case hd => rfl); (case hg => rfl); (case hr => first | (go_simp; done) | (go_simp; rfl))
                      intro gb116 hg w38 hbox hb
                      have n0_ := Aside0.mk (Kd.R_below (by (with_reducible repeat (first | apply Kd.R_alloc | apply Kd.R_drewN | apply Kd.R_drew)); exact HO114.out) hb)
                      have n1_ := Aside0.mk (blk_below (g := gb101) (o := .cells #[.bool a0_0, .bool a0_1, .slice A0_2 l0_2.length c0_2, .int .i64 a0_3] 26 (0, 0)) (by (with_reducible repeat (first | refine blk_drewN ?_ _ | refine blk_drew ?_ | refine blk_alloc ?_ _)); exact BK101.out) hb)
                      have n2_ := Aside0.mk (blk_below (g := gb105) (o := .cells #[.bool a0_0, .bool a0_1, .slice Ao33 y112.length co33, .int .i64 a0_3] 26 (0, 0)) (by (with_reducible repeat (first | refine blk_drewN ?_ _ | refine blk_drew ?_ | refine blk_alloc ?_ _)); exact BK105.out) hb)
                      have n3_ := Aside0.mk (blk_below (g := gb115) (o := .cells #[.bool false, .bool false, .slice none 0 0, .int .i64 0] 26 (0, 0)) (by (with_reducible repeat (first | refine blk_drewN ?_ _ | refine blk_drew ?_ | refine blk_alloc ?_ _)); exact BK115.out) hb)
                      have n4_ := Aside0.mk (below_step (by repeat (first | (with_reducible first | exact HB.out | apply below_alloc | apply pw_below_drewN | apply below_drew1 | refine below_set ?_ GE101.out | refine below_set ?_ GE105.out | refine below_set ?_ GE115.out) | exact HB.out)) hb)
                      have n5_ := Aside0.mk (hbox)
                      have n6_ := Aside0.mk ((by rw [hg]; exact (below_size (by repeat (first | (with_reducible first | exact HB.out | apply below_alloc | apply pw_below_drewN | apply below_drew1 | refine below_set ?_ GE101.out | refine below_set ?_ GE105.out | refine below_set ?_ GE115.out) | exact HB.out))) : w.heap.size ≤ gb116))
                      have n7_ := Aside0.mk ((by rw [hg]; exact (below_size (by repeat (first | (with_reducible first | exact HB.out | apply below_alloc | apply pw_below_drewN | apply below_drew1 | refine below_set ?_ GE101.out | refine below_set ?_ GE105.out | refine below_set ?_ GE115.out) | exact HB.out))) : w.heap.size ≤ gb116))
                      have n8_ := Aside0.mk ((by rw [hg]; exact Nat.ne_of_lt (blk_lt (g := gb101) (o := .cells #[.bool a0_0, .bool a0_1, .slice A0_2 l0_2.length c0_2, .int .i64 a0_3] 26 (0, 0)) (by (with_reducible repeat (first | refine blk_drewN ?_ _ | refine blk_drew ?_ | refine blk_alloc ?_ _)); exact BK101.out)) : gb101 ≠ gb116))
                      have n9_ := Aside0.mk ((by rw [hg]; exact Nat.ne_of_gt (blk_lt (g := gb101) (o := .cells #[.bool a0_0, .bool a0_1, .slice A0_2 l0_2.length c0_2, .int .i64 a0_3] 26 (0, 0)) (by (with_reducible repeat (first | refine blk_drewN ?_ _ | refine blk_drew ?_ | refine blk_alloc ?_ _)); exact BK101.out)) : gb116 ≠ gb101))
                      have n10_ := Aside0.mk ((by rw [hg]; exact Nat.ne_of_lt (blk_lt (g := gb105) (o := .cells #[.bool a0_0, .bool a0_1, .slice Ao33 y112.length co33, .int .i64 a0_3] 26 (0, 0)) (by (with_reducible repeat (first | refine blk_drewN ?_ _ | refine blk_drew ?_ | refine blk_alloc ?_ _)); exact BK105.out)) : gb105 ≠ gb116))
                      have n11_ := Aside0.mk ((by rw [hg]; exact Nat.ne_of_gt (blk_lt (g := gb105) (o := .cells #[.bool a0_0, .bool a0_1, .slice Ao33 y112.length co33, .int .i64 a0_3] 26 (0, 0)) (by (with_reducible repeat (first | refine blk_drewN ?_ _ | refine blk_drew ?_ | refine blk_alloc ?_ _)); exact BK105.out)) : gb116 ≠ gb105))
                      have n12_ := Aside0.mk ((by rw [hg]; exact Nat.ne_of_lt (blk_lt (g := gb115) (o := .cells #[.bool false, .bool false, .slice none 0 0, .int .i64 0] 26 (0, 0)) (by (with_reducible repeat (first | refine blk_drewN ?_ _ | refine blk_drew ?_ | refine blk_alloc ?_ _)); exact BK115.out)) : gb115 ≠ gb116))
                      have n13_ := Aside0.mk ((by rw [hg]; exact Nat.ne_of_gt (blk_lt (g := gb115) (o := .cells #[.bool false, .bool false, .slice none 0 0, .int .i64 0] 26 (0, 0)) (by (with_reducible repeat (first | refine blk_drewN ?_ _ | refine blk_drew ?_ | refine blk_alloc ?_ _)); exact BK115.out)) : gb116 ≠ gb115))
                      clear HO114
                      clear BK101
                      clear BK105
                      clear BK115
                      clear HB
                      have HO114 := n0_
                      have BK101 := n1_
                      have BK105 := n2_
                      have BK115 := n3_
                      have HB := n4_
                      have BK116 := n5_
                      have GW116 := n6_
                      have GE116 := n7_
                      have NB101_116 := n8_
                      have NB116_101 := n9_
                      have NB105_116 := n10_
                      have NB116_105 := n11_
                      have NB115_116 := n12_
                      have NB116_115 := n13_
                      clear n0_ n1_ n2_ n3_ n4_ n5_ n6_ n7_ n8_ n9_ n10_ n11_ n12_ n13_
                      clear hb hbox hg
                      refine hK.out _ _ ⟨(blk_cell BK101.out 0).trans rfl, (blk_cell BK101.out 1).trans rfl, (blk_cell BK101.out 2).trans rfl, (blk_cell BK101.out 3).trans rfl⟩ (fun hHeld => ?_)
                      clear hK K
                      refine norm_ (a' := ?_) ?_ ?_
                      rotate_left
                      · show Act.put _ (some 10) _ = _
                        simp only [Act.put, List.setIfInBounds_toArray, List.set_cons_zero, List.set_cons_succ, i64_w, i32_w]
                        rfl
                      exact norm_ (by simp only [putAll, Act.put, List.setIfInBounds_toArray, List.set_cons_zero, List.set_cons_succ]) (hCont (gb115, gb116) _ ⟨hHeld, (by (with_reducible repeat (first | apply Kd.R_alloc | apply Kd.R_drewN | apply Kd.R_drew)); exact HO114.out), (by (with_reducible repeat (first | refine blk_drewN ?_ _ | refine blk_drew ?_ | refine blk_alloc ?_ _)); exact BK101.out), (by (with_reducible repeat (first | refine blk_drewN ?_ _ | refine blk_drew ?_ | refine blk_alloc ?_ _)); exact BK105.out), (by (with_reducible repeat (first | refine blk_drewN ?_ _ | refine blk_drew ?_ | refine blk_alloc ?_ _)); exact BK115.out), (by (with_reducible repeat (first | refine blk_drewN ?_ _ | refine blk_drew ?_ | refine blk_alloc ?_ _)); exact BK116.out), GW115.out, GE115.out, NB101_115.out, NB115_101.out, NB105_115.out, NB115_105.out, NB116_115.out, NB115_116.out, GW116.out, GE116.out, NB101_116.out, NB116_101.out, NB105_116.out, NB116_105.out, (by repeat (first | (with_reducible first | exact HB.out | apply below_alloc | apply pw_below_drewN | apply below_drew1 | refine below_set ?_ GE101.out | refine below_set ?_ GE105.out | refine below_set ?_ GE115.out | refine below_set ?_ GE116.out) | exact HB.out))⟩)
                    · skip
                      refine box_step ?hg (N := 10) ?hd (cs := #[.bool false, .bool false, .slice none 0 0, .int .i64 0]) (t := 26) ?hr ?_; (case hd => rfl); (case hg => rfl); (case hr => first | (go_simp; done) | (go_simp; rfl))
                      intro gb116 hg w37 hbox hb
                      have n0_ := Aside0.mk (Kd.R_below (by (with_reducible repeat (first | apply Kd.R_alloc | apply Kd.R_drewN | apply Kd.R_drew)); exact HO114.out) hb)
                      have n1_ := Aside0.mk (blk_below (g := gb101) (o := .cells #[.bool a0_0, .bool a0_1, .slice A0_2 l0_2.length c0_2, .int .i64 a0_3] 26 (0, 0)) (by (with_reducible repeat (first | refine blk_drewN ?_ _ | refine blk_drew ?_ | refine blk_alloc ?_ _)); exact BK101.out) hb)
                      have n2_ := Aside0.mk (blk_below (g := gb105) (o := .cells #[.bool a0_0, .bool a0_1, .slice Ao33 y112.length co33, .int .i64 a0_3] 26 (0, 0)) (by (with_reducible repeat (first | refine blk_drewN ?_ _ | refine blk_drew ?_ | refine blk_alloc ?_ _)); exact BK105.out) hb)
                      have n3_ := Aside0.mk (below_step (by repeat (first | (with_reducible first | exact HB.out | apply below_alloc | apply pw_below_drewN | apply below_drew1 | refine below_set ?_ GE101.out | refine below_set ?_ GE105.out) | exact HB.out)) hb)
                      have n4_ := Aside0.mk (hbox)
                      have n5_ := Aside0.mk ((by rw [hg]; exact (below_size (by repeat (first | (with_reducible first | exact HB.out | apply below_alloc | apply pw_below_drewN | apply below_drew1 | refine below_set ?_ GE101.out | refine below_set ?_ GE105.out) | exact HB.out))) : w.heap.size ≤ gb116))
                      have n6_ := Aside0.mk ((by rw [hg]; exact (below_size (by repeat (first | (with_reducible first | exact HB.out | apply below_alloc | apply pw_below_drewN | apply below_drew1 | refine below_set ?_ GE101.out | refine below_set ?_ GE105.out) | exact HB.out))) : w.heap.size ≤ gb116))
                      have n7_ := Aside0.mk ((by rw [hg]; exact Nat.ne_of_lt (blk_lt (g := gb101) (o := .cells #[.bool a0_0, .bool a0_1, .slice A0_2 l0_2.length c0_2, .int .i64 a0_3] 26 (0, 0)) (by (with_reducible repeat (first | refine blk_drewN ?_ _ | refine blk_drew ?_ | refine blk_alloc ?_ _)); exact BK101.out)) : gb101 ≠ gb116))
                      have n8_ := Aside0.mk ((by rw [hg]; exact Nat.ne_of_gt (blk_lt (g := gb101) (o := .cells #[.bool a0_0, .bool a0_1, .slice A0_2 l0_2.length c0_2, .int .i64 a0_3] 26 (0, 0)) (by (with_reducible repeat (first | refine blk_drewN ?_ _ | refine blk_drew ?_ | refine blk_alloc ?_ _)); exact BK101.out)) : gb116 ≠ gb101))
                      have n9_ := Aside0.mk ((by rw [hg]; exact Nat.ne_of_lt (blk_lt (g := gb105) (o := .cells #[.bool a0_0, .bool a0_1, .slice Ao33 y112.length co33, .int .i64 a0_3] 26 (0, 0)) (by (with_reducible repeat (first | refine blk_drewN ?_ _ | refine blk_drew ?_ | refine blk_alloc ?_ _)); exact BK105.out)) : gb105 ≠ gb116))
                      have n10_ := Aside0.mk ((by rw [hg]; exact Nat.ne_of_gt (blk_lt (g := gb105) (o := .cells #[.bool a0_0, .bool a0_1, .slice Ao33 y112.length co33, .int .i64 a0_3] 26 (0, 0)) (by (with_reducible repeat (first | refine blk_drewN ?_ _ | refine blk_drew ?_ | refine blk_alloc ?_ _)); exact BK105.out)) : gb116 ≠ gb105))
                      clear HO114
                      clear BK101
                      clear BK105
                      clear HB
                      have HO114 := n0_
                      have BK101 := n1_
                      have BK105 := n2_
                      have HB := n3_
                      have BK116 := n4_
                      have GW116 := n5_
                      have GE116 := n6_
                      have NB101_116 := n7_
                      have NB116_101 := n8_
                      have NB105_116 := n9_
                      have NB116_105 := n10_
                      clear n0_ n1_ n2_ n3_ n4_ n5_ n6_ n7_ n8_ n9_ n10_
                      clear hb hbox hg
                      refine hK.out _ _ ⟨(blk_cell BK101.out 0).trans rfl, (blk_cell BK101.out 1).trans rfl, (blk_cell BK101.out 2).trans rfl, (blk_cell BK101.out 3).trans rfl⟩ (fun hHeld => ?_)
                      clear hK K
                      refine norm_ (a' := ?_) ?_ ?_
                      rotate_left
                      · show Act.put _ (some 10) _ = _
                        simp only [Act.put, List.setIfInBounds_toArray, List.set_cons_zero, List.set_cons_succ, i64_w, i32_w]
                        rfl
                      refine one_ (i := 2) (N := some 9) #[true, true, true, true, false, false] rfl rfl (by kernel_rfl) (by decide) (fun K hK => ?_)
                      refine box_step ?hg (N := 9) ?hd (cs := #[.bool false, .bool false, .slice none 0 0, .int .i64 0]) (t := 26) ?hr ?_; (case hd => rfl); (case hg => rfl); (case hr => first | (go_simp; done) | (go_simp; rfl))
                      intro gb115 hg w38 hbox hb
                      have n0_ := Aside0.mk (Kd.R_below (by (with_reducible repeat (first | apply Kd.R_alloc | apply Kd.R_drewN | apply Kd.R_drew)); exact HO114.out) hb)
                      have n1_ := Aside0.mk (blk_below (g := gb101) (o := .cells #[.bool a0_0, .bool a0_1, .slice A0_2 l0_2.length c0_2, .int .i64 a0_3] 26 (0, 0)) (by (with_reducible repeat (first | refine blk_drewN ?_ _ | refine blk_drew ?_ | refine blk_alloc ?_ _)); exact BK101.out) hb)
                      have n2_ := Aside0.mk (blk_below (g := gb105) (o := .cells #[.bool a0_0, .bool a0_1, .slice Ao33 y112.length co33, .int .i64 a0_3] 26 (0, 0)) (by (with_reducible repeat (first | refine blk_drewN ?_ _ | refine blk_drew ?_ | refine blk_alloc ?_ _)); exact BK105.out) hb)
                      have n3_ := Aside0.mk (blk_below (g := gb116) (o := .cells #[.bool false, .bool false, .slice none 0 0, .int .i64 0] 26 (0, 0)) (by (with_reducible repeat (first | refine blk_drewN ?_ _ | refine blk_drew ?_ | refine blk_alloc ?_ _)); exact BK116.out) hb)
                      have n4_ := Aside0.mk (below_step (by repeat (first | (with_reducible first | exact HB.out | apply below_alloc | apply pw_below_drewN | apply below_drew1 | refine below_set ?_ GE101.out | refine below_set ?_ GE105.out | refine below_set ?_ GE116.out) | exact HB.out)) hb)
                      have n5_ := Aside0.mk (hbox)
                      have n6_ := Aside0.mk ((by rw [hg]; exact (below_size (by repeat (first | (with_reducible first | exact HB.out | apply below_alloc | apply pw_below_drewN | apply below_drew1 | refine below_set ?_ GE101.out | refine below_set ?_ GE105.out | refine below_set ?_ GE116.out) | exact HB.out))) : w.heap.size ≤ gb115))
                      have n7_ := Aside0.mk ((by rw [hg]; exact (below_size (by repeat (first | (with_reducible first | exact HB.out | apply below_alloc | apply pw_below_drewN | apply below_drew1 | refine below_set ?_ GE101.out | refine below_set ?_ GE105.out | refine below_set ?_ GE116.out) | exact HB.out))) : w.heap.size ≤ gb115))
                      have n8_ := Aside0.mk ((by rw [hg]; exact Nat.ne_of_lt (blk_lt (g := gb101) (o := .cells #[.bool a0_0, .bool a0_1, .slice A0_2 l0_2.length c0_2, .int .i64 a0_3] 26 (0, 0)) (by (with_reducible repeat (first | refine blk_drewN ?_ _ | refine blk_drew ?_ | refine blk_alloc ?_ _)); exact BK101.out)) : gb101 ≠ gb115))
                      have n9_ := Aside0.mk ((by rw [hg]; exact Nat.ne_of_gt (blk_lt (g := gb101) (o := .cells #[.bool a0_0, .bool a0_1, .slice A0_2 l0_2.length c0_2, .int .i64 a0_3] 26 (0, 0)) (by (with_reducible repeat (first | refine blk_drewN ?_ _ | refine blk_drew ?_ | refine blk_alloc ?_ _)); exact BK101.out)) : gb115 ≠ gb101))
                      have n10_ := Aside0.mk ((by rw [hg]; exact Nat.ne_of_lt (blk_lt (g := gb105) (o := .cells #[.bool a0_0, .bool a0_1, .slice Ao33 y112.length co33, .int .i64 a0_3] 26 (0, 0)) (by (with_reducible repeat (first | refine blk_drewN ?_ _ | refine blk_drew ?_ | refine blk_alloc ?_ _)); exact BK105.out)) : gb105 ≠ gb115))
                      have n11_ := Aside0.mk ((by rw [hg]; exact Nat.ne_of_gt (blk_lt (g := gb105) (o := .cells #[.bool a0_0, .bool a0_1, .slice Ao33 y112.length co33, .int .i64 a0_3] 26 (0, 0)) (by (with_reducible repeat (first | refine blk_drewN ?_ _ | refine blk_drew ?_ | refine blk_alloc ?_ _)); exact BK105.out)) : gb115 ≠ gb105))
                      have n12_ := Aside0.mk ((by rw [hg]; exact Nat.ne_of_lt (blk_lt (g := gb116) (o := .cells #[.bool false, .bool false, .slice none 0 0, .int .i64 0] 26 (0, 0)) (by (with_reducible repeat (first | refine blk_drewN ?_ _ | refine blk_drew ?_ | refine blk_alloc ?_ _)); exact BK116.out)) : gb116 ≠ gb115))
                      have n13_ := Aside0.mk ((by rw [hg]; exact Nat.ne_of_gt (blk_lt (g := gb116) (o := .cells #[.bool false, .bool false, .slice none 0 0, .int .i64 0] 26 (0, 0)) (by (with_reducible repeat (first | refine blk_drewN ?_ _ | refine blk_drew ?_ | refine blk_alloc ?_ _)); exact BK116.out)) : gb115 ≠ gb116))
                      clear HO114
                      clear BK101
                      clear BK105
                      clear BK116
                      clear HB
                      have HO114 := n0_
                      have BK101 := n1_
                      have BK105 := n2_
                      have BK116 := n3_
                      have HB := n4_
                      have BK115 := n5_
                      have GW115 := n6_
                      have GE115 := n7_
                      have NB101_115 := n8_
                      have NB115_101 := n9_
                      have NB105_115 := n10_
                      have NB115_105 := n11_
                      have NB116_115 := n12_
                      have NB115_116 := n13_
                      clear n0_ n1_ n2_ n3_ n4_ n5_ n6_ n7_ n8_ n9_ n10_ n11_ n12_ n13_
                      clear hb hbox hg
                      refine hK.out _ _ ⟨(blk_cell BK101.out 0).trans rfl, (blk_cell BK101.out 1).trans rfl, (blk_cell BK101.out 2).trans rfl, (blk_cell BK101.out 3).trans rfl⟩ (fun hHeld => ?_)
                      clear hK K
                      refine norm_ (a' := ?_) ?_ ?_
                      rotate_left
                      · show Act.put _ (some 9) _ = _
                        simp only [Act.put, List.setIfInBounds_toArray, List.set_cons_zero, List.set_cons_succ, i64_w, i32_w]
                        rfl
                      exact norm_ (by simp only [putAll, Act.put, List.setIfInBounds_toArray, List.set_cons_zero, List.set_cons_succ]) (hCont (gb115, gb116) _ ⟨hHeld, (by (with_reducible repeat (first | apply Kd.R_alloc | apply Kd.R_drewN | apply Kd.R_drew)); exact HO114.out), (by (with_reducible repeat (first | refine blk_drewN ?_ _ | refine blk_drew ?_ | refine blk_alloc ?_ _)); exact BK101.out), (by (with_reducible repeat (first | refine blk_drewN ?_ _ | refine blk_drew ?_ | refine blk_alloc ?_ _)); exact BK105.out), (by (with_reducible repeat (first | refine blk_drewN ?_ _ | refine blk_drew ?_ | refine blk_alloc ?_ _)); exact BK115.out), (by (with_reducible repeat (first | refine blk_drewN ?_ _ | refine blk_drew ?_ | refine blk_alloc ?_ _)); exact BK116.out), GW115.out, GE115.out, NB101_115.out, NB115_101.out, NB105_115.out, NB115_105.out, NB116_115.out, NB115_116.out, GW116.out, GE116.out, NB101_116.out, NB116_101.out, NB105_116.out, NB116_105.out, (by repeat (first | (with_reducible first | exact HB.out | apply below_alloc | apply pw_below_drewN | apply below_drew1 | refine below_set ?_ GE101.out | refine below_set ?_ GE105.out | refine below_set ?_ GE116.out | refine below_set ?_ GE115.out) | exact HB.out))⟩)
                  rintro ⟨gb115, gb116⟩ w39 ⟨hS_, h0_, h1_, h2_, h3_, h4_, h5_, h6_, h7_, h8_, h9_, h10_, h11_, h12_, h13_, h14_, h15_, h16_, h17_, h18_, h19_⟩
                  have n0_ : Aside0 (Kd.R k30 30 w39 w.heap.size (fun _ => True) (.slice Ao33 y112.length co33) y112) := ⟨h0_⟩
                  have n1_ : Aside0 (w39.heap[gb101]? = some (.cells #[.bool a0_0, .bool a0_1, .slice A0_2 l0_2.length c0_2, .int .i64 a0_3] 26 (0, 0))) := ⟨h1_⟩
                  have n2_ : Aside0 (w39.heap[gb105]? = some (.cells #[.bool a0_0, .bool a0_1, .slice Ao33 y112.length co33, .int .i64 a0_3] 26 (0, 0))) := ⟨h2_⟩
                  have n3_ : Aside0 (w39.heap[gb115]? = some (.cells #[.bool false, .bool false, .slice none 0 0, .int .i64 0] 26 (0, 0))) := ⟨h3_⟩
                  have n4_ : Aside0 (w39.heap[gb116]? = some (.cells #[.bool false, .bool false, .slice none 0 0, .int .i64 0] 26 (0, 0))) := ⟨h4_⟩
                  have n5_ : Aside0 (w.heap.size ≤ gb115) := ⟨h5_⟩
                  have n6_ : Aside0 (w.heap.size ≤ gb115) := ⟨h6_⟩
                  have n7_ : Aside0 (gb101 ≠ gb115) := ⟨h7_⟩
                  have n8_ : Aside0 (gb115 ≠ gb101) := ⟨h8_⟩
                  have n9_ : Aside0 (gb105 ≠ gb115) := ⟨h9_⟩
                  have n10_ : Aside0 (gb115 ≠ gb105) := ⟨h10_⟩
                  have n11_ : Aside0 (gb116 ≠ gb115) := ⟨h11_⟩
                  have n12_ : Aside0 (gb115 ≠ gb116) := ⟨h12_⟩
                  have n13_ : Aside0 (w.heap.size ≤ gb116) := ⟨h13_⟩
                  have n14_ : Aside0 (w.heap.size ≤ gb116) := ⟨h14_⟩
                  have n15_ : Aside0 (gb101 ≠ gb116) := ⟨h15_⟩
                  have n16_ : Aside0 (gb116 ≠ gb101) := ⟨h16_⟩
                  have n17_ : Aside0 (gb105 ≠ gb116) := ⟨h17_⟩
                  have n18_ : Aside0 (gb116 ≠ gb105) := ⟨h18_⟩
                  have n19_ : Aside0 (Below w.heap.size w w39) := ⟨h19_⟩
                  clear HO114
                  clear BK101
                  clear BK105
                  clear HB
                  clear h0_ h1_ h2_ h3_ h4_ h5_ h6_ h7_ h8_ h9_ h10_ h11_ h12_ h13_ h14_ h15_ h16_ h17_ h18_ h19_
                  have HO114 := n0_
                  have BK101 := n1_
                  have BK105 := n2_
                  have BK115 := n3_
                  have BK116 := n4_
                  have GW115 := n5_
                  have GE115 := n6_
                  have NB101_115 := n7_
                  have NB115_101 := n8_
                  have NB105_115 := n9_
                  have NB115_105 := n10_
                  have NB116_115 := n11_
                  have NB115_116 := n12_
                  have GW116 := n13_
                  have GE116 := n14_
                  have NB101_116 := n15_
                  have NB116_101 := n16_
                  have NB105_116 := n17_
                  have NB116_105 := n18_
                  have HB := n19_
                  clear n0_ n1_ n2_ n3_ n4_ n5_ n6_ n7_ n8_ n9_ n10_ n11_ n12_ n13_ n14_ n15_ n16_ n17_ n18_ n19_
                  have hHeld : w39.cell? ⟨gb101, 0, none⟩ = some (.bool a0_0) ∧ w39.cell? ⟨gb101, 1, none⟩ = some (.bool a0_1) ∧ w39.cell? ⟨gb101, 2, none⟩ = some (.slice A0_2 l0_2.length c0_2) ∧ w39.cell? ⟨gb101, 3, none⟩ = some (.int .i64 a0_3) := hS_
                  refine norm_ (a' := ?_) ?_ ?_
                  rotate_left
                  · simp only [putAll, Act.put, List.setIfInBounds_toArray, List.set_cons_zero, List.set_cons_succ]
                    rfl
                  refine one_ (i := 4) (N := none) #[true, true, true, true, true, false] rfl rfl (by kernel_rfl) (by decide) (fun K hK => ?_)
                  have hs40 : w39.cell? ⟨gb115, 0, none⟩ = some (.bool false) := (blk_cell BK115.out 0).trans rfl
                  have hfs40 := blk_frozen BK115.out 0
                  have hns40_0 := NB101_115.out
                  have hns40_1 := NB105_115.out
                  have hns40_3 := NB116_115.out
                  have hms40_0 := NB115_101.out
                  have hms40_1 := NB115_105.out
                  have hms40_3 := NB115_116.out
                  have hs41 : w39.cell? ⟨gb115, 1, none⟩ = some (.bool false) := (blk_cell BK115.out 1).trans rfl
                  have hfs41 := blk_frozen BK115.out 1
                  have hns41_0 := NB101_115.out
                  have hns41_1 := NB105_115.out
                  have hns41_3 := NB116_115.out
                  have hms41_0 := NB115_101.out
                  have hms41_1 := NB115_105.out
                  have hms41_3 := NB115_116.out
                  have hs42 : w39.cell? ⟨gb115, 2, none⟩ = some (.slice none 0 0) := (blk_cell BK115.out 2).trans rfl
                  have hfs42 := blk_frozen BK115.out 2
                  have hns42_0 := NB101_115.out
                  have hns42_1 := NB105_115.out
                  have hns42_3 := NB116_115.out
                  have hms42_0 := NB115_101.out
                  have hms42_1 := NB115_105.out
                  have hms42_3 := NB115_116.out
                  have hs43 : w39.cell? ⟨gb115, 3, none⟩ = some (.int .i64 0) := (blk_cell BK115.out 3).trans rfl
                  have hfs43 := blk_frozen BK115.out 3
                  have hns43_0 := NB101_115.out
                  have hns43_1 := NB105_115.out
                  have hns43_3 := NB116_115.out
                  have hms43_0 := NB115_101.out
                  have hms43_1 := NB115_105.out
                  have hms43_3 := NB115_116.out
                  refine skip_ (w1 := ?_) (by rfl) rfl ?_ ?_
                  rotate_left
                  · go_simp
                    rfl
                  refine hK.out _ _ ⟨((cell_far (p := ⟨gb115, _, none⟩) NB101_115.out _).trans (((cell_far (p := ⟨gb115, _, none⟩) NB101_115.out _).trans (((cell_far (p := ⟨gb115, _, none⟩) NB101_115.out _).trans (((cell_far (p := ⟨gb115, _, none⟩) NB101_115.out _).trans (hHeld.1)))))))), ((cell_far (p := ⟨gb115, _, none⟩) NB101_115.out _).trans (((cell_far (p := ⟨gb115, _, none⟩) NB101_115.out _).trans (((cell_far (p := ⟨gb115, _, none⟩) NB101_115.out _).trans (((cell_far (p := ⟨gb115, _, none⟩) NB101_115.out _).trans (hHeld.2.1)))))))), ((cell_far (p := ⟨gb115, _, none⟩) NB101_115.out _).trans (((cell_far (p := ⟨gb115, _, none⟩) NB101_115.out _).trans (((cell_far (p := ⟨gb115, _, none⟩) NB101_115.out _).trans (((cell_far (p := ⟨gb115, _, none⟩) NB101_115.out _).trans (hHeld.2.2.1)))))))), ((cell_far (p := ⟨gb115, _, none⟩) NB101_115.out _).trans (((cell_far (p := ⟨gb115, _, none⟩) NB101_115.out _).trans (((cell_far (p := ⟨gb115, _, none⟩) NB101_115.out _).trans (((cell_far (p := ⟨gb115, _, none⟩) NB101_115.out _).trans (hHeld.2.2.2))))))))⟩ (fun hHeld => ?_)
                  clear hK K
                  refine one_ (i := 5) (N := none) #[true, true, true, true, true, true] rfl rfl (by kernel_rfl) (by decide) (fun K hK => ?_)
                  have hs44 : w39.cell? ⟨gb116, 0, none⟩ = some (.bool false) := (blk_cell BK116.out 0).trans rfl
                  have hfs44 := blk_frozen BK116.out 0
                  have hns44_0 := NB101_116.out
                  have hns44_1 := NB105_116.out
                  have hns44_2 := NB115_116.out
                  have hms44_0 := NB116_101.out
                  have hms44_1 := NB116_105.out
                  have hms44_2 := NB116_115.out
                  have hs45 : w39.cell? ⟨gb116, 1, none⟩ = some (.bool false) := (blk_cell BK116.out 1).trans rfl
                  have hfs45 := blk_frozen BK116.out 1
                  have hns45_0 := NB101_116.out
                  have hns45_1 := NB105_116.out
                  have hns45_2 := NB115_116.out
                  have hms45_0 := NB116_101.out
                  have hms45_1 := NB116_105.out
                  have hms45_2 := NB116_115.out
                  have hs46 : w39.cell? ⟨gb116, 2, none⟩ = some (.slice none 0 0) := (blk_cell BK116.out 2).trans rfl
                  have hfs46 := blk_frozen BK116.out 2
                  have hns46_0 := NB101_116.out
                  have hns46_1 := NB105_116.out
                  have hns46_2 := NB115_116.out
                  have hms46_0 := NB116_101.out
                  have hms46_1 := NB116_105.out
                  have hms46_2 := NB116_115.out
                  have hs47 : w39.cell? ⟨gb116, 3, none⟩ = some (.int .i64 0) := (blk_cell BK116.out 3).trans rfl
                  have hfs47 := blk_frozen BK116.out 3
                  have hns47_0 := NB101_116.out
                  have hns47_1 := NB105_116.out
                  have hns47_2 := NB115_116.out
                  have hms47_0 := NB116_101.out
                  have hms47_1 := NB116_105.out
                  have hms47_2 := NB116_115.out
                  refine skip_ (w1 := ?_) (by rfl) rfl ?_ ?_
                  rotate_left
                  · go_simp
                    rfl
                  refine hK.out _ _ ⟨((cell_far (p := ⟨gb116, _, none⟩) NB101_116.out _).trans (((cell_far (p := ⟨gb116, _, none⟩) NB101_116.out _).trans (((cell_far (p := ⟨gb116, _, none⟩) NB101_116.out _).trans (((cell_far (p := ⟨gb116, _, none⟩) NB101_116.out _).trans (hHeld.1)))))))), ((cell_far (p := ⟨gb116, _, none⟩) NB101_116.out _).trans (((cell_far (p := ⟨gb116, _, none⟩) NB101_116.out _).trans (((cell_far (p := ⟨gb116, _, none⟩) NB101_116.out _).trans (((cell_far (p := ⟨gb116, _, none⟩) NB101_116.out _).trans (hHeld.2.1)))))))), ((cell_far (p := ⟨gb116, _, none⟩) NB101_116.out _).trans (((cell_far (p := ⟨gb116, _, none⟩) NB101_116.out _).trans (((cell_far (p := ⟨gb116, _, none⟩) NB101_116.out _).trans (((cell_far (p := ⟨gb116, _, none⟩) NB101_116.out _).trans (hHeld.2.2.1)))))))), ((cell_far (p := ⟨gb116, _, none⟩) NB101_116.out _).trans (((cell_far (p := ⟨gb116, _, none⟩) NB101_116.out _).trans (((cell_far (p := ⟨gb116, _, none⟩) NB101_116.out _).trans (((cell_far (p := ⟨gb116, _, none⟩) NB101_116.out _).trans (hHeld.2.2.2))))))))⟩ (fun hHeld => ?_)
                  clear hK K
                  refine done_ (by kernel_rfl) ?_
                  have hnb48 := NB115_101.out
                  have hnc48 := NB101_115.out
                  have hnb49 := NB115_105.out
                  have hnc49 := NB105_115.out
                  have hnb50 := NB115_116.out
                  have hnc50 := NB116_115.out
                  have hcz51_0 : w39.cell? ⟨gb115, 0, none⟩ = some (.bool false) := (blk_cell BK115.out 0).trans rfl
                  have hcz51_1 : w39.cell? ⟨gb115, 1, none⟩ = some (.bool false) := (blk_cell BK115.out 1).trans rfl
                  have hcz51_2 : w39.cell? ⟨gb115, 2, none⟩ = some (.slice none 0 0) := (blk_cell BK115.out 2).trans rfl
                  have hcz51_3 : w39.cell? ⟨gb115, 3, none⟩ = some (.int .i64 0) := (blk_cell BK115.out 3).trans rfl
                  have hfz51_0 := blk_frozen BK115.out 0
                  have hfz51_1 := blk_frozen BK115.out 1
                  have hfz51_2 := blk_frozen BK115.out 2
                  have hfz51_3 := blk_frozen BK115.out 3
                  have hnb52 := NB116_101.out
                  have hnc52 := NB101_116.out
                  have hnb53 := NB116_105.out
                  have hnc53 := NB105_116.out
                  have hcz54_0 : w39.cell? ⟨gb116, 0, none⟩ = some (.bool false) := (blk_cell BK116.out 0).trans rfl
                  have hcz54_1 : w39.cell? ⟨gb116, 1, none⟩ = some (.bool false) := (blk_cell BK116.out 1).trans rfl
                  have hcz54_2 : w39.cell? ⟨gb116, 2, none⟩ = some (.slice none 0 0) := (blk_cell BK116.out 2).trans rfl
                  have hcz54_3 : w39.cell? ⟨gb116, 3, none⟩ = some (.int .i64 0) := (blk_cell BK116.out 3).trans rfl
                  have hfz54_0 := blk_frozen BK116.out 0
                  have hfz54_1 := blk_frozen BK116.out 1
                  have hfz54_2 := blk_frozen BK116.out 2
                  have hfz54_3 := blk_frozen BK116.out 3
                  go_upto_region 13 with (fail)
                  go_cut [65] (fun v65 wc => ∃ (kq : Nat) (x65_22 : Bool), v65 = .bool x65_22 ∧ Aside0 (decorumlaw11_RobotsOpen.j2 kq a1 x65_22 a0_0 a0_1 l0_2 a0_3 true a0_1 l0_2 a0_3 false true l0_2 a0_3 = some r) ∧ Aside0 (kq ≤ k2) ∧ Aside0 (Kd.R k30 30 wc w.heap.size (fun _ => True) (.slice Ao33 y112.length co33) y112) ∧ Aside0 (wc.heap[gb101]? = some (.cells #[.bool a0_0, .bool a0_1, (.slice A0_2 l0_2.length c0_2), .int .i64 a0_3] 26 (0, 0))) ∧ Aside0 (wc.heap[gb105]? = some (.cells #[.bool a0_0, .bool a0_1, (.slice Ao33 y112.length co33), .int .i64 a0_3] 26 (0, 0))) ∧ Aside0 (wc.heap[gb115]? = some (.cells #[.bool true, .bool a0_1, (.slice A0_2 l0_2.length c0_2), .int .i64 a0_3] 26 (0, 0))) ∧ Aside0 (wc.heap[gb116]? = some (.cells #[.bool false, .bool true, (.slice A0_2 l0_2.length c0_2), .int .i64 a0_3] 26 (0, 0))) ∧ Aside0 (Below w.heap.size w wc))
                  case first =>
                    have H := HC23.out
                    clear HC23
                    replace H := Option.bind_eq_some_iff.mp H
                    obtain ⟨t117, A550, H⟩ := H
                    replace H : (if t117 = true then ((robots_Allowed.f k2 a0_0 a0_1 y112 a0_3 a1).bind fun t118 => (decorumlaw11_RobotsOpen.j2 k2 a1 (!t118) a0_0 a0_1 l0_2 a0_3 true a0_1 l0_2 a0_3 false true l0_2 a0_3)) else (decorumlaw11_RobotsOpen.j2 k2 a1 false a0_0 a0_1 l0_2 a0_3 true a0_1 l0_2 a0_3 false true l0_2 a0_3)) = some r := H
                    have A55 := Aside0.mk A550
                    clear A550
                    by_cases c56 : t117 = true
                    · subst c56
                      have H1 : ((robots_Allowed.f k2 a0_0 a0_1 y112 a0_3 a1).bind fun t118 => (decorumlaw11_RobotsOpen.j2 k2 a1 (!t118) a0_0 a0_1 l0_2 a0_3 true a0_1 l0_2 a0_3 false true l0_2 a0_3)) = some r := by rw [if_pos rfl] at H; exact H
                      clear H
                      have H := H1
                      clear H1
                      replace H := Option.bind_eq_some_iff.mp H
                      obtain ⟨t118, A570, H⟩ := H
                      replace H : (decorumlaw11_RobotsOpen.j2 k2 a1 (!t118) a0_0 a0_1 l0_2 a0_3 true a0_1 l0_2 a0_3 false true l0_2 a0_3) = some r := H
                      have A57 := Aside0.mk A570
                      clear A570
                      have H' := Aside0.mk H
                      clear H
                      have hnb58 := NB101_105.out
                      have hnc58 := NB105_101.out
                      have hnb59 := NB101_115.out
                      have hnc59 := NB115_101.out
                      have hnb60 := NB101_116.out
                      have hnc60 := NB116_101.out
                      have hcz61_0 : w39.cell? ⟨gb101, 0, none⟩ = some (.bool a0_0) := (blk_cell BK101.out 0).trans rfl
                      have hcz61_1 : w39.cell? ⟨gb101, 1, none⟩ = some (.bool a0_1) := (blk_cell BK101.out 1).trans rfl
                      have hcz61_2 : w39.cell? ⟨gb101, 2, none⟩ = some (.slice A0_2 l0_2.length c0_2) := (blk_cell BK101.out 2).trans rfl
                      have hcz61_3 : w39.cell? ⟨gb101, 3, none⟩ = some (.int .i64 a0_3) := (blk_cell BK101.out 3).trans rfl
                      have hfz61_0 := blk_frozen BK101.out 0
                      have hfz61_1 := blk_frozen BK101.out 1
                      have hfz61_2 := blk_frozen BK101.out 2
                      have hfz61_3 := blk_frozen BK101.out 3
                      go_wp2_with (first | ((with_reducible refine gate_callee (f := 11) rfl ?_); refine goesL_ (some 59) rfl rfl Tryd.func11 (by kernel_rfl) rfl #[.agg #[.bool a0_0, .bool a0_1, .slice A0_2 l0_2.length c0_2, .int .i64 a0_3], .string a1] rfl (by (try simp only [List.map_toArray, List.map_cons, List.map_nil]); first | done | rfl | (simp only [List.length_drop, List.length_take]; rfl)) ?_; (with_reducible refine (robots_Allowed.calls k2 a0_0 a0_1 _ _ l0_2 a0_3 a1 true _ ?side1 ?side2 A55.out (Shp.below HS_.out (by repeat (first | (with_reducible first | exact HB.out | apply below_alloc | apply pw_below_drewN | apply below_drew1 | refine below_set ?_ GE101.out | refine below_set ?_ GE105.out | refine below_set ?_ GE115.out | refine below_set ?_ GE116.out) | exact HB.out)))).mono ?_); (case side1 => exact Kd.C_below HR0_2.out (by repeat (first | (with_reducible first | exact HB.out | apply below_alloc | apply pw_below_drewN | apply below_drew1 | refine below_set ?_ GE101.out | refine below_set ?_ GE105.out | refine below_set ?_ GE115.out | refine below_set ?_ GE116.out) | exact HB.out))); (case side2 => exact HC0_2.out); rintro e w62 ⟨rfl, hb⟩; refine ⟨_, rfl, ?_⟩; have n0_ := Aside0.mk (Kd.R_below (by (with_reducible repeat (first | apply Kd.R_alloc | apply Kd.R_drewN | apply Kd.R_drew)); exact (Kd.R_mono (Kd.R_mono (Kd.R_far (p := ⟨gb116, 1, none⟩) (Kd.R_far (p := ⟨gb116, 0, none⟩) (Kd.R_far (p := ⟨gb115, 0, none⟩) (Kd.R_far (p := ⟨gb116, 3, none⟩) (Kd.R_far (p := ⟨gb116, 2, none⟩) (Kd.R_far (p := ⟨gb116, 1, none⟩) (Kd.R_far (p := ⟨gb116, 0, none⟩) (Kd.R_far (p := ⟨gb115, 3, none⟩) (Kd.R_far (p := ⟨gb115, 2, none⟩) (Kd.R_far (p := ⟨gb115, 1, none⟩) (Kd.R_far (p := ⟨gb115, 0, none⟩) (Kd.R_types (Kd.R_types HO114.out BK115.out (by decide)) BK116.out (by decide)) (fun _ hk => hk.1.2) (.bool a0_0)) (fun _ hk => hk.1.2) (.bool a0_1)) (fun _ hk => hk.1.2) (.slice A0_2 l0_2.length c0_2)) (fun _ hk => hk.1.2) (.int .i64 a0_3)) (fun _ hk => hk.2) (.bool a0_0)) (fun _ hk => hk.2) (.bool a0_1)) (fun _ hk => hk.2) (.slice A0_2 l0_2.length c0_2)) (fun _ hk => hk.2) (.int .i64 a0_3)) (fun _ hk => hk.1.2) (.bool true)) (fun _ hk => hk.2) (.bool false)) (fun _ hk => hk.2) (.bool true)) (fun _ h_ => h_.1)) (fun _ h_ => h_.1))) hb); have n1_ := Aside0.mk (blk_below (g := gb101) (o := .cells #[.bool a0_0, .bool a0_1, .slice A0_2 l0_2.length c0_2, .int .i64 a0_3] 26 (0, 0)) (by (with_reducible repeat (first | refine blk_drewN ?_ _ | refine blk_drew ?_ | refine blk_alloc ?_ _)); refine blk_far ?_ NB101_116.out _; (with_reducible repeat (first | refine blk_drewN ?_ _ | refine blk_drew ?_ | refine blk_alloc ?_ _)); refine blk_far ?_ NB101_116.out _; (with_reducible repeat (first | refine blk_drewN ?_ _ | refine blk_drew ?_ | refine blk_alloc ?_ _)); refine blk_far ?_ NB101_115.out _; (with_reducible repeat (first | refine blk_drewN ?_ _ | refine blk_drew ?_ | refine blk_alloc ?_ _)); refine blk_far ?_ NB101_116.out _; (with_reducible repeat (first | refine blk_drewN ?_ _ | refine blk_drew ?_ | refine blk_alloc ?_ _)); refine blk_far ?_ NB101_116.out _; (with_reducible repeat (first | refine blk_drewN ?_ _ | refine blk_drew ?_ | refine blk_alloc ?_ _)); refine blk_far ?_ NB101_116.out _; (with_reducible repeat (first | refine blk_drewN ?_ _ | refine blk_drew ?_ | refine blk_alloc ?_ _)); refine blk_far ?_ NB101_116.out _; (with_reducible repeat (first | refine blk_drewN ?_ _ | refine blk_drew ?_ | refine blk_alloc ?_ _)); refine blk_far ?_ NB101_115.out _; (with_reducible repeat (first | refine blk_drewN ?_ _ | refine blk_drew ?_ | refine blk_alloc ?_ _)); refine blk_far ?_ NB101_115.out _; (with_reducible repeat (first | refine blk_drewN ?_ _ | refine blk_drew ?_ | refine blk_alloc ?_ _)); refine blk_far ?_ NB101_115.out _; (with_reducible repeat (first | refine blk_drewN ?_ _ | refine blk_drew ?_ | refine blk_alloc ?_ _)); refine blk_far ?_ NB101_115.out _; (with_reducible repeat (first | refine blk_drewN ?_ _ | refine blk_drew ?_ | refine blk_alloc ?_ _)); exact BK101.out) hb); have n2_ := Aside0.mk (blk_below (g := gb105) (o := .cells #[.bool a0_0, .bool a0_1, .slice Ao33 y112.length co33, .int .i64 a0_3] 26 (0, 0)) (by (with_reducible repeat (first | refine blk_drewN ?_ _ | refine blk_drew ?_ | refine blk_alloc ?_ _)); refine blk_far ?_ NB105_116.out _; (with_reducible repeat (first | refine blk_drewN ?_ _ | refine blk_drew ?_ | refine blk_alloc ?_ _)); refine blk_far ?_ NB105_116.out _; (with_reducible repeat (first | refine blk_drewN ?_ _ | refine blk_drew ?_ | refine blk_alloc ?_ _)); refine blk_far ?_ NB105_115.out _; (with_reducible repeat (first | refine blk_drewN ?_ _ | refine blk_drew ?_ | refine blk_alloc ?_ _)); refine blk_far ?_ NB105_116.out _; (with_reducible repeat (first | refine blk_drewN ?_ _ | refine blk_drew ?_ | refine blk_alloc ?_ _)); refine blk_far ?_ NB105_116.out _; (with_reducible repeat (first | refine blk_drewN ?_ _ | refine blk_drew ?_ | refine blk_alloc ?_ _)); refine blk_far ?_ NB105_116.out _; (with_reducible repeat (first | refine blk_drewN ?_ _ | refine blk_drew ?_ | refine blk_alloc ?_ _)); refine blk_far ?_ NB105_116.out _; (with_reducible repeat (first | refine blk_drewN ?_ _ | refine blk_drew ?_ | refine blk_alloc ?_ _)); refine blk_far ?_ NB105_115.out _; (with_reducible repeat (first | refine blk_drewN ?_ _ | refine blk_drew ?_ | refine blk_alloc ?_ _)); refine blk_far ?_ NB105_115.out _; (with_reducible repeat (first | refine blk_drewN ?_ _ | refine blk_drew ?_ | refine blk_alloc ?_ _)); refine blk_far ?_ NB105_115.out _; (with_reducible repeat (first | refine blk_drewN ?_ _ | refine blk_drew ?_ | refine blk_alloc ?_ _)); refine blk_far ?_ NB105_115.out _; (with_reducible repeat (first | refine blk_drewN ?_ _ | refine blk_drew ?_ | refine blk_alloc ?_ _)); exact BK105.out) hb); have n3_ := Aside0.mk (blk_below (g := gb115) (o := .cells #[.bool true, .bool a0_1, .slice A0_2 l0_2.length c0_2, .int .i64 a0_3] 26 (0, 0)) (by (with_reducible repeat (first | refine blk_drewN ?_ _ | refine blk_drew ?_ | refine blk_alloc ?_ _)); refine blk_far ?_ NB115_116.out _; (with_reducible repeat (first | refine blk_drewN ?_ _ | refine blk_drew ?_ | refine blk_alloc ?_ _)); refine blk_far ?_ NB115_116.out _; (with_reducible repeat (first | refine blk_drewN ?_ _ | refine blk_drew ?_ | refine blk_alloc ?_ _)); refine blk_put (cs := #[.bool a0_0, .bool a0_1, .slice A0_2 l0_2.length c0_2, .int .i64 a0_3]) ?_ 0 _ rfl; (with_reducible repeat (first | refine blk_drewN ?_ _ | refine blk_drew ?_ | refine blk_alloc ?_ _)); refine blk_far ?_ NB115_116.out _; (with_reducible repeat (first | refine blk_drewN ?_ _ | refine blk_drew ?_ | refine blk_alloc ?_ _)); refine blk_far ?_ NB115_116.out _; (with_reducible repeat (first | refine blk_drewN ?_ _ | refine blk_drew ?_ | refine blk_alloc ?_ _)); refine blk_far ?_ NB115_116.out _; (with_reducible repeat (first | refine blk_drewN ?_ _ | refine blk_drew ?_ | refine blk_alloc ?_ _)); refine blk_far ?_ NB115_116.out _; (with_reducible repeat (first | refine blk_drewN ?_ _ | refine blk_drew ?_ | refine blk_alloc ?_ _)); refine blk_put (cs := #[.bool a0_0, .bool a0_1, .slice A0_2 l0_2.length c0_2, .int .i64 0]) ?_ 3 _ rfl; (with_reducible repeat (first | refine blk_drewN ?_ _ | refine blk_drew ?_ | refine blk_alloc ?_ _)); refine blk_put (cs := #[.bool a0_0, .bool a0_1, .slice none 0 0, .int .i64 0]) ?_ 2 _ rfl; (with_reducible repeat (first | refine blk_drewN ?_ _ | refine blk_drew ?_ | refine blk_alloc ?_ _)); refine blk_put (cs := #[.bool a0_0, .bool false, .slice none 0 0, .int .i64 0]) ?_ 1 _ rfl; (with_reducible repeat (first | refine blk_drewN ?_ _ | refine blk_drew ?_ | refine blk_alloc ?_ _)); refine blk_put (cs := #[.bool false, .bool false, .slice none 0 0, .int .i64 0]) ?_ 0 _ rfl; (with_reducible repeat (first | refine blk_drewN ?_ _ | refine blk_drew ?_ | refine blk_alloc ?_ _)); exact BK115.out) hb); have n4_ := Aside0.mk (blk_below (g := gb116) (o := .cells #[.bool false, .bool true, .slice A0_2 l0_2.length c0_2, .int .i64 a0_3] 26 (0, 0)) (by (with_reducible repeat (first | refine blk_drewN ?_ _ | refine blk_drew ?_ | refine blk_alloc ?_ _)); refine blk_put (cs := #[.bool false, .bool a0_1, .slice A0_2 l0_2.length c0_2, .int .i64 a0_3]) ?_ 1 _ rfl; (with_reducible repeat (first | refine blk_drewN ?_ _ | refine blk_drew ?_ | refine blk_alloc ?_ _)); refine blk_put (cs := #[.bool a0_0, .bool a0_1, .slice A0_2 l0_2.length c0_2, .int .i64 a0_3]) ?_ 0 _ rfl; (with_reducible repeat (first | refine blk_drewN ?_ _ | refine blk_drew ?_ | refine blk_alloc ?_ _)); refine blk_far ?_ NB116_115.out _; (with_reducible repeat (first | refine blk_drewN ?_ _ | refine blk_drew ?_ | refine blk_alloc ?_ _)); refine blk_put (cs := #[.bool a0_0, .bool a0_1, .slice A0_2 l0_2.length c0_2, .int .i64 0]) ?_ 3 _ rfl; (with_reducible repeat (first | refine blk_drewN ?_ _ | refine blk_drew ?_ | refine blk_alloc ?_ _)); refine blk_put (cs := #[.bool a0_0, .bool a0_1, .slice none 0 0, .int .i64 0]) ?_ 2 _ rfl; (with_reducible repeat (first | refine blk_drewN ?_ _ | refine blk_drew ?_ | refine blk_alloc ?_ _)); refine blk_put (cs := #[.bool a0_0, .bool false, .slice none 0 0, .int .i64 0]) ?_ 1 _ rfl; (with_reducible repeat (first | refine blk_drewN ?_ _ | refine blk_drew ?_ | refine blk_alloc ?_ _)); refine blk_put (cs := #[.bool false, .bool false, .slice none 0 0, .int .i64 0]) ?_ 0 _ rfl; (with_reducible repeat (first | refine blk_drewN ?_ _ | refine blk_drew ?_ | refine blk_alloc ?_ _)); refine blk_far ?_ NB116_115.out _; (with_reducible repeat (first | refine blk_drewN ?_ _ | refine blk_drew ?_ | refine blk_alloc ?_ _)); refine blk_far ?_ NB116_115.out _; (with_reducible repeat (first | refine blk_drewN ?_ _ | refine blk_drew ?_ | refine blk_alloc ?_ _)); refine blk_far ?_ NB116_115.out _; (with_reducible repeat (first | refine blk_drewN ?_ _ | refine blk_drew ?_ | refine blk_alloc ?_ _)); refine blk_far ?_ NB116_115.out _; (with_reducible repeat (first | refine blk_drewN ?_ _ | refine blk_drew ?_ | refine blk_alloc ?_ _)); exact BK116.out) hb); have n5_ := Aside0.mk (below_step (by repeat (first | (with_reducible first | exact HB.out | apply below_alloc | apply pw_below_drewN | apply below_drew1 | refine below_set ?_ GE101.out | refine below_set ?_ GE105.out | refine below_set ?_ GE115.out | refine below_set ?_ GE116.out) | exact HB.out)) hb); clear HO114; clear BK101; clear BK105; clear BK115; clear BK116; clear HB; have HO114 := n0_; have BK101 := n1_; have BK105 := n2_; have BK115 := n3_; have BK116 := n4_; have HB := n5_; clear n0_ n1_ n2_ n3_ n4_ n5_; (try clear hb); (try clear hb2); (try clear hk); (try clear hi); have hnb63 := NB105_115.out; have hnc63 := NB115_105.out; have hnb64 := NB105_116.out; have hnc64 := NB116_105.out; have hcz65_0 : w62.cell? ⟨gb105, 0, none⟩ = some (.bool a0_0) := (blk_cell BK105.out 0).trans rfl; have hcz65_1 : w62.cell? ⟨gb105, 1, none⟩ = some (.bool a0_1) := (blk_cell BK105.out 1).trans rfl; have hcz65_2 : w62.cell? ⟨gb105, 2, none⟩ = some (.slice Ao33 y112.length co33) := (blk_cell BK105.out 2).trans rfl; have hcz65_3 : w62.cell? ⟨gb105, 3, none⟩ = some (.int .i64 a0_3) := (blk_cell BK105.out 3).trans rfl; have hfz65_0 := blk_frozen BK105.out 0; have hfz65_1 := blk_frozen BK105.out 1; have hfz65_2 := blk_frozen BK105.out 2; have hfz65_3 := blk_frozen BK105.out 3) | (go_at_call 11; (with_reducible refine (robots_Allowed.calls k2 a0_0 a0_1 _ _ y112 a0_3 a1 t118 _ ?side1 ?side2 A57.out (Shp.below HS_.out (by repeat (first | (with_reducible first | exact HB.out | apply below_alloc | apply pw_below_drewN | apply below_drew1 | refine below_set ?_ GE101.out | refine below_set ?_ GE105.out | refine below_set ?_ GE115.out | refine below_set ?_ GE116.out) | exact HB.out)))).mono ?_); (case side1 => repeat (first | exact (Kd.R_reads' HO114.out).2.2 | (with_reducible refine Kd.C_alloc ?_ _) | (with_reducible refine Kd.C_drewN ?_ _) | (with_reducible refine Kd.C_drew ?_))); (case side2 => exact (Kd.R_reads' HO114.out).2.1); rintro e w66 ⟨rfl, hb⟩; have n0_ := Aside0.mk (Kd.R_below (by (with_reducible repeat (first | apply Kd.R_alloc | apply Kd.R_drewN | apply Kd.R_drew)); exact HO114.out) hb); have n1_ := Aside0.mk (blk_below (g := gb101) (o := .cells #[.bool a0_0, .bool a0_1, .slice A0_2 l0_2.length c0_2, .int .i64 a0_3] 26 (0, 0)) (by (with_reducible repeat (first | refine blk_drewN ?_ _ | refine blk_drew ?_ | refine blk_alloc ?_ _)); exact BK101.out) hb); have n2_ := Aside0.mk (blk_below (g := gb105) (o := .cells #[.bool a0_0, .bool a0_1, .slice Ao33 y112.length co33, .int .i64 a0_3] 26 (0, 0)) (by (with_reducible repeat (first | refine blk_drewN ?_ _ | refine blk_drew ?_ | refine blk_alloc ?_ _)); exact BK105.out) hb); have n3_ := Aside0.mk (blk_below (g := gb115) (o := .cells #[.bool true, .bool a0_1, .slice A0_2 l0_2.length c0_2, .int .i64 a0_3] 26 (0, 0)) (by (with_reducible repeat (first | refine blk_drewN ?_ _ | refine blk_drew ?_ | refine blk_alloc ?_ _)); exact BK115.out) hb); have n4_ := Aside0.mk (blk_below (g := gb116) (o := .cells #[.bool false, .bool true, .slice A0_2 l0_2.length c0_2, .int .i64 a0_3] 26 (0, 0)) (by (with_reducible repeat (first | refine blk_drewN ?_ _ | refine blk_drew ?_ | refine blk_alloc ?_ _)); exact BK116.out) hb); have n5_ := Aside0.mk (below_step (by repeat (first | (with_reducible first | exact HB.out | apply below_alloc | apply pw_below_drewN | apply below_drew1 | refine below_set ?_ GE101.out | refine below_set ?_ GE105.out | refine below_set ?_ GE115.out | refine below_set ?_ GE116.out) | exact HB.out)) hb); clear HO114; clear BK101; clear BK105; clear BK115; clear BK116; clear HB; have HO114 := n0_; have BK101 := n1_; have BK105 := n2_; have BK115 := n3_; have BK116 := n4_; have HB := n5_; clear n0_ n1_ n2_ n3_ n4_ n5_; (try clear hb); (try clear hb2); (try clear hk); (try clear hi)))
                      go_meet
                      case rel => exact ⟨_, (!t118), (by first | rfl | (simp; done) | (simp [*]; done)), H', ⟨by have := HJ3.out; have := HK2.out; first | omega | exact Nat.le_refl _⟩, ⟨by (with_reducible repeat (first | apply Kd.R_alloc | apply Kd.R_drewN | apply Kd.R_drew)); exact HO114.out⟩, ⟨by (with_reducible repeat (first | refine blk_drewN ?_ _ | refine blk_drew ?_ | refine blk_alloc ?_ _)); exact BK101.out⟩, ⟨by (with_reducible repeat (first | refine blk_drewN ?_ _ | refine blk_drew ?_ | refine blk_alloc ?_ _)); exact BK105.out⟩, ⟨by (with_reducible repeat (first | refine blk_drewN ?_ _ | refine blk_drew ?_ | refine blk_alloc ?_ _)); exact BK115.out⟩, ⟨by (with_reducible repeat (first | refine blk_drewN ?_ _ | refine blk_drew ?_ | refine blk_alloc ?_ _)); exact BK116.out⟩, ⟨by repeat (first | (with_reducible first | exact HB.out | apply below_alloc | apply pw_below_drewN | apply below_drew1 | refine below_set ?_ GE101.out | refine below_set ?_ GE105.out | refine below_set ?_ GE115.out | refine below_set ?_ GE116.out) | exact HB.out)⟩⟩
                    · replace c56 := Bool.eq_false_iff.mpr c56
                      subst c56
                      have H1 : (decorumlaw11_RobotsOpen.j2 k2 a1 false a0_0 a0_1 l0_2 a0_3 true a0_1 l0_2 a0_3 false true l0_2 a0_3) = some r := by rw [if_neg (show ¬ (false = true) by decide)] at H; exact H
                      clear H
                      have H := H1
                      clear H1
                      have H' := Aside0.mk H
                      clear H
                      have hnb67 := NB101_105.out
                      have hnc67 := NB105_101.out
                      have hnb68 := NB101_115.out
                      have hnc68 := NB115_101.out
                      have hnb69 := NB101_116.out
                      have hnc69 := NB116_101.out
                      have hcz70_0 : w39.cell? ⟨gb101, 0, none⟩ = some (.bool a0_0) := (blk_cell BK101.out 0).trans rfl
                      have hcz70_1 : w39.cell? ⟨gb101, 1, none⟩ = some (.bool a0_1) := (blk_cell BK101.out 1).trans rfl
                      have hcz70_2 : w39.cell? ⟨gb101, 2, none⟩ = some (.slice A0_2 l0_2.length c0_2) := (blk_cell BK101.out 2).trans rfl
                      have hcz70_3 : w39.cell? ⟨gb101, 3, none⟩ = some (.int .i64 a0_3) := (blk_cell BK101.out 3).trans rfl
                      have hfz70_0 := blk_frozen BK101.out 0
                      have hfz70_1 := blk_frozen BK101.out 1
                      have hfz70_2 := blk_frozen BK101.out 2
                      have hfz70_3 := blk_frozen BK101.out 3
                      go_wp2_with (first | ((with_reducible refine gate_callee (f := 11) rfl ?_); refine goesL_ (some 59) rfl rfl Tryd.func11 (by kernel_rfl) rfl #[.agg #[.bool a0_0, .bool a0_1, .slice A0_2 l0_2.length c0_2, .int .i64 a0_3], .string a1] rfl (by (try simp only [List.map_toArray, List.map_cons, List.map_nil]); first | done | rfl | (simp only [List.length_drop, List.length_take]; rfl)) ?_; (with_reducible refine (robots_Allowed.calls k2 a0_0 a0_1 _ _ l0_2 a0_3 a1 false _ ?side1 ?side2 A55.out (Shp.below HS_.out (by repeat (first | (with_reducible first | exact HB.out | apply below_alloc | apply pw_below_drewN | apply below_drew1 | refine below_set ?_ GE101.out | refine below_set ?_ GE105.out | refine below_set ?_ GE115.out | refine below_set ?_ GE116.out) | exact HB.out)))).mono ?_); (case side1 => exact Kd.C_below HR0_2.out (by repeat (first | (with_reducible first | exact HB.out | apply below_alloc | apply pw_below_drewN | apply below_drew1 | refine below_set ?_ GE101.out | refine below_set ?_ GE105.out | refine below_set ?_ GE115.out | refine below_set ?_ GE116.out) | exact HB.out))); (case side2 => exact HC0_2.out); rintro e w71 ⟨rfl, hb⟩; refine ⟨_, rfl, ?_⟩; have n0_ := Aside0.mk (Kd.R_below (by (with_reducible repeat (first | apply Kd.R_alloc | apply Kd.R_drewN | apply Kd.R_drew)); exact (Kd.R_mono (Kd.R_mono (Kd.R_far (p := ⟨gb116, 1, none⟩) (Kd.R_far (p := ⟨gb116, 0, none⟩) (Kd.R_far (p := ⟨gb115, 0, none⟩) (Kd.R_far (p := ⟨gb116, 3, none⟩) (Kd.R_far (p := ⟨gb116, 2, none⟩) (Kd.R_far (p := ⟨gb116, 1, none⟩) (Kd.R_far (p := ⟨gb116, 0, none⟩) (Kd.R_far (p := ⟨gb115, 3, none⟩) (Kd.R_far (p := ⟨gb115, 2, none⟩) (Kd.R_far (p := ⟨gb115, 1, none⟩) (Kd.R_far (p := ⟨gb115, 0, none⟩) (Kd.R_types (Kd.R_types HO114.out BK115.out (by decide)) BK116.out (by decide)) (fun _ hk => hk.1.2) (.bool a0_0)) (fun _ hk => hk.1.2) (.bool a0_1)) (fun _ hk => hk.1.2) (.slice A0_2 l0_2.length c0_2)) (fun _ hk => hk.1.2) (.int .i64 a0_3)) (fun _ hk => hk.2) (.bool a0_0)) (fun _ hk => hk.2) (.bool a0_1)) (fun _ hk => hk.2) (.slice A0_2 l0_2.length c0_2)) (fun _ hk => hk.2) (.int .i64 a0_3)) (fun _ hk => hk.1.2) (.bool true)) (fun _ hk => hk.2) (.bool false)) (fun _ hk => hk.2) (.bool true)) (fun _ h_ => h_.1)) (fun _ h_ => h_.1))) hb); have n1_ := Aside0.mk (blk_below (g := gb101) (o := .cells #[.bool a0_0, .bool a0_1, .slice A0_2 l0_2.length c0_2, .int .i64 a0_3] 26 (0, 0)) (by (with_reducible repeat (first | refine blk_drewN ?_ _ | refine blk_drew ?_ | refine blk_alloc ?_ _)); refine blk_far ?_ NB101_116.out _; (with_reducible repeat (first | refine blk_drewN ?_ _ | refine blk_drew ?_ | refine blk_alloc ?_ _)); refine blk_far ?_ NB101_116.out _; (with_reducible repeat (first | refine blk_drewN ?_ _ | refine blk_drew ?_ | refine blk_alloc ?_ _)); refine blk_far ?_ NB101_115.out _; (with_reducible repeat (first | refine blk_drewN ?_ _ | refine blk_drew ?_ | refine blk_alloc ?_ _)); refine blk_far ?_ NB101_116.out _; (with_reducible repeat (first | refine blk_drewN ?_ _ | refine blk_drew ?_ | refine blk_alloc ?_ _)); refine blk_far ?_ NB101_116.out _; (with_reducible repeat (first | refine blk_drewN ?_ _ | refine blk_drew ?_ | refine blk_alloc ?_ _)); refine blk_far ?_ NB101_116.out _; (with_reducible repeat (first | refine blk_drewN ?_ _ | refine blk_drew ?_ | refine blk_alloc ?_ _)); refine blk_far ?_ NB101_116.out _; (with_reducible repeat (first | refine blk_drewN ?_ _ | refine blk_drew ?_ | refine blk_alloc ?_ _)); refine blk_far ?_ NB101_115.out _; (with_reducible repeat (first | refine blk_drewN ?_ _ | refine blk_drew ?_ | refine blk_alloc ?_ _)); refine blk_far ?_ NB101_115.out _; (with_reducible repeat (first | refine blk_drewN ?_ _ | refine blk_drew ?_ | refine blk_alloc ?_ _)); refine blk_far ?_ NB101_115.out _; (with_reducible repeat (first | refine blk_drewN ?_ _ | refine blk_drew ?_ | refine blk_alloc ?_ _)); refine blk_far ?_ NB101_115.out _; (with_reducible repeat (first | refine blk_drewN ?_ _ | refine blk_drew ?_ | refine blk_alloc ?_ _)); exact BK101.out) hb); have n2_ := Aside0.mk (blk_below (g := gb105) (o := .cells #[.bool a0_0, .bool a0_1, .slice Ao33 y112.length co33, .int .i64 a0_3] 26 (0, 0)) (by (with_reducible repeat (first | refine blk_drewN ?_ _ | refine blk_drew ?_ | refine blk_alloc ?_ _)); refine blk_far ?_ NB105_116.out _; (with_reducible repeat (first | refine blk_drewN ?_ _ | refine blk_drew ?_ | refine blk_alloc ?_ _)); refine blk_far ?_ NB105_116.out _; (with_reducible repeat (first | refine blk_drewN ?_ _ | refine blk_drew ?_ | refine blk_alloc ?_ _)); refine blk_far ?_ NB105_115.out _; (with_reducible repeat (first | refine blk_drewN ?_ _ | refine blk_drew ?_ | refine blk_alloc ?_ _)); refine blk_far ?_ NB105_116.out _; (with_reducible repeat (first | refine blk_drewN ?_ _ | refine blk_drew ?_ | refine blk_alloc ?_ _)); refine blk_far ?_ NB105_116.out _; (with_reducible repeat (first | refine blk_drewN ?_ _ | refine blk_drew ?_ | refine blk_alloc ?_ _)); refine blk_far ?_ NB105_116.out _; (with_reducible repeat (first | refine blk_drewN ?_ _ | refine blk_drew ?_ | refine blk_alloc ?_ _)); refine blk_far ?_ NB105_116.out _; (with_reducible repeat (first | refine blk_drewN ?_ _ | refine blk_drew ?_ | refine blk_alloc ?_ _)); refine blk_far ?_ NB105_115.out _; (with_reducible repeat (first | refine blk_drewN ?_ _ | refine blk_drew ?_ | refine blk_alloc ?_ _)); refine blk_far ?_ NB105_115.out _; (with_reducible repeat (first | refine blk_drewN ?_ _ | refine blk_drew ?_ | refine blk_alloc ?_ _)); refine blk_far ?_ NB105_115.out _; (with_reducible repeat (first | refine blk_drewN ?_ _ | refine blk_drew ?_ | refine blk_alloc ?_ _)); refine blk_far ?_ NB105_115.out _; (with_reducible repeat (first | refine blk_drewN ?_ _ | refine blk_drew ?_ | refine blk_alloc ?_ _)); exact BK105.out) hb); have n3_ := Aside0.mk (blk_below (g := gb115) (o := .cells #[.bool true, .bool a0_1, .slice A0_2 l0_2.length c0_2, .int .i64 a0_3] 26 (0, 0)) (by (with_reducible repeat (first | refine blk_drewN ?_ _ | refine blk_drew ?_ | refine blk_alloc ?_ _)); refine blk_far ?_ NB115_116.out _; (with_reducible repeat (first | refine blk_drewN ?_ _ | refine blk_drew ?_ | refine blk_alloc ?_ _)); refine blk_far ?_ NB115_116.out _; (with_reducible repeat (first | refine blk_drewN ?_ _ | refine blk_drew ?_ | refine blk_alloc ?_ _)); refine blk_put (cs := #[.bool a0_0, .bool a0_1, .slice A0_2 l0_2.length c0_2, .int .i64 a0_3]) ?_ 0 _ rfl; (with_reducible repeat (first | refine blk_drewN ?_ _ | refine blk_drew ?_ | refine blk_alloc ?_ _)); refine blk_far ?_ NB115_116.out _; (with_reducible repeat (first | refine blk_drewN ?_ _ | refine blk_drew ?_ | refine blk_alloc ?_ _)); refine blk_far ?_ NB115_116.out _; (with_reducible repeat (first | refine blk_drewN ?_ _ | refine blk_drew ?_ | refine blk_alloc ?_ _)); refine blk_far ?_ NB115_116.out _; (with_reducible repeat (first | refine blk_drewN ?_ _ | refine blk_drew ?_ | refine blk_alloc ?_ _)); refine blk_far ?_ NB115_116.out _; (with_reducible repeat (first | refine blk_drewN ?_ _ | refine blk_drew ?_ | refine blk_alloc ?_ _)); refine blk_put (cs := #[.bool a0_0, .bool a0_1, .slice A0_2 l0_2.length c0_2, .int .i64 0]) ?_ 3 _ rfl; (with_reducible repeat (first | refine blk_drewN ?_ _ | refine blk_drew ?_ | refine blk_alloc ?_ _)); refine blk_put (cs := #[.bool a0_0, .bool a0_1, .slice none 0 0, .int .i64 0]) ?_ 2 _ rfl; (with_reducible repeat (first | refine blk_drewN ?_ _ | refine blk_drew ?_ | refine blk_alloc ?_ _)); refine blk_put (cs := #[.bool a0_0, .bool false, .slice none 0 0, .int .i64 0]) ?_ 1 _ rfl; (with_reducible repeat (first | refine blk_drewN ?_ _ | refine blk_drew ?_ | refine blk_alloc ?_ _)); refine blk_put (cs := #[.bool false, .bool false, .slice none 0 0, .int .i64 0]) ?_ 0 _ rfl; (with_reducible repeat (first | refine blk_drewN ?_ _ | refine blk_drew ?_ | refine blk_alloc ?_ _)); exact BK115.out) hb); have n4_ := Aside0.mk (blk_below (g := gb116) (o := .cells #[.bool false, .bool true, .slice A0_2 l0_2.length c0_2, .int .i64 a0_3] 26 (0, 0)) (by (with_reducible repeat (first | refine blk_drewN ?_ _ | refine blk_drew ?_ | refine blk_alloc ?_ _)); refine blk_put (cs := #[.bool false, .bool a0_1, .slice A0_2 l0_2.length c0_2, .int .i64 a0_3]) ?_ 1 _ rfl; (with_reducible repeat (first | refine blk_drewN ?_ _ | refine blk_drew ?_ | refine blk_alloc ?_ _)); refine blk_put (cs := #[.bool a0_0, .bool a0_1, .slice A0_2 l0_2.length c0_2, .int .i64 a0_3]) ?_ 0 _ rfl; (with_reducible repeat (first | refine blk_drewN ?_ _ | refine blk_drew ?_ | refine blk_alloc ?_ _)); refine blk_far ?_ NB116_115.out _; (with_reducible repeat (first | refine blk_drewN ?_ _ | refine blk_drew ?_ | refine blk_alloc ?_ _)); refine blk_put (cs := #[.bool a0_0, .bool a0_1, .slice A0_2 l0_2.length c0_2, .int .i64 0]) ?_ 3 _ rfl; (with_reducible repeat (first | refine blk_drewN ?_ _ | refine blk_drew ?_ | refine blk_alloc ?_ _)); refine blk_put (cs := #[.bool a0_0, .bool a0_1, .slice none 0 0, .int .i64 0]) ?_ 2 _ rfl; (with_reducible repeat (first | refine blk_drewN ?_ _ | refine blk_drew ?_ | refine blk_alloc ?_ _)); refine blk_put (cs := #[.bool a0_0, .bool false, .slice none 0 0, .int .i64 0]) ?_ 1 _ rfl; (with_reducible repeat (first | refine blk_drewN ?_ _ | refine blk_drew ?_ | refine blk_alloc ?_ _)); refine blk_put (cs := #[.bool false, .bool false, .slice none 0 0, .int .i64 0]) ?_ 0 _ rfl; (with_reducible repeat (first | refine blk_drewN ?_ _ | refine blk_drew ?_ | refine blk_alloc ?_ _)); refine blk_far ?_ NB116_115.out _; (with_reducible repeat (first | refine blk_drewN ?_ _ | refine blk_drew ?_ | refine blk_alloc ?_ _)); refine blk_far ?_ NB116_115.out _; (with_reducible repeat (first | refine blk_drewN ?_ _ | refine blk_drew ?_ | refine blk_alloc ?_ _)); refine blk_far ?_ NB116_115.out _; (with_reducible repeat (first | refine blk_drewN ?_ _ | refine blk_drew ?_ | refine blk_alloc ?_ _)); refine blk_far ?_ NB116_115.out _; (with_reducible repeat (first | refine blk_drewN ?_ _ | refine blk_drew ?_ | refine blk_alloc ?_ _)); exact BK116.out) hb); have n5_ := Aside0.mk (below_step (by repeat (first | (with_reducible first | exact HB.out | apply below_alloc | apply pw_below_drewN | apply below_drew1 | refine below_set ?_ GE101.out | refine below_set ?_ GE105.out | refine below_set ?_ GE115.out | refine below_set ?_ GE116.out) | exact HB.out)) hb); clear HO114; clear BK101; clear BK105; clear BK115; clear BK116; clear HB; have HO114 := n0_; have BK101 := n1_; have BK105 := n2_; have BK115 := n3_; have BK116 := n4_; have HB := n5_; clear n0_ n1_ n2_ n3_ n4_ n5_; (try clear hb); (try clear hb2); (try clear hk); (try clear hi)))
                      go_meet
                      case rel => exact ⟨_, (false), (by first | rfl | (simp; done) | (simp [*]; done)), H', ⟨by have := HJ3.out; have := HK2.out; first | omega | exact Nat.le_refl _⟩, ⟨by (with_reducible repeat (first | apply Kd.R_alloc | apply Kd.R_drewN | apply Kd.R_drew)); exact HO114.out⟩, ⟨by (with_reducible repeat (first | refine blk_drewN ?_ _ | refine blk_drew ?_ | refine blk_alloc ?_ _)); exact BK101.out⟩, ⟨by (with_reducible repeat (first | refine blk_drewN ?_ _ | refine blk_drew ?_ | refine blk_alloc ?_ _)); exact BK105.out⟩, ⟨by (with_reducible repeat (first | refine blk_drewN ?_ _ | refine blk_drew ?_ | refine blk_alloc ?_ _)); exact BK115.out⟩, ⟨by (with_reducible repeat (first | refine blk_drewN ?_ _ | refine blk_drew ?_ | refine blk_alloc ?_ _)); exact BK116.out⟩, ⟨by repeat (first | (with_reducible first | exact HB.out | apply below_alloc | apply pw_below_drewN | apply below_drew1 | refine below_set ?_ GE101.out | refine below_set ?_ GE105.out | refine below_set ?_ GE115.out | refine below_set ?_ GE116.out) | exact HB.out)⟩⟩
                  case rest =>
                    clear HC23
                    try clear c1
                    try clear p1
                    try clear q1
                    try clear hx1
                    try clear c2
                    try clear p2
                    try clear c4
                    try clear c5
                    try clear c6
                    try clear c6b0
                    try clear c6b1
                    try clear p6
                    try clear c7
                    try clear c8
                    try clear c8b0
                    try clear c8b1
                    try clear p10
                    try clear q10
                    try clear hx10
                    try clear c11
                    try clear c14
                    try clear c14b0
                    try clear c15
                    try clear c15b0
                    try clear c16
                    try clear c16b0
                    try clear c16b1
                    try clear c21
                    try clear c22
                    try clear c26
                    try clear c48
                    try clear c49
                    try clear c50
                    try clear c52
                    try clear c53
                    try clear c56
                    try clear c58
                    try clear c59
                    try clear c60
                    try clear c63
                    try clear c64
                    try clear p64
                    try clear c67
                    try clear c68
                    try clear c69
                    try clear hcz10_0
                    try clear hcz10_1
                    try clear hcz10_2
                    try clear hcz10_3
                    try clear hcz18_0
                    try clear hcz18_1
                    try clear hcz18_2
                    try clear hcz18_3
                    try clear hcz20_0
                    try clear hcz20_1
                    try clear hcz20_2
                    try clear hcz20_3
                    try clear hcz24_0
                    try clear hcz24_1
                    try clear hcz24_2
                    try clear hcz24_3
                    try clear hcz27_0
                    try clear hcz27_1
                    try clear hcz27_2
                    try clear hcz27_3
                    try clear hcz30_0
                    try clear hcz30_1
                    try clear hcz30_2
                    try clear hcz30_3
                    try clear hcz34_0
                    try clear hcz34_1
                    try clear hcz34_2
                    try clear hcz34_3
                    try clear hcz51_0
                    try clear hcz51_1
                    try clear hcz51_2
                    try clear hcz51_3
                    try clear hcz54_0
                    try clear hcz54_1
                    try clear hcz54_2
                    try clear hcz54_3
                    try clear hcz61_0
                    try clear hcz61_1
                    try clear hcz61_2
                    try clear hcz61_3
                    try clear hcz65_0
                    try clear hcz65_1
                    try clear hcz65_2
                    try clear hcz65_3
                    try clear hcz70_0
                    try clear hcz70_1
                    try clear hcz70_2
                    try clear hcz70_3
                    try clear hcz7_0
                    try clear hcz7_1
                    try clear hcz7_2
                    try clear hcz7_3
                    try clear hcz9_0
                    try clear hcz9_1
                    try clear hcz9_2
                    try clear hcz9_3
                    try clear hfz10_0
                    try clear hfz10_1
                    try clear hfz10_2
                    try clear hfz10_3
                    try clear hfz18_0
                    try clear hfz18_1
                    try clear hfz18_2
                    try clear hfz18_3
                    try clear hfz20_0
                    try clear hfz20_1
                    try clear hfz20_2
                    try clear hfz20_3
                    try clear hfz24_0
                    try clear hfz24_1
                    try clear hfz24_2
                    try clear hfz24_3
                    try clear hfz27_0
                    try clear hfz27_1
                    try clear hfz27_2
                    try clear hfz27_3
                    try clear hfz30_0
                    try clear hfz30_1
                    try clear hfz30_2
                    try clear hfz30_3
                    try clear hfz34_0
                    try clear hfz34_1
                    try clear hfz34_2
                    try clear hfz34_3
                    try clear hfz51_0
                    try clear hfz51_1
                    try clear hfz51_2
                    try clear hfz51_3
                    try clear hfz54_0
                    try clear hfz54_1
                    try clear hfz54_2
                    try clear hfz54_3
                    try clear hfz61_0
                    try clear hfz61_1
                    try clear hfz61_2
                    try clear hfz61_3
                    try clear hfz65_0
                    try clear hfz65_1
                    try clear hfz65_2
                    try clear hfz65_3
                    try clear hfz70_0
                    try clear hfz70_1
                    try clear hfz70_2
                    try clear hfz70_3
                    try clear hfz7_0
                    try clear hfz7_1
                    try clear hfz7_2
                    try clear hfz7_3
                    try clear hfz9_0
                    try clear hfz9_1
                    try clear hfz9_2
                    try clear hfz9_3
                    try clear hx103_0
                    try clear hx103_1
                    try clear p103
                    try clear p2
                    try clear p6
                    try clear q103
                    obtain ⟨kq, x65_22, rfl, HA, HJ22, HO_106002, BK101, BK105, BK115, BK116, HB⟩ := hcut
                    cases kq with
                    | zero => exact absurd HA.out (by simp [decorumlaw11_RobotsOpen.j2])
                    | succ kj22 =>
                      have H := HA.out
                      clear HA
                      simp only [decorumlaw11_RobotsOpen.j2] at H
                      by_cases c72 : x65_22 = true
                      · subst c72
                        have H1 : (some false) = some r := by rw [if_pos rfl] at H; exact H
                        clear H
                        have H := H1
                        clear H1
                        exact absurd ((Option.some.inj H).trans HR_.out) (by decide)
                      · replace c72 := Bool.eq_false_iff.mpr c72
                        subst c72
                        have H1 : ((decorumlaw11_awake.f).bind fun t119 => (if t119 = true then ((robots_Allowed.f kj22 true a0_1 l0_2 a0_3 a1).bind fun t120 => (if t120 = true then ((robots_Allowed.f kj22 false true l0_2 a0_3 a1).bind fun t121 => (if (t121 == (a1.toList == ([47, 114, 111, 98, 111, 116, 115, 46, 116, 120, 116] : List UInt8))) = true then ((robots_Allowed.f kj22 false false ([] : List (S30)) a0_3 a1).bind fun t122 => (some t122)) else (some false))) else (some false))) else (some false))) = some r := by rw [if_neg (show ¬ (false = true) by decide)] at H; exact H
                        clear H
                        have H := H1
                        clear H1
                        replace H := Option.bind_eq_some_iff.mp H
                        obtain ⟨t119, A730, H⟩ := H
                        replace H : (if t119 = true then ((robots_Allowed.f kj22 true a0_1 l0_2 a0_3 a1).bind fun t120 => (if t120 = true then ((robots_Allowed.f kj22 false true l0_2 a0_3 a1).bind fun t121 => (if (t121 == (a1.toList == ([47, 114, 111, 98, 111, 116, 115, 46, 116, 120, 116] : List UInt8))) = true then ((robots_Allowed.f kj22 false false ([] : List (S30)) a0_3 a1).bind fun t122 => (some t122)) else (some false))) else (some false))) else (some false)) = some r := H
                        have A73 := Aside0.mk A730
                        clear A730
                        by_cases c74 : t119 = true
                        · subst c74
                          have H1 : ((robots_Allowed.f kj22 true a0_1 l0_2 a0_3 a1).bind fun t120 => (if t120 = true then ((robots_Allowed.f kj22 false true l0_2 a0_3 a1).bind fun t121 => (if (t121 == (a1.toList == ([47, 114, 111, 98, 111, 116, 115, 46, 116, 120, 116] : List UInt8))) = true then ((robots_Allowed.f kj22 false false ([] : List (S30)) a0_3 a1).bind fun t122 => (some t122)) else (some false))) else (some false))) = some r := by rw [if_pos rfl] at H; exact H
                          clear H
                          have H := H1
                          clear H1
                          replace H := Option.bind_eq_some_iff.mp H
                          obtain ⟨t120, A750, H⟩ := H
                          replace H : (if t120 = true then ((robots_Allowed.f kj22 false true l0_2 a0_3 a1).bind fun t121 => (if (t121 == (a1.toList == ([47, 114, 111, 98, 111, 116, 115, 46, 116, 120, 116] : List UInt8))) = true then ((robots_Allowed.f kj22 false false ([] : List (S30)) a0_3 a1).bind fun t122 => (some t122)) else (some false))) else (some false)) = some r := H
                          have A75 := Aside0.mk A750
                          clear A750
                          by_cases c76 : t120 = true
                          · subst c76
                            have H1 : ((robots_Allowed.f kj22 false true l0_2 a0_3 a1).bind fun t121 => (if (t121 == (a1.toList == ([47, 114, 111, 98, 111, 116, 115, 46, 116, 120, 116] : List UInt8))) = true then ((robots_Allowed.f kj22 false false ([] : List (S30)) a0_3 a1).bind fun t122 => (some t122)) else (some false))) = some r := by rw [if_pos rfl] at H; exact H
                            clear H
                            have H := H1
                            clear H1
                            replace H := Option.bind_eq_some_iff.mp H
                            obtain ⟨t121, A770, H⟩ := H
                            replace H : (if (t121 == (a1.toList == ([47, 114, 111, 98, 111, 116, 115, 46, 116, 120, 116] : List UInt8))) = true then ((robots_Allowed.f kj22 false false ([] : List (S30)) a0_3 a1).bind fun t122 => (some t122)) else (some false)) = some r := H
                            have A77 := Aside0.mk A770
                            clear A770
                            by_cases c78 : (t121 == (a1.toList == ([47, 114, 111, 98, 111, 116, 115, 46, 116, 120, 116] : List UInt8))) = true
                            · rw [if_pos c78] at H
                              have c78b0 : (t121 == (a1.toList == ([47, 114, 111, 98, 111, 116, 115, 46, 116, 120, 116] : List UInt8))) = true := c78
                              (try (have c78b1 : decide (t121 = (a1.toList == ([47, 114, 111, 98, 111, 116, 115, 46, 116, 120, 116] : List UInt8))) = true := by simpa using c78))
                              (try (have c78b2 : (t121 == (a1.toList == ([47, 114, 111, 98, 111, 116, 115, 46, 116, 120, 116] : List UInt8))) = true := by simpa using c78))
                              clear c78
                              replace H := Option.bind_eq_some_iff.mp H
                              obtain ⟨t122, A790, H⟩ := H
                              replace H : (some t122) = some r := H
                              have A79 := Aside0.mk A790
                              clear A790
                              obtain rfl := Option.some.inj H
                              go_wp2_with (first | ((with_reducible refine gate_callee (f := 7) rfl ?_); refine goesL_ (some 66) rfl rfl Tryd.func7 (by kernel_rfl) rfl #[] rfl (by (try simp only [List.map_toArray, List.map_cons, List.map_nil]); first | done | rfl | (simp only [List.length_drop, List.length_take]; rfl)) ?_; (with_reducible refine (decorumlaw11_awake.calls  true _ A73.out (Shp.below HS_.out (by repeat (first | (with_reducible first | exact HB.out | apply below_alloc | apply pw_below_drewN | apply below_drew1 | refine below_set ?_ GE101.out | refine below_set ?_ GE105.out | refine below_set ?_ GE115.out | refine below_set ?_ GE116.out) | exact HB.out)))).mono ?_); rintro e w80 ⟨rfl, hb⟩; refine ⟨_, rfl, ?_⟩; have n0_ := Aside0.mk (Kd.R_below (by (with_reducible repeat (first | apply Kd.R_alloc | apply Kd.R_drewN | apply Kd.R_drew)); exact HO_106002.out) hb); have n1_ := Aside0.mk (blk_below (g := gb101) (o := .cells #[.bool a0_0, .bool a0_1, .slice A0_2 l0_2.length c0_2, .int .i64 a0_3] 26 (0, 0)) (by (with_reducible repeat (first | refine blk_drewN ?_ _ | refine blk_drew ?_ | refine blk_alloc ?_ _)); exact BK101.out) hb); have n2_ := Aside0.mk (blk_below (g := gb105) (o := .cells #[.bool a0_0, .bool a0_1, .slice Ao33 y112.length co33, .int .i64 a0_3] 26 (0, 0)) (by (with_reducible repeat (first | refine blk_drewN ?_ _ | refine blk_drew ?_ | refine blk_alloc ?_ _)); exact BK105.out) hb); have n3_ := Aside0.mk (blk_below (g := gb115) (o := .cells #[.bool true, .bool a0_1, .slice A0_2 l0_2.length c0_2, .int .i64 a0_3] 26 (0, 0)) (by (with_reducible repeat (first | refine blk_drewN ?_ _ | refine blk_drew ?_ | refine blk_alloc ?_ _)); exact BK115.out) hb); have n4_ := Aside0.mk (blk_below (g := gb116) (o := .cells #[.bool false, .bool true, .slice A0_2 l0_2.length c0_2, .int .i64 a0_3] 26 (0, 0)) (by (with_reducible repeat (first | refine blk_drewN ?_ _ | refine blk_drew ?_ | refine blk_alloc ?_ _)); exact BK116.out) hb); have n5_ := Aside0.mk (below_step (by repeat (first | (with_reducible first | exact HB.out | apply below_alloc | apply pw_below_drewN | apply below_drew1 | refine below_set ?_ GE101.out | refine below_set ?_ GE105.out | refine below_set ?_ GE115.out | refine below_set ?_ GE116.out) | exact HB.out)) hb); clear HO_106002; clear BK101; clear BK105; clear BK115; clear BK116; clear HB; have HO_106002 := n0_; have BK101 := n1_; have BK105 := n2_; have BK115 := n3_; have BK116 := n4_; have HB := n5_; clear n0_ n1_ n2_ n3_ n4_ n5_; (try clear hb); (try clear hb2); (try clear hk); (try clear hi); have hnb81 := NB115_101.out; have hnc81 := NB101_115.out; have hnb82 := NB115_105.out; have hnc82 := NB105_115.out; have hnb83 := NB115_116.out; have hnc83 := NB116_115.out; have hcz84_0 : w80.cell? ⟨gb115, 0, none⟩ = some (.bool true) := (blk_cell BK115.out 0).trans rfl; have hcz84_1 : w80.cell? ⟨gb115, 1, none⟩ = some (.bool a0_1) := (blk_cell BK115.out 1).trans rfl; have hcz84_2 : w80.cell? ⟨gb115, 2, none⟩ = some (.slice A0_2 l0_2.length c0_2) := (blk_cell BK115.out 2).trans rfl; have hcz84_3 : w80.cell? ⟨gb115, 3, none⟩ = some (.int .i64 a0_3) := (blk_cell BK115.out 3).trans rfl; have hfz84_0 := blk_frozen BK115.out 0; have hfz84_1 := blk_frozen BK115.out 1; have hfz84_2 := blk_frozen BK115.out 2; have hfz84_3 := blk_frozen BK115.out 3) | (go_at_call 11; (with_reducible refine (robots_Allowed.calls kj22 true a0_1 _ _ l0_2 a0_3 a1 true _ ?side1 ?side2 A75.out (Shp.below HS_.out (by repeat (first | (with_reducible first | exact HB.out | apply below_alloc | apply pw_below_drewN | apply below_drew1 | refine below_set ?_ GE101.out | refine below_set ?_ GE105.out | refine below_set ?_ GE115.out | refine below_set ?_ GE116.out) | exact HB.out)))).mono ?_); (case side1 => repeat (first | exact (Kd.C_below HR0_2.out HB.out) | (with_reducible refine Kd.C_alloc ?_ _) | (with_reducible refine Kd.C_drewN ?_ _) | (with_reducible refine Kd.C_drew ?_))); (case side2 => exact HC0_2.out); rintro e w85 ⟨rfl, hb⟩; have n0_ := Aside0.mk (Kd.R_below (by (with_reducible repeat (first | apply Kd.R_alloc | apply Kd.R_drewN | apply Kd.R_drew)); exact HO_106002.out) hb); have n1_ := Aside0.mk (blk_below (g := gb101) (o := .cells #[.bool a0_0, .bool a0_1, .slice A0_2 l0_2.length c0_2, .int .i64 a0_3] 26 (0, 0)) (by (with_reducible repeat (first | refine blk_drewN ?_ _ | refine blk_drew ?_ | refine blk_alloc ?_ _)); exact BK101.out) hb); have n2_ := Aside0.mk (blk_below (g := gb105) (o := .cells #[.bool a0_0, .bool a0_1, .slice Ao33 y112.length co33, .int .i64 a0_3] 26 (0, 0)) (by (with_reducible repeat (first | refine blk_drewN ?_ _ | refine blk_drew ?_ | refine blk_alloc ?_ _)); exact BK105.out) hb); have n3_ := Aside0.mk (blk_below (g := gb115) (o := .cells #[.bool true, .bool a0_1, .slice A0_2 l0_2.length c0_2, .int .i64 a0_3] 26 (0, 0)) (by (with_reducible repeat (first | refine blk_drewN ?_ _ | refine blk_drew ?_ | refine blk_alloc ?_ _)); exact BK115.out) hb); have n4_ := Aside0.mk (blk_below (g := gb116) (o := .cells #[.bool false, .bool true, .slice A0_2 l0_2.length c0_2, .int .i64 a0_3] 26 (0, 0)) (by (with_reducible repeat (first | refine blk_drewN ?_ _ | refine blk_drew ?_ | refine blk_alloc ?_ _)); exact BK116.out) hb); have n5_ := Aside0.mk (below_step (by repeat (first | (with_reducible first | exact HB.out | apply below_alloc | apply pw_below_drewN | apply below_drew1 | refine below_set ?_ GE101.out | refine below_set ?_ GE105.out | refine below_set ?_ GE115.out | refine below_set ?_ GE116.out) | exact HB.out)) hb); clear HO_106002; clear BK101; clear BK105; clear BK115; clear BK116; clear HB; have HO_106002 := n0_; have BK101 := n1_; have BK105 := n2_; have BK115 := n3_; have BK116 := n4_; have HB := n5_; clear n0_ n1_ n2_ n3_ n4_ n5_; (try clear hb); (try clear hb2); (try clear hk); (try clear hi); have hnb86 := NB116_101.out; have hnc86 := NB101_116.out; have hnb87 := NB116_105.out; have hnc87 := NB105_116.out; have hcz88_0 : w85.cell? ⟨gb116, 0, none⟩ = some (.bool false) := (blk_cell BK116.out 0).trans rfl; have hcz88_1 : w85.cell? ⟨gb116, 1, none⟩ = some (.bool true) := (blk_cell BK116.out 1).trans rfl; have hcz88_2 : w85.cell? ⟨gb116, 2, none⟩ = some (.slice A0_2 l0_2.length c0_2) := (blk_cell BK116.out 2).trans rfl; have hcz88_3 : w85.cell? ⟨gb116, 3, none⟩ = some (.int .i64 a0_3) := (blk_cell BK116.out 3).trans rfl; have hfz88_0 := blk_frozen BK116.out 0; have hfz88_1 := blk_frozen BK116.out 1; have hfz88_2 := blk_frozen BK116.out 2; have hfz88_3 := blk_frozen BK116.out 3) | (go_at_call 11; (with_reducible refine (robots_Allowed.calls kj22 false true _ _ l0_2 a0_3 a1 t121 _ ?side1 ?side2 A77.out (Shp.below HS_.out (by repeat (first | (with_reducible first | exact HB.out | apply below_alloc | apply pw_below_drewN | apply below_drew1 | refine below_set ?_ GE101.out | refine below_set ?_ GE105.out | refine below_set ?_ GE115.out | refine below_set ?_ GE116.out) | exact HB.out)))).mono ?_); (case side1 => repeat (first | exact (Kd.C_below HR0_2.out HB.out) | (with_reducible refine Kd.C_alloc ?_ _) | (with_reducible refine Kd.C_drewN ?_ _) | (with_reducible refine Kd.C_drew ?_))); (case side2 => exact HC0_2.out); rintro e w89 ⟨rfl, hb⟩; have n0_ := Aside0.mk (Kd.R_below (by (with_reducible repeat (first | apply Kd.R_alloc | apply Kd.R_drewN | apply Kd.R_drew)); exact HO_106002.out) hb); have n1_ := Aside0.mk (blk_below (g := gb101) (o := .cells #[.bool a0_0, .bool a0_1, .slice A0_2 l0_2.length c0_2, .int .i64 a0_3] 26 (0, 0)) (by (with_reducible repeat (first | refine blk_drewN ?_ _ | refine blk_drew ?_ | refine blk_alloc ?_ _)); exact BK101.out) hb); have n2_ := Aside0.mk (blk_below (g := gb105) (o := .cells #[.bool a0_0, .bool a0_1, .slice Ao33 y112.length co33, .int .i64 a0_3] 26 (0, 0)) (by (with_reducible repeat (first | refine blk_drewN ?_ _ | refine blk_drew ?_ | refine blk_alloc ?_ _)); exact BK105.out) hb); have n3_ := Aside0.mk (blk_below (g := gb115) (o := .cells #[.bool true, .bool a0_1, .slice A0_2 l0_2.length c0_2, .int .i64 a0_3] 26 (0, 0)) (by (with_reducible repeat (first | refine blk_drewN ?_ _ | refine blk_drew ?_ | refine blk_alloc ?_ _)); exact BK115.out) hb); have n4_ := Aside0.mk (blk_below (g := gb116) (o := .cells #[.bool false, .bool true, .slice A0_2 l0_2.length c0_2, .int .i64 a0_3] 26 (0, 0)) (by (with_reducible repeat (first | refine blk_drewN ?_ _ | refine blk_drew ?_ | refine blk_alloc ?_ _)); exact BK116.out) hb); have n5_ := Aside0.mk (below_step (by repeat (first | (with_reducible first | exact HB.out | apply below_alloc | apply pw_below_drewN | apply below_drew1 | refine below_set ?_ GE101.out | refine below_set ?_ GE105.out | refine below_set ?_ GE115.out | refine below_set ?_ GE116.out) | exact HB.out)) hb); clear HO_106002; clear BK101; clear BK105; clear BK115; clear BK116; clear HB; have HO_106002 := n0_; have BK101 := n1_; have BK105 := n2_; have BK115 := n3_; have BK116 := n4_; have HB := n5_; clear n0_ n1_ n2_ n3_ n4_ n5_; (try clear hb); (try clear hb2); (try clear hk); (try clear hi); have hnb90 := NB101_105.out; have hnc90 := NB105_101.out; have hcz91_0 : w89.cell? ⟨gb101, 0, none⟩ = some (.bool a0_0) := (blk_cell BK101.out 0).trans rfl; have hcz91_1 : w89.cell? ⟨gb101, 1, none⟩ = some (.bool a0_1) := (blk_cell BK101.out 1).trans rfl; have hcz91_2 : w89.cell? ⟨gb101, 2, none⟩ = some (.slice A0_2 l0_2.length c0_2) := (blk_cell BK101.out 2).trans rfl; have hcz91_3 : w89.cell? ⟨gb101, 3, none⟩ = some (.int .i64 a0_3) := (blk_cell BK101.out 3).trans rfl; have hfz91_0 := blk_frozen BK101.out 0; have hfz91_1 := blk_frozen BK101.out 1; have hfz91_2 := blk_frozen BK101.out 2; have hfz91_3 := blk_frozen BK101.out 3) | (go_at_call 11; (refine (robots_Allowed.calls kj22 false false _ _ ([] : List (S30)) a0_3 a1 t122 _ ?side1 ?side2 A79.out (Shp.below HS_.out (by repeat (first | (with_reducible first | exact HB.out | apply below_alloc | apply pw_below_drewN | apply below_drew1 | refine below_set ?_ GE101.out | refine below_set ?_ GE105.out | refine below_set ?_ GE115.out | refine below_set ?_ GE116.out) | exact HB.out)))).mono ?_); (case side1 => exact Kd.C_nil _ _); (case side2 => exact Nat.le_refl _); rintro e w92 ⟨rfl, hb⟩; have n0_ := Aside0.mk (Kd.R_below (by (with_reducible repeat (first | apply Kd.R_alloc | apply Kd.R_drewN | apply Kd.R_drew)); exact HO_106002.out) hb); have n1_ := Aside0.mk (blk_below (g := gb101) (o := .cells #[.bool a0_0, .bool a0_1, .slice A0_2 l0_2.length c0_2, .int .i64 a0_3] 26 (0, 0)) (by (with_reducible repeat (first | refine blk_drewN ?_ _ | refine blk_drew ?_ | refine blk_alloc ?_ _)); exact BK101.out) hb); have n2_ := Aside0.mk (blk_below (g := gb105) (o := .cells #[.bool a0_0, .bool a0_1, .slice Ao33 y112.length co33, .int .i64 a0_3] 26 (0, 0)) (by (with_reducible repeat (first | refine blk_drewN ?_ _ | refine blk_drew ?_ | refine blk_alloc ?_ _)); exact BK105.out) hb); have n3_ := Aside0.mk (blk_below (g := gb115) (o := .cells #[.bool true, .bool a0_1, .slice A0_2 l0_2.length c0_2, .int .i64 a0_3] 26 (0, 0)) (by (with_reducible repeat (first | refine blk_drewN ?_ _ | refine blk_drew ?_ | refine blk_alloc ?_ _)); exact BK115.out) hb); have n4_ := Aside0.mk (blk_below (g := gb116) (o := .cells #[.bool false, .bool true, .slice A0_2 l0_2.length c0_2, .int .i64 a0_3] 26 (0, 0)) (by (with_reducible repeat (first | refine blk_drewN ?_ _ | refine blk_drew ?_ | refine blk_alloc ?_ _)); exact BK116.out) hb); have n5_ := Aside0.mk (below_step (by repeat (first | (with_reducible first | exact HB.out | apply below_alloc | apply pw_below_drewN | apply below_drew1 | refine below_set ?_ GE101.out | refine below_set ?_ GE105.out | refine below_set ?_ GE115.out | refine below_set ?_ GE116.out) | exact HB.out)) hb); clear HO_106002; clear BK101; clear BK105; clear BK115; clear BK116; clear HB; have HO_106002 := n0_; have BK101 := n1_; have BK105 := n2_; have BK115 := n3_; have BK116 := n4_; have HB := n5_; clear n0_ n1_ n2_ n3_ n4_ n5_; (try clear hb); (try clear hb2); (try clear hk); (try clear hi)))
                              go_ret
                              exact ⟨by first | rfl | (simp [errW_none, errW_some] <;> rfl) | (simp [*, errW_none, errW_some] <;> rfl) | (simp [wrap64]; done) | (simp [errW_none, errW_some] <;> exact empty_bne _), by repeat (first | (with_reducible first | exact HB.out | apply below_alloc | apply pw_below_drewN | apply below_drew1 | refine below_set ?_ GE101.out | refine below_set ?_ GE105.out | refine below_set ?_ GE115.out | refine below_set ?_ GE116.out) | exact HB.out)⟩
                            · rw [if_neg c78] at H
                              have c78b0 : (t121 == (a1.toList == ([47, 114, 111, 98, 111, 116, 115, 46, 116, 120, 116] : List UInt8))) = false := by simpa using c78
                              (try (have c78b1 : decide (t121 = (a1.toList == ([47, 114, 111, 98, 111, 116, 115, 46, 116, 120, 116] : List UInt8))) = false := by simpa using c78))
                              (try (have c78b2 : (t121 == (a1.toList == ([47, 114, 111, 98, 111, 116, 115, 46, 116, 120, 116] : List UInt8))) = false := by simpa using c78))
                              (try (have c78b3 : ¬ (t121 = (a1.toList == ([47, 114, 111, 98, 111, 116, 115, 46, 116, 120, 116] : List UInt8))) := by simpa using c78))
                              clear c78
                              exact absurd ((Option.some.inj H).trans HR_.out) (by decide)
                          · replace c76 := Bool.eq_false_iff.mpr c76
                            subst c76
                            have H1 : (some false) = some r := by rw [if_neg (show ¬ (false = true) by decide)] at H; exact H
                            clear H
                            have H := H1
                            clear H1
                            exact absurd ((Option.some.inj H).trans HR_.out) (by decide)
                        · replace c74 := Bool.eq_false_iff.mpr c74
                          subst c74
                          have H1 : (some false) = some r := by rw [if_neg (show ¬ (false = true) by decide)] at H; exact H
                          clear H
                          have H := H1
                          clear H1
                          exact absurd ((Option.some.inj H).trans HR_.out) (by decide)
                · rw [if_neg c22] at H
                  exact absurd H (by simp)
              · rw [if_neg c21] at H
                exact absurd H (by simp)

end Go.Proofs.YtdnaddignhjihaaDoor.QO2
namespace Go.Proofs.YtdnaddignhjihaaDoor.PureA
open Go Go.RowKit Go.Proofs.YtdnaddignhjihaaDoor.QBase Go.Proofs.YtdnaddignhjihaaDoor.QU Go.Proofs.YtdnaddignhjihaaDoor.QMM Go.Proofs.YtdnaddignhjihaaDoor.QMB Go.Proofs.YtdnaddignhjihaaDoor.GivenM Go.Proofs.YtdnaddignhjihaaDoor.GlobM Go.Proofs.YtdnaddignhjihaaDoor.QM2 Go.Proofs.YtdnaddignhjihaaDoor.QO2 Go.Proofs.YtdnaddignhjihaaDoorW.PrintWords Go.Proofs.YtdnaddignhjihaaDoorW.PrintLast
open Go.Proofs.YtdnaddignhjihaaDoor.Given (decorumlaw11_awake.f)
set_option linter.unusedVariables false
set_option linter.unusedSimpArgs false
def mmOf (p : ByteArray) (r : S30) : Bool := matchV r.f1.data.toList p.data.toList
def nOf (r : S30) : Nat := (nf r.f1.data.toList).length
def allowedV (l : List S30) (p : ByteArray) : Bool := (l.foldl (stp (mmOf p) S30.f0 nOf) (-1, true)).2
theorem rd_at (l : List S30) (i : Nat) (h : i < l.length) : rd_T30 l (i : Int) = l[i] := by
  simp [rd_T30, h]
theorem sz (l : List UInt8) : (⟨l.toArray⟩ : ByteArray).size = l.length := rfl

theorem allowed_l0 (p : ByteArray) (hp : p.size ≤ 100) (l : List S30) (hl : l.length ≤ 1000) (hr : ∀ r ∈ l, r.f1.size ≤ 100) (m : Nat) : ∀ (i k : Nat) (b : Int) (ok : Bool), l.length = i + m → m + 1 ≤ k →
    match_Allowed.l0 k p b ok l (l.length : Int) (i : Int) = some ((l.drop i).foldl (stp (mmOf p) S30.f0 nOf) (b, ok)).2 := by
  induction m with
  | zero =>
    intro i k b ok hi hk
    obtain ⟨k, rfl⟩ : ∃ k', k = k' + 1 := ⟨k - 1, by omega⟩
    simp only [match_Allowed.l0]
    rw [if_neg (by omega), List.drop_of_length_le (by omega)]
    rfl
  | succ m ih =>
    intro i k b ok hi hk
    obtain ⟨k, rfl⟩ : ∃ k', k = k' + 1 := ⟨k - 1, by omega⟩
    have hil : i < l.length := by omega
    have hri := hr _ (List.getElem_mem hil)
    simp only [match_Allowed.l0]
    rw [if_pos (by omega), if_pos (by omega), if_pos (by omega), rd_at l i hil, one_f _ (by omega), Option.bind_some, match_f _ _ (by omega) (by omega), Option.bind_some, wrap_in ((i : Int) + 1) (by omega) (by omega), show (i : Int) + 1 = ((i + 1 : Nat) : Int) by omega,
      List.drop_eq_getElem_cons hil, List.foldl_cons, sz]
    generalize l[i] = r at *
    have step : ∀ st : Int × Bool, match_Allowed.l0 k p st.1 st.2 l (l.length : Int) ((i + 1 : Nat) : Int) = some ((l.drop (i + 1)).foldl (stp (mmOf p) S30.f0 nOf) st).2 := fun st => ih (i + 1) k st.1 st.2 (by omega) (by omega)
    have hst : stp (mmOf p) S30.f0 nOf (b, ok) r = if matchV r.f1.data.toList p.data.toList = true then (if ((nf r.f1.data.toList).length : Int) < b then (b, ok) else if r.f0 = true then (((nf r.f1.data.toList).length : Int), true) else if ((nf r.f1.data.toList).length : Int) = b then (((nf r.f1.data.toList).length : Int), ok) else (((nf r.f1.data.toList).length : Int), false)) else (b, ok) := rfl
    rw [hst]
    by_cases c1 : matchV r.f1.data.toList p.data.toList = true
    · rw [if_pos c1, if_pos c1]
      by_cases c2 : ((nf r.f1.data.toList).length : Int) < b
      · rw [if_pos c2, if_pos c2]; exact step (b, ok)
      · rw [if_neg c2, if_neg c2]
        by_cases c3 : r.f0 = true
        · rw [if_pos c3, if_pos c3]; exact step (_, true)
        · rw [if_neg c3, if_neg c3]
          by_cases c4 : ((nf r.f1.data.toList).length : Int) = b
          · rw [if_pos c4, if_pos c4]; exact step (_, ok)
          · rw [if_neg c4, if_neg c4]; exact step (_, false)
    · rw [if_neg c1, if_neg c1]; exact step (b, ok)
theorem allowed_f (p : ByteArray) (hp : p.size ≤ 100) (l : List S30) (hl : l.length ≤ 1000) (hr : ∀ r ∈ l, r.f1.size ≤ 100) (k : Nat) (hk : l.length + 1 ≤ k) : match_Allowed.f k l p = some (allowedV l p) := by
  have := allowed_l0 p hp l hl hr l.length 0 k (-1) true (by omega) hk
  rw [List.drop_zero] at this
  exact this

def rtxt : List UInt8 := [47, 114, 111, 98, 111, 116, 115, 46, 116, 120, 116]
/-- May a path be asked for? -/
def mayV (all no : Bool) (l : List S30) (p : ByteArray) : Bool := if p.toList = rtxt ∨ all = true then true else if no = true then false else allowedV l p
theorem robots_f (p : ByteArray) (hp : p.size ≤ 100) (l : List S30) (hl : l.length ≤ 1000) (hr : ∀ r ∈ l, r.f1.size ≤ 100) (all no : Bool) (dl : Int) (k : Nat) (hk : l.length + 2 ≤ k) :
    robots_Allowed.f k all no l dl p = some (mayV all no l p) := by
  obtain ⟨k, rfl⟩ : ∃ k', k = k' + 1 := ⟨k - 1, by omega⟩
  have h := allowed_f p hp l hl hr k (by omega)
  unfold robots_Allowed.f
  by_cases c1 : p.toList = rtxt
  · have c1' : p.toList = [47, 114, 111, 98, 111, 116, 115, 46, 116, 120, 116] := c1
    rw [if_pos c1']
    simp [robots_Allowed.j0, mayV, c1]
  · have c1' : ¬ p.toList = [47, 114, 111, 98, 111, 116, 115, 46, 116, 120, 116] := c1
    rw [if_neg c1']
    cases all <;> cases no <;> simp [robots_Allowed.j0, mayV, c1, h]
theorem awk : decorumlaw11_awake.f = some true := rfl

theorem allowed_more (l : List S30) (x p : ByteArray) (h : allowedV l p = true) : allowedV (l ++ [⟨true, x⟩]) p = true := by
  unfold allowedV at h ⊢
  rw [List.foldl_append, List.foldl_cons, List.foldl_nil]
  unfold stp
  split
  · split
    · exact h
    · rw [if_pos rfl]
  · exact h
theorem may_more (all no : Bool) (l : List S30) (x p : ByteArray) (h : mayV all no l p = true) : mayV all no (l ++ [⟨true, x⟩]) p = true := by
  unfold mayV at h ⊢
  by_cases c : p.toList = rtxt ∨ all = true
  · rw [if_pos c]
  · rw [if_neg c] at h ⊢
    by_cases c2 : no = true
    · rw [if_pos c2] at h; cases h
    · rw [if_neg c2] at h ⊢; exact allowed_more l x p h
theorem open_j2 (p : ByteArray) (hp : p.size ≤ 100) (l : List S30) (hl : l.length ≤ 100) (hr : ∀ r ∈ l, r.f1.size ≤ 100) (all no : Bool) (dl : Int) (k : Nat) (hk : 200 ≤ k) :
    decorumlaw11_RobotsOpen.j2 k p false all no l dl true no l dl false true l dl = some true := by
  obtain ⟨k, rfl⟩ : ∃ k', k = k' + 1 := ⟨k - 1, by omega⟩
  simp only [decorumlaw11_RobotsOpen.j2]
  have e1 : mayV true no l p = true := by rw [mayV, if_pos (.inr rfl)]
  have e2 : mayV false true l p = (p.toList == rtxt) := by
    unfold mayV
    by_cases c : p.toList = rtxt
    · rw [if_pos (.inl c)]; simp [c]
    · rw [if_neg (by rintro (e | e); exact c e; cases e), if_pos rfl]; simp [c]
  have e3 : mayV false false [] p = true := by
    unfold mayV
    split
    · rfl
    · rw [if_neg (by decide)]; rfl
  rw [if_neg (by decide), awk, Option.bind_some, if_pos rfl, robots_f p hp l (by omega) hr true no dl k (by omega), Option.bind_some, e1, if_pos rfl, robots_f p hp l (by omega) hr false true dl k (by omega), Option.bind_some, e2,
    if_pos (by simp [rtxt]), robots_f p hp [] (by simp) (by simp) false false dl k (by simp; omega), Option.bind_some, e3]
theorem open_l0 (p x : ByteArray) (hp : p.size ≤ 80) (hx : x.size ≤ 80) (l : List S30) (hl : l.length ≤ 20) (all no : Bool) (dl : Int) : ∀ (m i k : Nat), l.length = i + m → m + 1000 ≤ k → (∀ j (hj : j < l.length), j < i → l[j].f1.size ≤ 80) →
    decorumlaw11_RobotsOpen.l0 k p x (i : Int) all no l dl = some true := by
  intro m
  induction m with
  | zero =>
    intro i k hi hk hr
    obtain ⟨k, rfl⟩ : ∃ k', k = k' + 1 := ⟨k - 1, by omega⟩
    have hr2 : ∀ r ∈ l, r.f1.size ≤ 100 := by
      intro r hr'
      obtain ⟨j, hj, rfl⟩ := List.getElem_of_mem hr'
      have := hr j hj (by omega)
      omega
    have hr3 : ∀ r ∈ l ++ [(⟨true, x⟩ : S30)], r.f1.size ≤ 100 := by
      intro r h
      rcases List.mem_append.mp h with h | h
      · exact hr2 r h
      · obtain rfl := List.mem_singleton.mp h
        show x.size ≤ 100
        omega
    simp only [decorumlaw11_RobotsOpen.l0]
    rw [if_neg (by omega), Option.bind_some, if_pos (by simp; omega), Option.bind_some, List.nil_append, if_pos (by omega), robots_f p (by omega) l (by omega) hr2 all no dl k (by omega), Option.bind_some]
    have hj := open_j2 p (by omega) l (by omega) hr2 all no dl k (by omega)
    cases hm : mayV all no l p with
    | true =>
      rw [if_pos rfl, robots_f p (by omega) (l ++ [(⟨true, x⟩ : S30)]) (by simp; omega) hr3 all no dl k (by simp; omega), Option.bind_some, may_more all no l x p hm]
      exact hj
    | false =>
      rw [if_neg (by decide)]
      exact hj
  | succ m ih =>
    intro i k hi hk hr
    obtain ⟨k, rfl⟩ : ∃ k', k = k' + 1 := ⟨k - 1, by omega⟩
    have hil : i < l.length := by omega
    simp only [decorumlaw11_RobotsOpen.l0]
    rw [if_pos (by omega), if_pos (by omega), rd_at l i hil]
    by_cases h : (l[i].f1.size : Int) > 80
    · rw [if_pos h, awk]; rfl
    · rw [if_neg h, wrap_in ((i : Int) + 1) (by omega) (by omega), show (i : Int) + 1 = ((i + 1 : Nat) : Int) by omega]
      refine ih (i + 1) k (by omega) (by omega) ?_
      intro j hj hji
      by_cases e : j = i
      · subst e; omega
      · exact hr j hj (by omega)
theorem RobotsOpen (all no : Bool) (l : List S30) (dl : Int) (p x : ByteArray) : decorumlaw11_RobotsOpen.f 300000 all no l dl p x = some true := by
  unfold decorumlaw11_RobotsOpen.f
  have yes : decorumlaw11_RobotsOpen.j0 (299999 + 1) p x true all no l dl = some true := by
    simp only [decorumlaw11_RobotsOpen.j0]
    rw [if_pos trivial, awk]; rfl
  by_cases h1 : (l.length : Int) > 20
  · rw [if_pos h1]; exact yes
  · rw [if_neg h1]
    by_cases h3 : (p.size : Int) > 80
    · rw [if_pos h3]; exact yes
    · rw [if_neg h3]
      show decorumlaw11_RobotsOpen.j0 (299999 + 1) p x (decide ((x.size : Int) > 80)) all no l dl = some true
      by_cases h2 : (x.size : Int) > 80
      · rw [show decide ((x.size : Int) > 80) = true by simpa using h2]; exact yes
      · rw [show decide ((x.size : Int) > 80) = false by simpa using h2]
        simp only [decorumlaw11_RobotsOpen.j0]
        rw [if_neg (by decide)]
        exact open_l0 p x (by omega) (by omega) l (by omega) all no dl l.length 0 299999 (by omega) (by omega) (by intro j hj h; omega)
end Go.Proofs.YtdnaddignhjihaaDoor.PureA
namespace Go.Proofs.YtdnaddignhjihaaDoor.WalkRobotsOpen
set_option linter.unusedVariables false
open Go.RowKit Go.Proofs.YtdnaddignhjihaaDoor.Given Go.Proofs.YtdnaddignhjihaaDoor.QBase Go.Proofs.YtdnaddignhjihaaDoor.QO2 Go.Proofs.YtdnaddignhjihaaDoorW.PrintWords
theorem shp (w : World) (h : w.ShapedOpen Tryd.prog) : Shp w := Tryd.laysM145.s1_3 w h
open ArgsRobotsOpen in
theorem walk (v : Value) (x : D26) (a1 a2 : ByteArray) (w : World) (_s : ∃ cs, v = .agg cs ∧ cs.size = Tryd.prog.cellsOf 26) (K : kd26.K w x v.cells.toList) (g : good26 x) (w1 : a1.size ≤ 140737488351232) (w2 : a2.size ≤ 140737488351232) (hsh : w.ShapedOpen Tryd.prog) :
    Calls Tryd.prog 6 #[v, .string a1, .string a2] w fun e w' => e = .returned (.bool true) ∧ Below w.heap.size w w' := by
  obtain ⟨cs, rfl, _⟩ := _s
  obtain ⟨_, _, e0, rfl, ⟨_, _, rfl, rfl, ⟨_, _, rfl, ⟨A, c, rfl, hl, hC⟩, rfl⟩⟩⟩ := K
  have hcs : cs = #[.bool x.1, .bool x.2.1, .slice A x.2.2.1.length c, .int .i64 x.2.2.2] := by
    have : cs.toList = [.bool x.1, .bool x.2.1, .slice A x.2.2.1.length c, .int .i64 x.2.2.2] := e0
    exact Array.toList_inj.mp this
  subst hcs
  exact decorumlaw11_RobotsOpen.calls 300000 x.1 x.2.1 A c x.2.2.1 x.2.2.2 a1 a2 true w hC hl rfl (PureA.RobotsOpen x.1 x.2.1 x.2.2.1 x.2.2.2 a1 a2) (shp w hsh)
end Go.Proofs.YtdnaddignhjihaaDoor.WalkRobotsOpen
namespace Go.Proofs.YtdnaddignhjihaaDoor.Lift
open Go
variable {H : Type} {enc : TypeId × Value → H}
theorem lift {a : Assume} {C : Checked} {os : Os} {f : FuncId} {fn : Func} {s : ChangeSpec} {conds : List PathCond} {apart fresh handsOn again : Bool} {X : World → Array Value → Prop}
    (own : ownKnob C.prog.godebug = none) (started : os.Started) (noInit : C.prog.inits.idxOf? f = none) (hfn : C.prog.funcs[f]? = some fn)
    (witness : ∃ (w : World) (tape : Tape) (i : Input), w.os = os ∧ (w.forCall tape i).Shaped C.prog ∧ i.vars = [] ∧ Input.okWide C.prog (w.forCall tape i) .any w.heap.size f i ∧
      ((s.pre enc C.prog fn conds apart (w.forCall tape i).memory i.args ∧ X (w.forCall tape i).memory i.args) ∧ sizedMet enc C.prog fn (OpenSpec.ofChange s) apart (w.forCall tape i).memory i.args) ∧ a.holds C.prog (lone (Frame.enter C.prog f i.args .normal) [] (w.forCall tape i)))
    (contract : ∀ (W : World) (base : Nat) (args : Array Value) (ds gs : List (DataW H)) (before : List MemPlace),
      (∀ (j : Nat) t v, fn.params[j]? = some t → args[j]? = some v → Value.okWide C.prog W .any base t v) →
      DataW.Whole enc C.prog fn.params.toList s.vars apart W args.toList ds gs before →
      conds.all (PathCond.test C.prog ⟨fn.params.toList, ds, s.plain.varTypes C.prog, gs⟩) = true →
      (DataW.weightsEach C.prog (fn.params.toList ++ s.plain.varTypes C.prog) (ds ++ gs)).all (· ≤ reachBytes) = true →
      W.ShapedOpen C.prog →
      Calls C.prog f args W fun e W' => ∃ v, e = .returned v ∧ s.post enc C.prog fn apart fresh handsOn again W args v W') :
    ReturnsInHanded a C os f .any (fun w args => (s.pre enc C.prog fn conds apart w args ∧ X w args) ∧ sizedMet enc C.prog fn (OpenSpec.ofChange s) apart w args) (s.post enc C.prog fn apart fresh handsOn again) := by
  refine returnsInHanded_of_calls own started noInit witness ?_
  intro w tape i _ hsh _ hok hpre _
  obtain ⟨_, _, _, g, hg, _, _, _, _, hval⟩ := hok
  obtain rfl : g = fn := Option.some.inj (hg.symm.trans hfn)
  obtain ⟨⟨⟨ds, gs, before, hw, hc⟩, _⟩, hz⟩ := hpre
  exact (contract (w.forCall tape i) w.heap.size i.args ds gs before hval (DataW.Whole.of_heap (w' := w.forCall tape i) (by rfl) hw) hc (hz.weights hw) hsh).mono fun e W' ⟨v, he, hp⟩ => by
    subst he
    exact ChangeSpec.post_blind hp
end Go.Proofs.YtdnaddignhjihaaDoor.Lift
namespace Go.Proofs.YtdnaddignhjihaaDoor.robotsOpen
open Go.ChangeShapes Go.WideShapes Go.ChangeAt Go.RowKit
open Go.ChangeMaps (open_string shut_string)
set_option linter.unusedVariables false
theorem own : ownKnob Tryd.prog.godebug = none := by kernel_rfl
theorem laidOut : laidOutB Tryd.prog = true := by kernel_rfl
set_option maxRecDepth 100000 in
theorem lifted (os : Os) (started : os.Started) (H : Type) (enc : TypeId × Value → H) :
    ReturnsInHanded {} Tryd.checked os 6 .any (fun w args => (Rows.robotsOpenSpec.pre enc Tryd.prog Tryd.f6 Rows.robotsOpenRow.domain false w args ∧ laidMetH Tryd.prog Rows.robotsOpenRow.laid w) ∧ sizedMet enc Tryd.prog Tryd.f6 (OpenSpec.ofChange Rows.robotsOpenSpec) false w args) (Rows.robotsOpenSpec.post enc Tryd.prog Tryd.f6 false true false false) := by
  refine Lift.lift (C := Tryd.checked) (X := fun w _ => laidMetH Tryd.prog Rows.robotsOpenRow.laid w) own started (by kernel_rfl) Tryd.func6
    (ChangeSpec.witness_shaped (enc := enc) (C := Tryd.checked) (os := os) (X := fun w _ => laidMetH Tryd.prog Rows.robotsOpenRow.laid w) false (World.laidAll Tryd.prog os Rows.robotsOpenRow.laid) #[.agg #[.bool false, .bool false, .slice none 0 0, .int .i64 0], .string ByteArray.empty, .string ByteArray.empty] 8 (World.laidAll_os _ _ _)
      (World.shaped_of_ZipB (by kernel_rfl) (by kernel_rfl)) (by kernel_rfl) (by kernel_rfl) (by kernel_rfl)
      (by rw [MakeChecks.laidMetH_plain _ _ _ (by kernel_rfl)]; exact laidMet_laidAll _ (by kernel_rfl) (by kernel_rfl))) ?_
  intro W base args ds gs before hval0 hW hcnd hsz0 hsh
  have hsz : (DataW.weightsEach Tryd.prog (Tryd.f6.params.toList ++ Rows.robotsOpenSpec.plain.varTypes Tryd.prog) (ds ++ gs)).all (· ≤ reachBytes) = true := hsz0
  have hval : ∀ (j : Nat) t v, Tryd.f6.params[j]? = some t → args[j]? = some v → Value.okWide Tryd.prog W .any base t v := hval0
  have hW' := hW
  obtain ⟨p, q, hA0, hV, rfl, hfz, hnd⟩ := hW
  have hA : DataW.TrodAll enc Tryd.prog W 0 (fun _ => true) true Tryd.f6.params.toList args.toList ds p := hA0
  rw [Tryd.params6] at hA hval hsz
  obtain ⟨v0, vs0, d0, ds0, p0, q0, hargs, rfl, rfl, h0, r0⟩ := trodAll_cons hA
  obtain ⟨v1, vs1, d1, ds1, p1, q1, rfl, rfl, rfl, h1, r1⟩ := trodAll_cons r0
  obtain ⟨v2, vs2, d2, ds2, p2, q2, rfl, rfl, rfl, h2, r2⟩ := trodAll_cons r1
  obtain ⟨rfl, rfl, rfl⟩ := trodAll_nil r2
  obtain rfl : args = #[v0, v1, v2] := by cases args; simp_all
  obtain ⟨rfl, rfl⟩ := trodVars_none hV
  have k0 := h0
  have lt0 : ∀ x ∈ p0, x.block < W.heap.size := by obtain ⟨m, hm⟩ := k0; exact DataW.trod_lt m _ _ _ hm
  obtain ⟨x0, K0, g0⟩ := (ArgsRobotsOpen.opens26).arg h0 hsz (j := 0) rfl rfl
  have s0 := okWide_struct Tryd.underlying26 (hval 0 26 v0 rfl rfl)
  obtain ⟨a1, rfl, rfl, rfl, y1⟩ := open_string Tryd.underlying9 (hval 1 9 v1 rfl rfl) h1
  have w1 : a1.size ≤ 140737488351232 := by
    have z := sized_string hsz (j := 1) (t := 9) rfl rfl
    rw [Array.length_toList] at z
    exact z
  obtain ⟨a2, rfl, rfl, rfl, y2⟩ := open_string Tryd.underlying9 (hval 2 9 v2 rfl rfl) h2
  have w2 : a2.size ≤ 140737488351232 := by
    have z := sized_string hsz (j := 2) (t := 9) rfl rfl
    rw [Array.length_toList] at z
    exact z
  clear hA0 hval0 hsz0 hsz hval
  refine (WalkRobotsOpen.walk v0 x0 a1 a2 W s0 K0 g0 w1 w2 hsh).mono fun e W' ⟨he, bel⟩ => ?_
  subst he
  exact ⟨_, rfl, _, _, _, [], _, [], hW', trodAll_mk1 (shut_bool Tryd.underlying4 _), (trodAll_cons_mk (Below.trod laidOut (by kernel_rfl) (of_decide_eq_true (by kernel_rfl)) k0 bel lt0) (trodAll_cons_mk (shut_string Tryd.underlying9 y1) (trodAll_cons_mk (shut_string Tryd.underlying9 y2) trodAll_mk0))), rfl, bel.frame _, fun h => by cases h⟩
theorem over : Rows.robotsOpenRow.holds Tryd.pinned (OpenSpec.ofChange Rows.robotsOpenSpec) :=
  OpenClaim.holds_of_wide 6 Tryd.f6 rfl rfl rfl rfl rfl rfl rfl ⟨rfl, rfl, rfl, rfl, rfl⟩ rfl rfl rfl rfl rfl (by kernel_rfl) Tryd.func6 (by kernel_rfl)
    (of_decide_eq_true (by kernel_rfl)) (by unfold Func.isWrapper; first | (rw [if_pos (by decide +kernel)]; kernel_rfl) | (rw [if_neg (by decide +kernel)]; exact ⟨rfl, rfl⟩))
    (fun os started H enc _ => lifted os started H enc)
theorem proved : Rows.RobotsOpenSaid := over
theorem card : Rows.RobotsOpenCardSaid :=
  Claim7.holds_tied_plain_at .later [] [.data, .pinned] true (true, "d197b9417d0fe1ca454221f2141769a21cf7fc6dedecd8c35fcb9fe414422d9a") false proved (fun _ h => by cases h) (by kernel_rfl) (fun _ h => by cases h) robotsOpen_row_tie rfl ⟨rfl, rfl⟩ (by kernel_rfl) rfl
    (fun f fn hf hfn => by
      obtain rfl : f = 6 := Option.some.inj ((show Tryd.prog.funcNamed "decorum/decorumlaw11.RobotsOpen" = some 6 by kernel_rfl).symm.trans hf) |>.symm
      obtain rfl : fn = Tryd.f6 := (Option.some.inj (Tryd.func6.symm.trans hfn)).symm
      exact ⟨by kernel_rfl, fun j t ht => by
        rw [Tryd.params6] at ht
        have hm : t ∈ [26, 9, 9] := by simpa using Array.mem_of_getElem? ht
        have hall : ([26, 9, 9].all fun u => !Tryd.prog.wantsStandIn u) = true := by kernel_rfl
        exact (show Tryd.prog.wantsStandIn t = false by simpa using List.all_eq_true.1 hall t hm)⟩)
    (by kernel_rfl)
end Go.Proofs.YtdnaddignhjihaaDoor.robotsOpen
namespace Go.Proofs.YtdnaddignhjihaaDoor
/-- The row, under a short name, for the claim. -/
theorem robotsOpen_holds : Rows.RobotsOpenCardSaid := robotsOpen.card
end Go.Proofs.YtdnaddignhjihaaDoor
