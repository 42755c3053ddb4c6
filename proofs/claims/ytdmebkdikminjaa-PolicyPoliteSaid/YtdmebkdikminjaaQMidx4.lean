-- A text that a changed copy of the print program wrote for this claim (NOTES.md, changed print); it is not a printed text.
import Derived.Test.YtdmebkdikminjaaQMidx0
namespace Go.Proofs.Ytdmebkdikminjaa.QMid
open Go.Proofs.Ytdmebkdikminjaa.QBase
open Go.RowKit Go.Proofs.YtdmebkdikminjaaW.PrintWords Go.Proofs.YtdmebkdikminjaaW.PrintLast Go.Proofs.YtdmebkdikminjaaW.PrintMore
attribute [local go_sem] max2_int min2_int max_two min_two max_three min_three max_four min_four   -- for this text's walks alone
set_option linter.unusedVariables false
set_option linter.unusedSimpArgs false

/-! ### policy_Eligible: function 10 -/
def policy_Eligible.j0 : Nat → Bool → Int → Int → Int → Int → Int → Int → Int → Int → Int → Int → Bool → Bool → List (S55) → Int → Option (Int)
  | 0, _, _, _, _, _, _, _, _, _, _, _, _, _, _, _ => none
  | k + 1, x20, x123000, x123001, x123002, x123003, x123004, x123005, x123006, x123007, x123008, x123009, x123010, x123011, x123012, x123013 => if x20 = true then (some 4611686018427387903) else (if x123000 ≥ 0 then ((tick_Add.f x123000 x123001).bind fun t123 => (if x123004 = 1 then (some (mx (mx (mx (mx x123006 x123007) 0) t123) x123005)) else (some (mx (mx (mx x123006 x123007) 0) t123)))) else (if x123004 = 1 then (some (mx (mx (mx x123006 x123007) 0) x123005)) else (some (mx (mx x123006 x123007) 0))))
def policy_Eligible.f (k : Nat) (a0_0 : Int) (a0_1 : Int) (a0_2 : Int) (a0_3 : Int) (a0_4 : Int) (a0_5 : Int) (a0_6 : Int) (a0_7 : Int) (a0_8 : Int) (a0_9 : Int) (a0_10 : Int) (a0_11 : Int) (a0_12 : Int) (a0_13 : ByteArray) (a1_0 : Int) (a1_1 : Int) (a1_2 : Int) (a1_3 : Int) (a1_4 : Int) (a1_5 : Int) (a1_6 : Int) (a1_7 : Int) (a1_8 : Int) (a1_9 : Int) (a1_10 : Bool) (a1_11 : Bool) (l1_12 : List (S55)) (a1_13 : Int) : Option (Int) := if a1_8 ≥ a0_5 then (policy_Eligible.j0 k true a1_0 a1_1 a1_2 a1_3 a1_4 a1_5 a1_6 a1_7 a1_8 a1_9 a1_10 a1_11 l1_12 a1_13) else (if a1_4 = 0 then (policy_Eligible.j0 k false a1_0 a1_1 a1_2 a1_3 a1_4 a1_5 a1_6 a1_7 a1_8 a1_9 a1_10 a1_11 l1_12 a1_13) else (policy_Eligible.j0 k (decide (a1_8 > 0)) a1_0 a1_1 a1_2 a1_3 a1_4 a1_5 a1_6 a1_7 a1_8 a1_9 a1_10 a1_11 l1_12 a1_13))
theorem policy_Eligible.mono_l : ∀ k, (∀ y0 y1 y2 y3 y4 y5 y6 y7 y8 y9 y10 y11 y12 y13 y14, LeO (policy_Eligible.j0 k y0 y1 y2 y3 y4 y5 y6 y7 y8 y9 y10 y11 y12 y13 y14) (policy_Eligible.j0 (k + 1) y0 y1 y2 y3 y4 y5 y6 y7 y8 y9 y10 y11 y12 y13 y14))
  | 0 => fun _ _ _ _ _ _ _ _ _ _ _ _ _ _ _ r h => by simp [policy_Eligible.j0] at h
  | k + 1 => by
    have ih0 := policy_Eligible.mono_l k
    · intro y0 y1 y2 y3 y4 y5 y6 y7 y8 y9 y10 y11 y12 y13 y14
      unfold policy_Eligible.j0
      repeat' first
      | (with_reducible exact ih0 _ _ _ _ _ _ _ _ _ _ _ _ _ _ _)
      | (with_reducible exact LeO.refl _)
      | (with_reducible exact LeO.none _)
      | (with_reducible refine LeO.ite ?_ ?_)
      | (with_reducible refine LeO.bind ?_ (fun _ => ?_))
      | exact ih0 _ _ _ _ _ _ _ _ _ _ _ _ _ _ _
      | exact LeO.none _
      | refine LeO.ite ?_ ?_
      | refine LeO.bind ?_ (fun _ => ?_)
theorem policy_Eligible.mono : ∀ a0 a1 a2 a3 a4 a5 a6 a7 a8 a9 a10 a11 a12 a13 a14 a15 a16 a17 a18 a19 a20 a21 a22 a23 a24 a25 a26 a27 k, LeO (policy_Eligible.f k a0 a1 a2 a3 a4 a5 a6 a7 a8 a9 a10 a11 a12 a13 a14 a15 a16 a17 a18 a19 a20 a21 a22 a23 a24 a25 a26 a27) (policy_Eligible.f (k + 1) a0 a1 a2 a3 a4 a5 a6 a7 a8 a9 a10 a11 a12 a13 a14 a15 a16 a17 a18 a19 a20 a21 a22 a23 a24 a25 a26 a27) := by
  intro a0 a1 a2 a3 a4 a5 a6 a7 a8 a9 a10 a11 a12 a13 a14 a15 a16 a17 a18 a19 a20 a21 a22 a23 a24 a25 a26 a27 k
  have ih0 := policy_Eligible.mono_l k
  unfold policy_Eligible.f
  repeat' first
      | (with_reducible exact ih0 _ _ _ _ _ _ _ _ _ _ _ _ _ _ _)
      | (with_reducible exact LeO.refl _)
      | (with_reducible exact LeO.none _)
      | (with_reducible refine LeO.ite ?_ ?_)
      | (with_reducible refine LeO.bind ?_ (fun _ => ?_))
      | exact ih0 _ _ _ _ _ _ _ _ _ _ _ _ _ _ _
      | exact LeO.none _
      | refine LeO.ite ?_ ?_
      | refine LeO.bind ?_ (fun _ => ?_)
set_option maxHeartbeats 8000000 in
set_option maxRecDepth 100000 in
theorem policy_Eligible.calls (k : Nat) (a0_0 : Int) (a0_1 : Int) (a0_2 : Int) (a0_3 : Int) (a0_4 : Int) (a0_5 : Int) (a0_6 : Int) (a0_7 : Int) (a0_8 : Int) (a0_9 : Int) (a0_10 : Int) (a0_11 : Int) (a0_12 : Int) (a0_13 : ByteArray) (a1_0 : Int) (a1_1 : Int) (a1_2 : Int) (a1_3 : Int) (a1_4 : Int) (a1_5 : Int) (a1_6 : Int) (a1_7 : Int) (a1_8 : Int) (a1_9 : Int) (a1_10 : Bool) (a1_11 : Bool) (A1_12 : Option Addr) (c1_12 : Nat) (l1_12 : List (S55)) (a1_13 : Int) (r : Int) (w : World) (hr1_12 : Kd.C k55 w A1_12 l1_12.length l1_12) (hc1_12 : l1_12.length ≤ c1_12) (h : policy_Eligible.f k a0_0 a0_1 a0_2 a0_3 a0_4 a0_5 a0_6 a0_7 a0_8 a0_9 a0_10 a0_11 a0_12 a0_13 a1_0 a1_1 a1_2 a1_3 a1_4 a1_5 a1_6 a1_7 a1_8 a1_9 a1_10 a1_11 l1_12 a1_13 = some r) :
    Calls Try.prog 10 #[.agg #[.int .i64 a0_0, .int .i64 a0_1, .int .i64 a0_2, .int .i64 a0_3, .int .i64 a0_4, .int .i64 a0_5, .int .i64 a0_6, .int .i64 a0_7, .int .i64 a0_8, .int .i64 a0_9, .int .i64 a0_10, .int .i64 a0_11, .int .i64 a0_12, .string a0_13], .agg #[.int .i64 a1_0, .int .i64 a1_1, .int .i64 a1_2, .int .i64 a1_3, .int .i64 a1_4, .int .i64 a1_5, .int .i64 a1_6, .int .i64 a1_7, .int .i64 a1_8, .int .i64 a1_9, .bool a1_10, .bool a1_11, .slice A1_12 l1_12.length c1_12, .int .i64 a1_13]] w fun e w' => e = .returned (.int .i64 r) ∧ Below w.heap.size w w' := by
  have hu23 := Try.underlying23
  have hu28 := Try.underlying28
  have HR1_12 := Aside0.mk hr1_12
  have HC1_12 := Aside0.mk hc1_12
  clear hr1_12 hc1_12
  have HB := Aside0.mk (Below.refl w.heap.size w)
  have H : (if a1_8 ≥ a0_5 then (policy_Eligible.j0 k true a1_0 a1_1 a1_2 a1_3 a1_4 a1_5 a1_6 a1_7 a1_8 a1_9 a1_10 a1_11 l1_12 a1_13) else (if a1_4 = 0 then (policy_Eligible.j0 k false a1_0 a1_1 a1_2 a1_3 a1_4 a1_5 a1_6 a1_7 a1_8 a1_9 a1_10 a1_11 l1_12 a1_13) else (policy_Eligible.j0 k (decide (a1_8 > 0)) a1_0 a1_1 a1_2 a1_3 a1_4 a1_5 a1_6 a1_7 a1_8 a1_9 a1_10 a1_11 l1_12 a1_13))) = some r := h
  clear h
  have HC3 := Aside0.mk H
  clear H
  go_enter Try.func10, Try.ntmps10
  go_upto_region 1 with (first | ((with_reducible refine gate_dst (N := 2) rfl ?_); refine box_event ?hg (N := 2) ?hd (cs := #[.int .i64 a0_0, .int .i64 a0_1, .int .i64 a0_2, .int .i64 a0_3, .int .i64 a0_4, .int .i64 a0_5, .int .i64 a0_6, .int .i64 a0_7, .int .i64 a0_8, .int .i64 a0_9, .int .i64 a0_10, .int .i64 a0_11, .int .i64 a0_12, .string a0_13]) (t := 23) ?hr ?_; (case hd => rfl); (case hg => rfl); (case hr => first | (go_simp; done) | (go_simp; rfl)); intro gb121 hg w4 hbox hb; have n0_ := Aside0.mk (below_step (by repeat (first | (with_reducible first | exact HB.out | apply below_alloc | apply pw_below_drewN | apply below_drew1) | exact HB.out)) hb); have n1_ := Aside0.mk (hbox); have n2_ := Aside0.mk ((by rw [hg]; exact (below_size (by repeat (first | (with_reducible first | exact HB.out | apply below_alloc | apply pw_below_drewN | apply below_drew1) | exact HB.out))) : w.heap.size ≤ gb121)); have n3_ := Aside0.mk ((by rw [hg]; exact (below_size (by repeat (first | (with_reducible first | exact HB.out | apply below_alloc | apply pw_below_drewN | apply below_drew1) | exact HB.out))) : w.heap.size ≤ gb121)); clear HB; have HB := n0_; have BK121 := n1_; have GW121 := n2_; have GE121 := n3_; clear n0_ n1_ n2_ n3_; clear hb hbox hg) | ((with_reducible refine gate_dst (N := 3) rfl ?_); refine box_event ?hg (N := 3) ?hd (cs := #[.int .i64 a1_0, .int .i64 a1_1, .int .i64 a1_2, .int .i64 a1_3, .int .i64 a1_4, .int .i64 a1_5, .int .i64 a1_6, .int .i64 a1_7, .int .i64 a1_8, .int .i64 a1_9, .bool a1_10, .bool a1_11, .slice A1_12 l1_12.length c1_12, .int .i64 a1_13]) (t := 28) ?hr ?_; (case hd => rfl); (case hg => rfl); (case hr => first | (go_simp; done) | (go_simp; rfl)); intro gb122 hg w5 hbox hb; have n0_ := Aside0.mk (blk_below (g := gb121) (o := .cells #[.int .i64 a0_0, .int .i64 a0_1, .int .i64 a0_2, .int .i64 a0_3, .int .i64 a0_4, .int .i64 a0_5, .int .i64 a0_6, .int .i64 a0_7, .int .i64 a0_8, .int .i64 a0_9, .int .i64 a0_10, .int .i64 a0_11, .int .i64 a0_12, .string a0_13] 23 (0, 0)) (by (with_reducible repeat (first | refine blk_drewN ?_ _ | refine blk_drew ?_ | refine blk_alloc ?_ _)); exact BK121.out) hb); have n1_ := Aside0.mk (below_step (by repeat (first | (with_reducible first | exact HB.out | apply below_alloc | apply pw_below_drewN | apply below_drew1 | refine below_set ?_ GE121.out) | exact HB.out)) hb); have n2_ := Aside0.mk (hbox); have n3_ := Aside0.mk ((by rw [hg]; exact (below_size (by repeat (first | (with_reducible first | exact HB.out | apply below_alloc | apply pw_below_drewN | apply below_drew1 | refine below_set ?_ GE121.out) | exact HB.out))) : w.heap.size ≤ gb122)); have n4_ := Aside0.mk ((by rw [hg]; exact (below_size (by repeat (first | (with_reducible first | exact HB.out | apply below_alloc | apply pw_below_drewN | apply below_drew1 | refine below_set ?_ GE121.out) | exact HB.out))) : w.heap.size ≤ gb122)); have n5_ := Aside0.mk ((by rw [hg]; exact Nat.ne_of_lt (blk_lt (g := gb121) (o := .cells #[.int .i64 a0_0, .int .i64 a0_1, .int .i64 a0_2, .int .i64 a0_3, .int .i64 a0_4, .int .i64 a0_5, .int .i64 a0_6, .int .i64 a0_7, .int .i64 a0_8, .int .i64 a0_9, .int .i64 a0_10, .int .i64 a0_11, .int .i64 a0_12, .string a0_13] 23 (0, 0)) (by (with_reducible repeat (first | refine blk_drewN ?_ _ | refine blk_drew ?_ | refine blk_alloc ?_ _)); exact BK121.out)) : gb121 ≠ gb122)); have n6_ := Aside0.mk ((by rw [hg]; exact Nat.ne_of_gt (blk_lt (g := gb121) (o := .cells #[.int .i64 a0_0, .int .i64 a0_1, .int .i64 a0_2, .int .i64 a0_3, .int .i64 a0_4, .int .i64 a0_5, .int .i64 a0_6, .int .i64 a0_7, .int .i64 a0_8, .int .i64 a0_9, .int .i64 a0_10, .int .i64 a0_11, .int .i64 a0_12, .string a0_13] 23 (0, 0)) (by (with_reducible repeat (first | refine blk_drewN ?_ _ | refine blk_drew ?_ | refine blk_alloc ?_ _)); exact BK121.out)) : gb122 ≠ gb121)); clear BK121; clear HB; have BK121 := n0_; have HB := n1_; have BK122 := n2_; have GW122 := n3_; have GE122 := n4_; have NB121_122 := n5_; have NB122_121 := n6_; clear n0_ n1_ n2_ n3_ n4_ n5_ n6_; clear hb hbox hg))
  (try simp only [Act.put, List.setIfInBounds_toArray, List.set_cons_zero, List.set_cons_succ])
  go_cut [20] (fun v20 wc => ∃ (kq : Nat) (x20_2 : Bool), v20 = .bool x20_2 ∧ Aside0 (policy_Eligible.j0 kq x20_2 a1_0 a1_1 a1_2 a1_3 a1_4 a1_5 a1_6 a1_7 a1_8 a1_9 a1_10 a1_11 l1_12 a1_13 = some r) ∧ Aside0 (kq ≤ k) ∧ Aside0 (wc.heap[gb121]? = some (.cells #[.int .i64 a0_0, .int .i64 a0_1, .int .i64 a0_2, .int .i64 a0_3, .int .i64 a0_4, .int .i64 a0_5, .int .i64 a0_6, .int .i64 a0_7, .int .i64 a0_8, .int .i64 a0_9, .int .i64 a0_10, .int .i64 a0_11, .int .i64 a0_12, .string a0_13] 23 (0, 0))) ∧ Aside0 (wc.heap[gb122]? = some (.cells #[.int .i64 a1_0, .int .i64 a1_1, .int .i64 a1_2, .int .i64 a1_3, .int .i64 a1_4, .int .i64 a1_5, .int .i64 a1_6, .int .i64 a1_7, .int .i64 a1_8, .int .i64 a1_9, .bool a1_10, .bool a1_11, (.slice A1_12 l1_12.length c1_12), .int .i64 a1_13] 28 (0, 0))) ∧ Aside0 (Below w.heap.size w wc))
  case first =>
    have H := HC3.out
    clear HC3
    by_cases c6 : a1_8 ≥ a0_5
    · rw [if_pos c6] at H
      have c6b0 : decide (a0_5 ≤ a1_8) = true := decide_eq_true c6
      clear c6
      (first | rw [c6b0] | (simp only [i64_w, i32_w]; rw [c6b0]) | skip)
      have H' := Aside0.mk H
      clear H
      have hnb7 := NB122_121.out
      have hnc7 := NB121_122.out
      have hcz8_0 : w5.cell? ⟨gb122, 0, none⟩ = some (.int .i64 a1_0) := (blk_cell BK122.out 0).trans rfl
      have hcz8_1 : w5.cell? ⟨gb122, 1, none⟩ = some (.int .i64 a1_1) := (blk_cell BK122.out 1).trans rfl
      have hcz8_2 : w5.cell? ⟨gb122, 2, none⟩ = some (.int .i64 a1_2) := (blk_cell BK122.out 2).trans rfl
      have hcz8_3 : w5.cell? ⟨gb122, 3, none⟩ = some (.int .i64 a1_3) := (blk_cell BK122.out 3).trans rfl
      have hcz8_4 : w5.cell? ⟨gb122, 4, none⟩ = some (.int .i64 a1_4) := (blk_cell BK122.out 4).trans rfl
      have hcz8_5 : w5.cell? ⟨gb122, 5, none⟩ = some (.int .i64 a1_5) := (blk_cell BK122.out 5).trans rfl
      have hcz8_6 : w5.cell? ⟨gb122, 6, none⟩ = some (.int .i64 a1_6) := (blk_cell BK122.out 6).trans rfl
      have hcz8_7 : w5.cell? ⟨gb122, 7, none⟩ = some (.int .i64 a1_7) := (blk_cell BK122.out 7).trans rfl
      have hcz8_8 : w5.cell? ⟨gb122, 8, none⟩ = some (.int .i64 a1_8) := (blk_cell BK122.out 8).trans rfl
      have hcz8_9 : w5.cell? ⟨gb122, 9, none⟩ = some (.int .i64 a1_9) := (blk_cell BK122.out 9).trans rfl
      have hcz8_10 : w5.cell? ⟨gb122, 10, none⟩ = some (.bool a1_10) := (blk_cell BK122.out 10).trans rfl
      have hcz8_11 : w5.cell? ⟨gb122, 11, none⟩ = some (.bool a1_11) := (blk_cell BK122.out 11).trans rfl
      have hcz8_12 : w5.cell? ⟨gb122, 12, none⟩ = some (.slice A1_12 l1_12.length c1_12) := (blk_cell BK122.out 12).trans rfl
      have hcz8_13 : w5.cell? ⟨gb122, 13, none⟩ = some (.int .i64 a1_13) := (blk_cell BK122.out 13).trans rfl
      have hfz8_0 := blk_frozen BK122.out 0
      have hfz8_1 := blk_frozen BK122.out 1
      have hfz8_2 := blk_frozen BK122.out 2
      have hfz8_3 := blk_frozen BK122.out 3
      have hfz8_4 := blk_frozen BK122.out 4
      have hfz8_5 := blk_frozen BK122.out 5
      have hfz8_6 := blk_frozen BK122.out 6
      have hfz8_7 := blk_frozen BK122.out 7
      have hfz8_8 := blk_frozen BK122.out 8
      have hfz8_9 := blk_frozen BK122.out 9
      have hfz8_10 := blk_frozen BK122.out 10
      have hfz8_11 := blk_frozen BK122.out 11
      have hfz8_12 := blk_frozen BK122.out 12
      have hfz8_13 := blk_frozen BK122.out 13
      have hcz9_0 : w5.cell? ⟨gb121, 0, none⟩ = some (.int .i64 a0_0) := (blk_cell BK121.out 0).trans rfl
      have hcz9_1 : w5.cell? ⟨gb121, 1, none⟩ = some (.int .i64 a0_1) := (blk_cell BK121.out 1).trans rfl
      have hcz9_2 : w5.cell? ⟨gb121, 2, none⟩ = some (.int .i64 a0_2) := (blk_cell BK121.out 2).trans rfl
      have hcz9_3 : w5.cell? ⟨gb121, 3, none⟩ = some (.int .i64 a0_3) := (blk_cell BK121.out 3).trans rfl
      have hcz9_4 : w5.cell? ⟨gb121, 4, none⟩ = some (.int .i64 a0_4) := (blk_cell BK121.out 4).trans rfl
      have hcz9_5 : w5.cell? ⟨gb121, 5, none⟩ = some (.int .i64 a0_5) := (blk_cell BK121.out 5).trans rfl
      have hcz9_6 : w5.cell? ⟨gb121, 6, none⟩ = some (.int .i64 a0_6) := (blk_cell BK121.out 6).trans rfl
      have hcz9_7 : w5.cell? ⟨gb121, 7, none⟩ = some (.int .i64 a0_7) := (blk_cell BK121.out 7).trans rfl
      have hcz9_8 : w5.cell? ⟨gb121, 8, none⟩ = some (.int .i64 a0_8) := (blk_cell BK121.out 8).trans rfl
      have hcz9_9 : w5.cell? ⟨gb121, 9, none⟩ = some (.int .i64 a0_9) := (blk_cell BK121.out 9).trans rfl
      have hcz9_10 : w5.cell? ⟨gb121, 10, none⟩ = some (.int .i64 a0_10) := (blk_cell BK121.out 10).trans rfl
      have hcz9_11 : w5.cell? ⟨gb121, 11, none⟩ = some (.int .i64 a0_11) := (blk_cell BK121.out 11).trans rfl
      have hcz9_12 : w5.cell? ⟨gb121, 12, none⟩ = some (.int .i64 a0_12) := (blk_cell BK121.out 12).trans rfl
      have hcz9_13 : w5.cell? ⟨gb121, 13, none⟩ = some (.string a0_13) := (blk_cell BK121.out 13).trans rfl
      have hfz9_0 := blk_frozen BK121.out 0
      have hfz9_1 := blk_frozen BK121.out 1
      have hfz9_2 := blk_frozen BK121.out 2
      have hfz9_3 := blk_frozen BK121.out 3
      have hfz9_4 := blk_frozen BK121.out 4
      have hfz9_5 := blk_frozen BK121.out 5
      have hfz9_6 := blk_frozen BK121.out 6
      have hfz9_7 := blk_frozen BK121.out 7
      have hfz9_8 := blk_frozen BK121.out 8
      have hfz9_9 := blk_frozen BK121.out 9
      have hfz9_10 := blk_frozen BK121.out 10
      have hfz9_11 := blk_frozen BK121.out 11
      have hfz9_12 := blk_frozen BK121.out 12
      have hfz9_13 := blk_frozen BK121.out 13
      go_wp2
      go_meet
      case rel => exact ⟨_, (true), (by first | rfl | (simp; done) | (simp [*]; done)), H', ⟨by first | omega | exact Nat.le_refl _⟩, ⟨by (with_reducible repeat (first | refine blk_drewN ?_ _ | refine blk_drew ?_ | refine blk_alloc ?_ _)); exact BK121.out⟩, ⟨by (with_reducible repeat (first | refine blk_drewN ?_ _ | refine blk_drew ?_ | refine blk_alloc ?_ _)); exact BK122.out⟩, ⟨by repeat (first | (with_reducible first | exact HB.out | apply below_alloc | apply pw_below_drewN | apply below_drew1 | refine below_set ?_ GE121.out | refine below_set ?_ GE122.out) | exact HB.out)⟩⟩
    · rw [if_neg c6] at H
      have c6b0 : decide (a0_5 ≤ a1_8) = false := decide_eq_false c6
      clear c6
      (first | rw [c6b0] | (simp only [i64_w, i32_w]; rw [c6b0]) | skip)
      by_cases c10 : a1_4 = 0
      · rw [if_pos c10] at H
        have c10b0 : (a1_4 == 0) = true := beq_iff_eq.mpr c10
        have c10b1 : (a1_4 != 0) = false := bne_eq_false_iff_eq.mpr c10
        clear c10
        have H' := Aside0.mk H
        clear H
        have hnb11 := NB122_121.out
        have hnc11 := NB121_122.out
        have hcz12_0 : w5.cell? ⟨gb122, 0, none⟩ = some (.int .i64 a1_0) := (blk_cell BK122.out 0).trans rfl
        have hcz12_1 : w5.cell? ⟨gb122, 1, none⟩ = some (.int .i64 a1_1) := (blk_cell BK122.out 1).trans rfl
        have hcz12_2 : w5.cell? ⟨gb122, 2, none⟩ = some (.int .i64 a1_2) := (blk_cell BK122.out 2).trans rfl
        have hcz12_3 : w5.cell? ⟨gb122, 3, none⟩ = some (.int .i64 a1_3) := (blk_cell BK122.out 3).trans rfl
        have hcz12_4 : w5.cell? ⟨gb122, 4, none⟩ = some (.int .i64 a1_4) := (blk_cell BK122.out 4).trans rfl
        have hcz12_5 : w5.cell? ⟨gb122, 5, none⟩ = some (.int .i64 a1_5) := (blk_cell BK122.out 5).trans rfl
        have hcz12_6 : w5.cell? ⟨gb122, 6, none⟩ = some (.int .i64 a1_6) := (blk_cell BK122.out 6).trans rfl
        have hcz12_7 : w5.cell? ⟨gb122, 7, none⟩ = some (.int .i64 a1_7) := (blk_cell BK122.out 7).trans rfl
        have hcz12_8 : w5.cell? ⟨gb122, 8, none⟩ = some (.int .i64 a1_8) := (blk_cell BK122.out 8).trans rfl
        have hcz12_9 : w5.cell? ⟨gb122, 9, none⟩ = some (.int .i64 a1_9) := (blk_cell BK122.out 9).trans rfl
        have hcz12_10 : w5.cell? ⟨gb122, 10, none⟩ = some (.bool a1_10) := (blk_cell BK122.out 10).trans rfl
        have hcz12_11 : w5.cell? ⟨gb122, 11, none⟩ = some (.bool a1_11) := (blk_cell BK122.out 11).trans rfl
        have hcz12_12 : w5.cell? ⟨gb122, 12, none⟩ = some (.slice A1_12 l1_12.length c1_12) := (blk_cell BK122.out 12).trans rfl
        have hcz12_13 : w5.cell? ⟨gb122, 13, none⟩ = some (.int .i64 a1_13) := (blk_cell BK122.out 13).trans rfl
        have hfz12_0 := blk_frozen BK122.out 0
        have hfz12_1 := blk_frozen BK122.out 1
        have hfz12_2 := blk_frozen BK122.out 2
        have hfz12_3 := blk_frozen BK122.out 3
        have hfz12_4 := blk_frozen BK122.out 4
        have hfz12_5 := blk_frozen BK122.out 5
        have hfz12_6 := blk_frozen BK122.out 6
        have hfz12_7 := blk_frozen BK122.out 7
        have hfz12_8 := blk_frozen BK122.out 8
        have hfz12_9 := blk_frozen BK122.out 9
        have hfz12_10 := blk_frozen BK122.out 10
        have hfz12_11 := blk_frozen BK122.out 11
        have hfz12_12 := blk_frozen BK122.out 12
        have hfz12_13 := blk_frozen BK122.out 13
        have hcz13_0 : w5.cell? ⟨gb121, 0, none⟩ = some (.int .i64 a0_0) := (blk_cell BK121.out 0).trans rfl
        have hcz13_1 : w5.cell? ⟨gb121, 1, none⟩ = some (.int .i64 a0_1) := (blk_cell BK121.out 1).trans rfl
        have hcz13_2 : w5.cell? ⟨gb121, 2, none⟩ = some (.int .i64 a0_2) := (blk_cell BK121.out 2).trans rfl
        have hcz13_3 : w5.cell? ⟨gb121, 3, none⟩ = some (.int .i64 a0_3) := (blk_cell BK121.out 3).trans rfl
        have hcz13_4 : w5.cell? ⟨gb121, 4, none⟩ = some (.int .i64 a0_4) := (blk_cell BK121.out 4).trans rfl
        have hcz13_5 : w5.cell? ⟨gb121, 5, none⟩ = some (.int .i64 a0_5) := (blk_cell BK121.out 5).trans rfl
        have hcz13_6 : w5.cell? ⟨gb121, 6, none⟩ = some (.int .i64 a0_6) := (blk_cell BK121.out 6).trans rfl
        have hcz13_7 : w5.cell? ⟨gb121, 7, none⟩ = some (.int .i64 a0_7) := (blk_cell BK121.out 7).trans rfl
        have hcz13_8 : w5.cell? ⟨gb121, 8, none⟩ = some (.int .i64 a0_8) := (blk_cell BK121.out 8).trans rfl
        have hcz13_9 : w5.cell? ⟨gb121, 9, none⟩ = some (.int .i64 a0_9) := (blk_cell BK121.out 9).trans rfl
        have hcz13_10 : w5.cell? ⟨gb121, 10, none⟩ = some (.int .i64 a0_10) := (blk_cell BK121.out 10).trans rfl
        have hcz13_11 : w5.cell? ⟨gb121, 11, none⟩ = some (.int .i64 a0_11) := (blk_cell BK121.out 11).trans rfl
        have hcz13_12 : w5.cell? ⟨gb121, 12, none⟩ = some (.int .i64 a0_12) := (blk_cell BK121.out 12).trans rfl
        have hcz13_13 : w5.cell? ⟨gb121, 13, none⟩ = some (.string a0_13) := (blk_cell BK121.out 13).trans rfl
        have hfz13_0 := blk_frozen BK121.out 0
        have hfz13_1 := blk_frozen BK121.out 1
        have hfz13_2 := blk_frozen BK121.out 2
        have hfz13_3 := blk_frozen BK121.out 3
        have hfz13_4 := blk_frozen BK121.out 4
        have hfz13_5 := blk_frozen BK121.out 5
        have hfz13_6 := blk_frozen BK121.out 6
        have hfz13_7 := blk_frozen BK121.out 7
        have hfz13_8 := blk_frozen BK121.out 8
        have hfz13_9 := blk_frozen BK121.out 9
        have hfz13_10 := blk_frozen BK121.out 10
        have hfz13_11 := blk_frozen BK121.out 11
        have hfz13_12 := blk_frozen BK121.out 12
        have hfz13_13 := blk_frozen BK121.out 13
        go_wp2
        go_meet
        case rel => exact ⟨_, (false), (by first | rfl | (simp; done) | (simp [*]; done)), H', ⟨by first | omega | exact Nat.le_refl _⟩, ⟨by (with_reducible repeat (first | refine blk_drewN ?_ _ | refine blk_drew ?_ | refine blk_alloc ?_ _)); exact BK121.out⟩, ⟨by (with_reducible repeat (first | refine blk_drewN ?_ _ | refine blk_drew ?_ | refine blk_alloc ?_ _)); exact BK122.out⟩, ⟨by repeat (first | (with_reducible first | exact HB.out | apply below_alloc | apply pw_below_drewN | apply below_drew1 | refine below_set ?_ GE121.out | refine below_set ?_ GE122.out) | exact HB.out)⟩⟩
      · rw [if_neg c10] at H
        have c10b0 : (a1_4 == 0) = false := beq_eq_false_iff_ne.mpr c10
        have c10b1 : (a1_4 != 0) = true := bne_iff_ne.mpr c10
        have H' := Aside0.mk H
        clear H
        have hnb14 := NB122_121.out
        have hnc14 := NB121_122.out
        have hcz15_0 : w5.cell? ⟨gb122, 0, none⟩ = some (.int .i64 a1_0) := (blk_cell BK122.out 0).trans rfl
        have hcz15_1 : w5.cell? ⟨gb122, 1, none⟩ = some (.int .i64 a1_1) := (blk_cell BK122.out 1).trans rfl
        have hcz15_2 : w5.cell? ⟨gb122, 2, none⟩ = some (.int .i64 a1_2) := (blk_cell BK122.out 2).trans rfl
        have hcz15_3 : w5.cell? ⟨gb122, 3, none⟩ = some (.int .i64 a1_3) := (blk_cell BK122.out 3).trans rfl
        have hcz15_4 : w5.cell? ⟨gb122, 4, none⟩ = some (.int .i64 a1_4) := (blk_cell BK122.out 4).trans rfl
        have hcz15_5 : w5.cell? ⟨gb122, 5, none⟩ = some (.int .i64 a1_5) := (blk_cell BK122.out 5).trans rfl
        have hcz15_6 : w5.cell? ⟨gb122, 6, none⟩ = some (.int .i64 a1_6) := (blk_cell BK122.out 6).trans rfl
        have hcz15_7 : w5.cell? ⟨gb122, 7, none⟩ = some (.int .i64 a1_7) := (blk_cell BK122.out 7).trans rfl
        have hcz15_8 : w5.cell? ⟨gb122, 8, none⟩ = some (.int .i64 a1_8) := (blk_cell BK122.out 8).trans rfl
        have hcz15_9 : w5.cell? ⟨gb122, 9, none⟩ = some (.int .i64 a1_9) := (blk_cell BK122.out 9).trans rfl
        have hcz15_10 : w5.cell? ⟨gb122, 10, none⟩ = some (.bool a1_10) := (blk_cell BK122.out 10).trans rfl
        have hcz15_11 : w5.cell? ⟨gb122, 11, none⟩ = some (.bool a1_11) := (blk_cell BK122.out 11).trans rfl
        have hcz15_12 : w5.cell? ⟨gb122, 12, none⟩ = some (.slice A1_12 l1_12.length c1_12) := (blk_cell BK122.out 12).trans rfl
        have hcz15_13 : w5.cell? ⟨gb122, 13, none⟩ = some (.int .i64 a1_13) := (blk_cell BK122.out 13).trans rfl
        have hfz15_0 := blk_frozen BK122.out 0
        have hfz15_1 := blk_frozen BK122.out 1
        have hfz15_2 := blk_frozen BK122.out 2
        have hfz15_3 := blk_frozen BK122.out 3
        have hfz15_4 := blk_frozen BK122.out 4
        have hfz15_5 := blk_frozen BK122.out 5
        have hfz15_6 := blk_frozen BK122.out 6
        have hfz15_7 := blk_frozen BK122.out 7
        have hfz15_8 := blk_frozen BK122.out 8
        have hfz15_9 := blk_frozen BK122.out 9
        have hfz15_10 := blk_frozen BK122.out 10
        have hfz15_11 := blk_frozen BK122.out 11
        have hfz15_12 := blk_frozen BK122.out 12
        have hfz15_13 := blk_frozen BK122.out 13
        have hcz16_0 : w5.cell? ⟨gb121, 0, none⟩ = some (.int .i64 a0_0) := (blk_cell BK121.out 0).trans rfl
        have hcz16_1 : w5.cell? ⟨gb121, 1, none⟩ = some (.int .i64 a0_1) := (blk_cell BK121.out 1).trans rfl
        have hcz16_2 : w5.cell? ⟨gb121, 2, none⟩ = some (.int .i64 a0_2) := (blk_cell BK121.out 2).trans rfl
        have hcz16_3 : w5.cell? ⟨gb121, 3, none⟩ = some (.int .i64 a0_3) := (blk_cell BK121.out 3).trans rfl
        have hcz16_4 : w5.cell? ⟨gb121, 4, none⟩ = some (.int .i64 a0_4) := (blk_cell BK121.out 4).trans rfl
        have hcz16_5 : w5.cell? ⟨gb121, 5, none⟩ = some (.int .i64 a0_5) := (blk_cell BK121.out 5).trans rfl
        have hcz16_6 : w5.cell? ⟨gb121, 6, none⟩ = some (.int .i64 a0_6) := (blk_cell BK121.out 6).trans rfl
        have hcz16_7 : w5.cell? ⟨gb121, 7, none⟩ = some (.int .i64 a0_7) := (blk_cell BK121.out 7).trans rfl
        have hcz16_8 : w5.cell? ⟨gb121, 8, none⟩ = some (.int .i64 a0_8) := (blk_cell BK121.out 8).trans rfl
        have hcz16_9 : w5.cell? ⟨gb121, 9, none⟩ = some (.int .i64 a0_9) := (blk_cell BK121.out 9).trans rfl
        have hcz16_10 : w5.cell? ⟨gb121, 10, none⟩ = some (.int .i64 a0_10) := (blk_cell BK121.out 10).trans rfl
        have hcz16_11 : w5.cell? ⟨gb121, 11, none⟩ = some (.int .i64 a0_11) := (blk_cell BK121.out 11).trans rfl
        have hcz16_12 : w5.cell? ⟨gb121, 12, none⟩ = some (.int .i64 a0_12) := (blk_cell BK121.out 12).trans rfl
        have hcz16_13 : w5.cell? ⟨gb121, 13, none⟩ = some (.string a0_13) := (blk_cell BK121.out 13).trans rfl
        have hfz16_0 := blk_frozen BK121.out 0
        have hfz16_1 := blk_frozen BK121.out 1
        have hfz16_2 := blk_frozen BK121.out 2
        have hfz16_3 := blk_frozen BK121.out 3
        have hfz16_4 := blk_frozen BK121.out 4
        have hfz16_5 := blk_frozen BK121.out 5
        have hfz16_6 := blk_frozen BK121.out 6
        have hfz16_7 := blk_frozen BK121.out 7
        have hfz16_8 := blk_frozen BK121.out 8
        have hfz16_9 := blk_frozen BK121.out 9
        have hfz16_10 := blk_frozen BK121.out 10
        have hfz16_11 := blk_frozen BK121.out 11
        have hfz16_12 := blk_frozen BK121.out 12
        have hfz16_13 := blk_frozen BK121.out 13
        go_wp2
        go_meet
        case rel => exact ⟨_, (decide (a1_8 > 0)), (by first | rfl | (simp; done) | (simp [*]; done)), H', ⟨by first | omega | exact Nat.le_refl _⟩, ⟨by (with_reducible repeat (first | refine blk_drewN ?_ _ | refine blk_drew ?_ | refine blk_alloc ?_ _)); exact BK121.out⟩, ⟨by (with_reducible repeat (first | refine blk_drewN ?_ _ | refine blk_drew ?_ | refine blk_alloc ?_ _)); exact BK122.out⟩, ⟨by repeat (first | (with_reducible first | exact HB.out | apply below_alloc | apply pw_below_drewN | apply below_drew1 | refine below_set ?_ GE121.out | refine below_set ?_ GE122.out) | exact HB.out)⟩⟩
  case rest =>
    clear HC3
    try clear c1
    try clear p2
    try clear c6
    try clear c6b0
    try clear c7
    try clear c10
    try clear c10b0
    try clear c10b1
    try clear c11
    try clear c14
    try clear hcz12_0
    try clear hcz12_1
    try clear hcz12_10
    try clear hcz12_11
    try clear hcz12_12
    try clear hcz12_13
    try clear hcz12_2
    try clear hcz12_3
    try clear hcz12_4
    try clear hcz12_5
    try clear hcz12_6
    try clear hcz12_7
    try clear hcz12_8
    try clear hcz12_9
    try clear hcz13_0
    try clear hcz13_1
    try clear hcz13_10
    try clear hcz13_11
    try clear hcz13_12
    try clear hcz13_13
    try clear hcz13_2
    try clear hcz13_3
    try clear hcz13_4
    try clear hcz13_5
    try clear hcz13_6
    try clear hcz13_7
    try clear hcz13_8
    try clear hcz13_9
    try clear hcz15_0
    try clear hcz15_1
    try clear hcz15_10
    try clear hcz15_11
    try clear hcz15_12
    try clear hcz15_13
    try clear hcz15_2
    try clear hcz15_3
    try clear hcz15_4
    try clear hcz15_5
    try clear hcz15_6
    try clear hcz15_7
    try clear hcz15_8
    try clear hcz15_9
    try clear hcz16_0
    try clear hcz16_1
    try clear hcz16_10
    try clear hcz16_11
    try clear hcz16_12
    try clear hcz16_13
    try clear hcz16_2
    try clear hcz16_3
    try clear hcz16_4
    try clear hcz16_5
    try clear hcz16_6
    try clear hcz16_7
    try clear hcz16_8
    try clear hcz16_9
    try clear hcz8_0
    try clear hcz8_1
    try clear hcz8_10
    try clear hcz8_11
    try clear hcz8_12
    try clear hcz8_13
    try clear hcz8_2
    try clear hcz8_3
    try clear hcz8_4
    try clear hcz8_5
    try clear hcz8_6
    try clear hcz8_7
    try clear hcz8_8
    try clear hcz8_9
    try clear hcz9_0
    try clear hcz9_1
    try clear hcz9_10
    try clear hcz9_11
    try clear hcz9_12
    try clear hcz9_13
    try clear hcz9_2
    try clear hcz9_3
    try clear hcz9_4
    try clear hcz9_5
    try clear hcz9_6
    try clear hcz9_7
    try clear hcz9_8
    try clear hcz9_9
    try clear hfz12_0
    try clear hfz12_1
    try clear hfz12_10
    try clear hfz12_11
    try clear hfz12_12
    try clear hfz12_13
    try clear hfz12_2
    try clear hfz12_3
    try clear hfz12_4
    try clear hfz12_5
    try clear hfz12_6
    try clear hfz12_7
    try clear hfz12_8
    try clear hfz12_9
    try clear hfz13_0
    try clear hfz13_1
    try clear hfz13_10
    try clear hfz13_11
    try clear hfz13_12
    try clear hfz13_13
    try clear hfz13_2
    try clear hfz13_3
    try clear hfz13_4
    try clear hfz13_5
    try clear hfz13_6
    try clear hfz13_7
    try clear hfz13_8
    try clear hfz13_9
    try clear hfz15_0
    try clear hfz15_1
    try clear hfz15_10
    try clear hfz15_11
    try clear hfz15_12
    try clear hfz15_13
    try clear hfz15_2
    try clear hfz15_3
    try clear hfz15_4
    try clear hfz15_5
    try clear hfz15_6
    try clear hfz15_7
    try clear hfz15_8
    try clear hfz15_9
    try clear hfz16_0
    try clear hfz16_1
    try clear hfz16_10
    try clear hfz16_11
    try clear hfz16_12
    try clear hfz16_13
    try clear hfz16_2
    try clear hfz16_3
    try clear hfz16_4
    try clear hfz16_5
    try clear hfz16_6
    try clear hfz16_7
    try clear hfz16_8
    try clear hfz16_9
    try clear hfz8_0
    try clear hfz8_1
    try clear hfz8_10
    try clear hfz8_11
    try clear hfz8_12
    try clear hfz8_13
    try clear hfz8_2
    try clear hfz8_3
    try clear hfz8_4
    try clear hfz8_5
    try clear hfz8_6
    try clear hfz8_7
    try clear hfz8_8
    try clear hfz8_9
    try clear hfz9_0
    try clear hfz9_1
    try clear hfz9_10
    try clear hfz9_11
    try clear hfz9_12
    try clear hfz9_13
    try clear hfz9_2
    try clear hfz9_3
    try clear hfz9_4
    try clear hfz9_5
    try clear hfz9_6
    try clear hfz9_7
    try clear hfz9_8
    try clear hfz9_9
    obtain ⟨kq, x20_2, rfl, HA, HJ2, BK121, BK122, HB⟩ := hcut
    cases kq with
    | zero => exact absurd HA.out (by simp [policy_Eligible.j0])
    | succ kj2 =>
      have H := HA.out
      clear HA
      simp only [policy_Eligible.j0] at H
      by_cases c17 : x20_2 = true
      · subst c17
        have H1 : (some 4611686018427387903) = some r := by rw [if_pos rfl] at H; exact H
        clear H
        have H := H1
        clear H1
        obtain rfl := Option.some.inj H
        go_wp2
        go_ret
        exact ⟨by first | rfl | (simp [errW_none, errW_some] <;> rfl) | (simp [*, errW_none, errW_some] <;> rfl) | (simp [wrap64]; done), by repeat (first | (with_reducible first | exact HB.out | apply below_alloc | apply pw_below_drewN | apply below_drew1 | refine below_set ?_ GE121.out | refine below_set ?_ GE122.out) | exact HB.out)⟩
      · replace c17 := Bool.eq_false_iff.mpr c17
        subst c17
        have H1 : (if a1_0 ≥ 0 then ((tick_Add.f a1_0 a1_1).bind fun t123 => (if a1_4 = 1 then (some (mx (mx (mx (mx a1_6 a1_7) 0) t123) a1_5)) else (some (mx (mx (mx a1_6 a1_7) 0) t123)))) else (if a1_4 = 1 then (some (mx (mx (mx a1_6 a1_7) 0) a1_5)) else (some (mx (mx a1_6 a1_7) 0)))) = some r := by rw [if_neg (show ¬ (false = true) by decide)] at H; exact H
        clear H
        have H := H1
        clear H1
        obtain ⟨ji18, hji18⟩ : ∃ j_ : Int, (mx a1_6 a1_7) = j_ := ⟨_, rfl⟩
        replace H : (if a1_0 ≥ 0 then ((tick_Add.f a1_0 a1_1).bind fun t123 => (if a1_4 = 1 then (some (mx (mx (mx (ji18) 0) t123) a1_5)) else (some (mx (mx (ji18) 0) t123)))) else (if a1_4 = 1 then (some (mx (mx (ji18) 0) a1_5)) else (some (mx (ji18) 0)))) = some r := by first | (rw [hji18] at H; exact H) | (simp only [hji18] at H ⊢; exact H)
        have hji18_ : (if a1_6 < a1_7 then a1_7 else a1_6) = ji18 := hji18
        obtain ⟨ji19, hji19⟩ : ∃ j_ : Int, (mx (ji18) 0) = j_ := ⟨_, rfl⟩
        replace H : (if a1_0 ≥ 0 then ((tick_Add.f a1_0 a1_1).bind fun t123 => (if a1_4 = 1 then (some (mx (mx (ji19) t123) a1_5)) else (some (mx (ji19) t123)))) else (if a1_4 = 1 then (some (mx (ji19) a1_5)) else (some ji19))) = some r := by first | (rw [hji19] at H; exact H) | (simp only [hji19] at H ⊢; exact H)
        have hji19_ : (if (ji18) < 0 then 0 else (ji18)) = ji19 := hji19
        by_cases c20 : a1_0 ≥ 0
        · rw [if_pos c20] at H
          have c20b0 : decide (0 ≤ a1_0) = true := decide_eq_true c20
          clear c20
          replace H := Option.bind_eq_some_iff.mp H
          obtain ⟨t123, A210, H⟩ := H
          replace H : (if a1_4 = 1 then (some (mx (mx (ji19) t123) a1_5)) else (some (mx (ji19) t123))) = some r := H
          have A21 := Aside0.mk A210
          clear A210
          obtain ⟨ji22, hji22⟩ : ∃ j_ : Int, (mx (ji19) t123) = j_ := ⟨_, rfl⟩
          replace H : (if a1_4 = 1 then (some (mx (ji22) a1_5)) else (some ji22)) = some r := by first | (rw [hji22] at H; exact H) | (simp only [hji22] at H ⊢; exact H)
          (try rw [hji22] at A21)
          have hji22_ : (if (ji19) < t123 then t123 else (ji19)) = ji22 := hji22
          by_cases c23 : a1_4 = 1
          · rw [if_pos c23] at H
            have c23b0 : (a1_4 == 1) = true := beq_iff_eq.mpr c23
            have c23b1 : (a1_4 != 1) = false := bne_eq_false_iff_eq.mpr c23
            clear c23
            obtain ⟨ji24, hji24⟩ : ∃ j_ : Int, (mx (ji22) a1_5) = j_ := ⟨_, rfl⟩
            replace H : (some ji24) = some r := by first | (rw [hji24] at H; exact H) | (simp only [hji24] at H ⊢; exact H)
            (try rw [hji24] at A21)
            have hji24_ : (if (ji22) < a1_5 then a1_5 else (ji22)) = ji24 := hji24
            obtain rfl := Option.some.inj H
            have hnb25 := NB122_121.out
            have hnc25 := NB121_122.out
            have hcz26_0 : wc.cell? ⟨gb122, 0, none⟩ = some (.int .i64 a1_0) := (blk_cell BK122.out 0).trans rfl
            have hcz26_1 : wc.cell? ⟨gb122, 1, none⟩ = some (.int .i64 a1_1) := (blk_cell BK122.out 1).trans rfl
            have hcz26_2 : wc.cell? ⟨gb122, 2, none⟩ = some (.int .i64 a1_2) := (blk_cell BK122.out 2).trans rfl
            have hcz26_3 : wc.cell? ⟨gb122, 3, none⟩ = some (.int .i64 a1_3) := (blk_cell BK122.out 3).trans rfl
            have hcz26_4 : wc.cell? ⟨gb122, 4, none⟩ = some (.int .i64 a1_4) := (blk_cell BK122.out 4).trans rfl
            have hcz26_5 : wc.cell? ⟨gb122, 5, none⟩ = some (.int .i64 a1_5) := (blk_cell BK122.out 5).trans rfl
            have hcz26_6 : wc.cell? ⟨gb122, 6, none⟩ = some (.int .i64 a1_6) := (blk_cell BK122.out 6).trans rfl
            have hcz26_7 : wc.cell? ⟨gb122, 7, none⟩ = some (.int .i64 a1_7) := (blk_cell BK122.out 7).trans rfl
            have hcz26_8 : wc.cell? ⟨gb122, 8, none⟩ = some (.int .i64 a1_8) := (blk_cell BK122.out 8).trans rfl
            have hcz26_9 : wc.cell? ⟨gb122, 9, none⟩ = some (.int .i64 a1_9) := (blk_cell BK122.out 9).trans rfl
            have hcz26_10 : wc.cell? ⟨gb122, 10, none⟩ = some (.bool a1_10) := (blk_cell BK122.out 10).trans rfl
            have hcz26_11 : wc.cell? ⟨gb122, 11, none⟩ = some (.bool a1_11) := (blk_cell BK122.out 11).trans rfl
            have hcz26_12 : wc.cell? ⟨gb122, 12, none⟩ = some (.slice A1_12 l1_12.length c1_12) := (blk_cell BK122.out 12).trans rfl
            have hcz26_13 : wc.cell? ⟨gb122, 13, none⟩ = some (.int .i64 a1_13) := (blk_cell BK122.out 13).trans rfl
            have hfz26_0 := blk_frozen BK122.out 0
            have hfz26_1 := blk_frozen BK122.out 1
            have hfz26_2 := blk_frozen BK122.out 2
            have hfz26_3 := blk_frozen BK122.out 3
            have hfz26_4 := blk_frozen BK122.out 4
            have hfz26_5 := blk_frozen BK122.out 5
            have hfz26_6 := blk_frozen BK122.out 6
            have hfz26_7 := blk_frozen BK122.out 7
            have hfz26_8 := blk_frozen BK122.out 8
            have hfz26_9 := blk_frozen BK122.out 9
            have hfz26_10 := blk_frozen BK122.out 10
            have hfz26_11 := blk_frozen BK122.out 11
            have hfz26_12 := blk_frozen BK122.out 12
            have hfz26_13 := blk_frozen BK122.out 13
            go_wp2_with (first | ((with_reducible refine gate_callee (f := 25) rfl ?_); refine goesL_ (some 34) rfl rfl Try.func25 (by kernel_rfl) rfl #[.int .i64 a1_0, .int .i64 a1_1] rfl (by (try simp only [List.map_toArray, List.map_cons, List.map_nil]); first | done | rfl | (simp only [List.length_drop, List.length_take]; rfl)) ?_; (with_reducible refine (tick_Add.calls a1_0 a1_1 t123 _ A21.out).mono ?_); rintro e w27 ⟨rfl, hb⟩; refine ⟨_, rfl, ?_⟩; have n0_ := Aside0.mk (blk_below (g := gb121) (o := .cells #[.int .i64 a0_0, .int .i64 a0_1, .int .i64 a0_2, .int .i64 a0_3, .int .i64 a0_4, .int .i64 a0_5, .int .i64 a0_6, .int .i64 a0_7, .int .i64 a0_8, .int .i64 a0_9, .int .i64 a0_10, .int .i64 a0_11, .int .i64 a0_12, .string a0_13] 23 (0, 0)) (by (with_reducible repeat (first | refine blk_drewN ?_ _ | refine blk_drew ?_ | refine blk_alloc ?_ _)); exact BK121.out) hb); have n1_ := Aside0.mk (blk_below (g := gb122) (o := .cells #[.int .i64 a1_0, .int .i64 a1_1, .int .i64 a1_2, .int .i64 a1_3, .int .i64 a1_4, .int .i64 a1_5, .int .i64 a1_6, .int .i64 a1_7, .int .i64 a1_8, .int .i64 a1_9, .bool a1_10, .bool a1_11, .slice A1_12 l1_12.length c1_12, .int .i64 a1_13] 28 (0, 0)) (by (with_reducible repeat (first | refine blk_drewN ?_ _ | refine blk_drew ?_ | refine blk_alloc ?_ _)); exact BK122.out) hb); have n2_ := Aside0.mk (below_step (by repeat (first | (with_reducible first | exact HB.out | apply below_alloc | apply pw_below_drewN | apply below_drew1 | refine below_set ?_ GE121.out | refine below_set ?_ GE122.out) | exact HB.out)) hb); clear BK121; clear BK122; clear HB; have BK121 := n0_; have BK122 := n1_; have HB := n2_; clear n0_ n1_ n2_; (try clear hb); (try clear hb2); (try clear hk); (try clear hi); have hcz28_0 : w27.cell? ⟨gb122, 0, none⟩ = some (.int .i64 a1_0) := (blk_cell BK122.out 0).trans rfl; have hcz28_1 : w27.cell? ⟨gb122, 1, none⟩ = some (.int .i64 a1_1) := (blk_cell BK122.out 1).trans rfl; have hcz28_2 : w27.cell? ⟨gb122, 2, none⟩ = some (.int .i64 a1_2) := (blk_cell BK122.out 2).trans rfl; have hcz28_3 : w27.cell? ⟨gb122, 3, none⟩ = some (.int .i64 a1_3) := (blk_cell BK122.out 3).trans rfl; have hcz28_4 : w27.cell? ⟨gb122, 4, none⟩ = some (.int .i64 a1_4) := (blk_cell BK122.out 4).trans rfl; have hcz28_5 : w27.cell? ⟨gb122, 5, none⟩ = some (.int .i64 a1_5) := (blk_cell BK122.out 5).trans rfl; have hcz28_6 : w27.cell? ⟨gb122, 6, none⟩ = some (.int .i64 a1_6) := (blk_cell BK122.out 6).trans rfl; have hcz28_7 : w27.cell? ⟨gb122, 7, none⟩ = some (.int .i64 a1_7) := (blk_cell BK122.out 7).trans rfl; have hcz28_8 : w27.cell? ⟨gb122, 8, none⟩ = some (.int .i64 a1_8) := (blk_cell BK122.out 8).trans rfl; have hcz28_9 : w27.cell? ⟨gb122, 9, none⟩ = some (.int .i64 a1_9) := (blk_cell BK122.out 9).trans rfl; have hcz28_10 : w27.cell? ⟨gb122, 10, none⟩ = some (.bool a1_10) := (blk_cell BK122.out 10).trans rfl; have hcz28_11 : w27.cell? ⟨gb122, 11, none⟩ = some (.bool a1_11) := (blk_cell BK122.out 11).trans rfl; have hcz28_12 : w27.cell? ⟨gb122, 12, none⟩ = some (.slice A1_12 l1_12.length c1_12) := (blk_cell BK122.out 12).trans rfl; have hcz28_13 : w27.cell? ⟨gb122, 13, none⟩ = some (.int .i64 a1_13) := (blk_cell BK122.out 13).trans rfl; have hfz28_0 := blk_frozen BK122.out 0; have hfz28_1 := blk_frozen BK122.out 1; have hfz28_2 := blk_frozen BK122.out 2; have hfz28_3 := blk_frozen BK122.out 3; have hfz28_4 := blk_frozen BK122.out 4; have hfz28_5 := blk_frozen BK122.out 5; have hfz28_6 := blk_frozen BK122.out 6; have hfz28_7 := blk_frozen BK122.out 7; have hfz28_8 := blk_frozen BK122.out 8; have hfz28_9 := blk_frozen BK122.out 9; have hfz28_10 := blk_frozen BK122.out 10; have hfz28_11 := blk_frozen BK122.out 11; have hfz28_12 := blk_frozen BK122.out 12; have hfz28_13 := blk_frozen BK122.out 13))
            go_ret
            exact ⟨by first | rfl | (simp [errW_none, errW_some] <;> rfl) | (simp only [← hji18, ← hji19, ← hji22, ← hji24]; first | rfl | (simp [errW_none, errW_some] <;> rfl)) | (simp [*, errW_none, errW_some] <;> rfl) | (simp [wrap64]; done), by repeat (first | (with_reducible first | exact HB.out | apply below_alloc | apply pw_below_drewN | apply below_drew1 | refine below_set ?_ GE121.out | refine below_set ?_ GE122.out) | exact HB.out)⟩
          · rw [if_neg c23] at H
            have c23b0 : (a1_4 == 1) = false := beq_eq_false_iff_ne.mpr c23
            have c23b1 : (a1_4 != 1) = true := bne_iff_ne.mpr c23
            obtain rfl := Option.some.inj H
            have hnb29 := NB122_121.out
            have hnc29 := NB121_122.out
            have hcz30_0 : wc.cell? ⟨gb122, 0, none⟩ = some (.int .i64 a1_0) := (blk_cell BK122.out 0).trans rfl
            have hcz30_1 : wc.cell? ⟨gb122, 1, none⟩ = some (.int .i64 a1_1) := (blk_cell BK122.out 1).trans rfl
            have hcz30_2 : wc.cell? ⟨gb122, 2, none⟩ = some (.int .i64 a1_2) := (blk_cell BK122.out 2).trans rfl
            have hcz30_3 : wc.cell? ⟨gb122, 3, none⟩ = some (.int .i64 a1_3) := (blk_cell BK122.out 3).trans rfl
            have hcz30_4 : wc.cell? ⟨gb122, 4, none⟩ = some (.int .i64 a1_4) := (blk_cell BK122.out 4).trans rfl
            have hcz30_5 : wc.cell? ⟨gb122, 5, none⟩ = some (.int .i64 a1_5) := (blk_cell BK122.out 5).trans rfl
            have hcz30_6 : wc.cell? ⟨gb122, 6, none⟩ = some (.int .i64 a1_6) := (blk_cell BK122.out 6).trans rfl
            have hcz30_7 : wc.cell? ⟨gb122, 7, none⟩ = some (.int .i64 a1_7) := (blk_cell BK122.out 7).trans rfl
            have hcz30_8 : wc.cell? ⟨gb122, 8, none⟩ = some (.int .i64 a1_8) := (blk_cell BK122.out 8).trans rfl
            have hcz30_9 : wc.cell? ⟨gb122, 9, none⟩ = some (.int .i64 a1_9) := (blk_cell BK122.out 9).trans rfl
            have hcz30_10 : wc.cell? ⟨gb122, 10, none⟩ = some (.bool a1_10) := (blk_cell BK122.out 10).trans rfl
            have hcz30_11 : wc.cell? ⟨gb122, 11, none⟩ = some (.bool a1_11) := (blk_cell BK122.out 11).trans rfl
            have hcz30_12 : wc.cell? ⟨gb122, 12, none⟩ = some (.slice A1_12 l1_12.length c1_12) := (blk_cell BK122.out 12).trans rfl
            have hcz30_13 : wc.cell? ⟨gb122, 13, none⟩ = some (.int .i64 a1_13) := (blk_cell BK122.out 13).trans rfl
            have hfz30_0 := blk_frozen BK122.out 0
            have hfz30_1 := blk_frozen BK122.out 1
            have hfz30_2 := blk_frozen BK122.out 2
            have hfz30_3 := blk_frozen BK122.out 3
            have hfz30_4 := blk_frozen BK122.out 4
            have hfz30_5 := blk_frozen BK122.out 5
            have hfz30_6 := blk_frozen BK122.out 6
            have hfz30_7 := blk_frozen BK122.out 7
            have hfz30_8 := blk_frozen BK122.out 8
            have hfz30_9 := blk_frozen BK122.out 9
            have hfz30_10 := blk_frozen BK122.out 10
            have hfz30_11 := blk_frozen BK122.out 11
            have hfz30_12 := blk_frozen BK122.out 12
            have hfz30_13 := blk_frozen BK122.out 13
            go_wp2_with (first | ((with_reducible refine gate_callee (f := 25) rfl ?_); refine goesL_ (some 34) rfl rfl Try.func25 (by kernel_rfl) rfl #[.int .i64 a1_0, .int .i64 a1_1] rfl (by (try simp only [List.map_toArray, List.map_cons, List.map_nil]); first | done | rfl | (simp only [List.length_drop, List.length_take]; rfl)) ?_; (with_reducible refine (tick_Add.calls a1_0 a1_1 t123 _ A21.out).mono ?_); rintro e w31 ⟨rfl, hb⟩; refine ⟨_, rfl, ?_⟩; have n0_ := Aside0.mk (blk_below (g := gb121) (o := .cells #[.int .i64 a0_0, .int .i64 a0_1, .int .i64 a0_2, .int .i64 a0_3, .int .i64 a0_4, .int .i64 a0_5, .int .i64 a0_6, .int .i64 a0_7, .int .i64 a0_8, .int .i64 a0_9, .int .i64 a0_10, .int .i64 a0_11, .int .i64 a0_12, .string a0_13] 23 (0, 0)) (by (with_reducible repeat (first | refine blk_drewN ?_ _ | refine blk_drew ?_ | refine blk_alloc ?_ _)); exact BK121.out) hb); have n1_ := Aside0.mk (blk_below (g := gb122) (o := .cells #[.int .i64 a1_0, .int .i64 a1_1, .int .i64 a1_2, .int .i64 a1_3, .int .i64 a1_4, .int .i64 a1_5, .int .i64 a1_6, .int .i64 a1_7, .int .i64 a1_8, .int .i64 a1_9, .bool a1_10, .bool a1_11, .slice A1_12 l1_12.length c1_12, .int .i64 a1_13] 28 (0, 0)) (by (with_reducible repeat (first | refine blk_drewN ?_ _ | refine blk_drew ?_ | refine blk_alloc ?_ _)); exact BK122.out) hb); have n2_ := Aside0.mk (below_step (by repeat (first | (with_reducible first | exact HB.out | apply below_alloc | apply pw_below_drewN | apply below_drew1 | refine below_set ?_ GE121.out | refine below_set ?_ GE122.out) | exact HB.out)) hb); clear BK121; clear BK122; clear HB; have BK121 := n0_; have BK122 := n1_; have HB := n2_; clear n0_ n1_ n2_; (try clear hb); (try clear hb2); (try clear hk); (try clear hi); have hcz32_0 : w31.cell? ⟨gb122, 0, none⟩ = some (.int .i64 a1_0) := (blk_cell BK122.out 0).trans rfl; have hcz32_1 : w31.cell? ⟨gb122, 1, none⟩ = some (.int .i64 a1_1) := (blk_cell BK122.out 1).trans rfl; have hcz32_2 : w31.cell? ⟨gb122, 2, none⟩ = some (.int .i64 a1_2) := (blk_cell BK122.out 2).trans rfl; have hcz32_3 : w31.cell? ⟨gb122, 3, none⟩ = some (.int .i64 a1_3) := (blk_cell BK122.out 3).trans rfl; have hcz32_4 : w31.cell? ⟨gb122, 4, none⟩ = some (.int .i64 a1_4) := (blk_cell BK122.out 4).trans rfl; have hcz32_5 : w31.cell? ⟨gb122, 5, none⟩ = some (.int .i64 a1_5) := (blk_cell BK122.out 5).trans rfl; have hcz32_6 : w31.cell? ⟨gb122, 6, none⟩ = some (.int .i64 a1_6) := (blk_cell BK122.out 6).trans rfl; have hcz32_7 : w31.cell? ⟨gb122, 7, none⟩ = some (.int .i64 a1_7) := (blk_cell BK122.out 7).trans rfl; have hcz32_8 : w31.cell? ⟨gb122, 8, none⟩ = some (.int .i64 a1_8) := (blk_cell BK122.out 8).trans rfl; have hcz32_9 : w31.cell? ⟨gb122, 9, none⟩ = some (.int .i64 a1_9) := (blk_cell BK122.out 9).trans rfl; have hcz32_10 : w31.cell? ⟨gb122, 10, none⟩ = some (.bool a1_10) := (blk_cell BK122.out 10).trans rfl; have hcz32_11 : w31.cell? ⟨gb122, 11, none⟩ = some (.bool a1_11) := (blk_cell BK122.out 11).trans rfl; have hcz32_12 : w31.cell? ⟨gb122, 12, none⟩ = some (.slice A1_12 l1_12.length c1_12) := (blk_cell BK122.out 12).trans rfl; have hcz32_13 : w31.cell? ⟨gb122, 13, none⟩ = some (.int .i64 a1_13) := (blk_cell BK122.out 13).trans rfl; have hfz32_0 := blk_frozen BK122.out 0; have hfz32_1 := blk_frozen BK122.out 1; have hfz32_2 := blk_frozen BK122.out 2; have hfz32_3 := blk_frozen BK122.out 3; have hfz32_4 := blk_frozen BK122.out 4; have hfz32_5 := blk_frozen BK122.out 5; have hfz32_6 := blk_frozen BK122.out 6; have hfz32_7 := blk_frozen BK122.out 7; have hfz32_8 := blk_frozen BK122.out 8; have hfz32_9 := blk_frozen BK122.out 9; have hfz32_10 := blk_frozen BK122.out 10; have hfz32_11 := blk_frozen BK122.out 11; have hfz32_12 := blk_frozen BK122.out 12; have hfz32_13 := blk_frozen BK122.out 13))
            go_ret
            exact ⟨by first | rfl | (simp [errW_none, errW_some] <;> rfl) | (simp only [← hji18, ← hji19, ← hji22]; first | rfl | (simp [errW_none, errW_some] <;> rfl)) | (simp [*, errW_none, errW_some] <;> rfl) | (simp [wrap64]; done), by repeat (first | (with_reducible first | exact HB.out | apply below_alloc | apply pw_below_drewN | apply below_drew1 | refine below_set ?_ GE121.out | refine below_set ?_ GE122.out) | exact HB.out)⟩
        · rw [if_neg c20] at H
          have c20b0 : decide (0 ≤ a1_0) = false := decide_eq_false c20
          clear c20
          by_cases c33 : a1_4 = 1
          · rw [if_pos c33] at H
            have c33b0 : (a1_4 == 1) = true := beq_iff_eq.mpr c33
            have c33b1 : (a1_4 != 1) = false := bne_eq_false_iff_eq.mpr c33
            clear c33
            obtain ⟨ji34, hji34⟩ : ∃ j_ : Int, (mx (ji19) a1_5) = j_ := ⟨_, rfl⟩
            replace H : (some ji34) = some r := by first | (rw [hji34] at H; exact H) | (simp only [hji34] at H ⊢; exact H)
            have hji34_ : (if (ji19) < a1_5 then a1_5 else (ji19)) = ji34 := hji34
            obtain rfl := Option.some.inj H
            have hnb35 := NB122_121.out
            have hnc35 := NB121_122.out
            have hcz36_0 : wc.cell? ⟨gb122, 0, none⟩ = some (.int .i64 a1_0) := (blk_cell BK122.out 0).trans rfl
            have hcz36_1 : wc.cell? ⟨gb122, 1, none⟩ = some (.int .i64 a1_1) := (blk_cell BK122.out 1).trans rfl
            have hcz36_2 : wc.cell? ⟨gb122, 2, none⟩ = some (.int .i64 a1_2) := (blk_cell BK122.out 2).trans rfl
            have hcz36_3 : wc.cell? ⟨gb122, 3, none⟩ = some (.int .i64 a1_3) := (blk_cell BK122.out 3).trans rfl
            have hcz36_4 : wc.cell? ⟨gb122, 4, none⟩ = some (.int .i64 a1_4) := (blk_cell BK122.out 4).trans rfl
            have hcz36_5 : wc.cell? ⟨gb122, 5, none⟩ = some (.int .i64 a1_5) := (blk_cell BK122.out 5).trans rfl
            have hcz36_6 : wc.cell? ⟨gb122, 6, none⟩ = some (.int .i64 a1_6) := (blk_cell BK122.out 6).trans rfl
            have hcz36_7 : wc.cell? ⟨gb122, 7, none⟩ = some (.int .i64 a1_7) := (blk_cell BK122.out 7).trans rfl
            have hcz36_8 : wc.cell? ⟨gb122, 8, none⟩ = some (.int .i64 a1_8) := (blk_cell BK122.out 8).trans rfl
            have hcz36_9 : wc.cell? ⟨gb122, 9, none⟩ = some (.int .i64 a1_9) := (blk_cell BK122.out 9).trans rfl
            have hcz36_10 : wc.cell? ⟨gb122, 10, none⟩ = some (.bool a1_10) := (blk_cell BK122.out 10).trans rfl
            have hcz36_11 : wc.cell? ⟨gb122, 11, none⟩ = some (.bool a1_11) := (blk_cell BK122.out 11).trans rfl
            have hcz36_12 : wc.cell? ⟨gb122, 12, none⟩ = some (.slice A1_12 l1_12.length c1_12) := (blk_cell BK122.out 12).trans rfl
            have hcz36_13 : wc.cell? ⟨gb122, 13, none⟩ = some (.int .i64 a1_13) := (blk_cell BK122.out 13).trans rfl
            have hfz36_0 := blk_frozen BK122.out 0
            have hfz36_1 := blk_frozen BK122.out 1
            have hfz36_2 := blk_frozen BK122.out 2
            have hfz36_3 := blk_frozen BK122.out 3
            have hfz36_4 := blk_frozen BK122.out 4
            have hfz36_5 := blk_frozen BK122.out 5
            have hfz36_6 := blk_frozen BK122.out 6
            have hfz36_7 := blk_frozen BK122.out 7
            have hfz36_8 := blk_frozen BK122.out 8
            have hfz36_9 := blk_frozen BK122.out 9
            have hfz36_10 := blk_frozen BK122.out 10
            have hfz36_11 := blk_frozen BK122.out 11
            have hfz36_12 := blk_frozen BK122.out 12
            have hfz36_13 := blk_frozen BK122.out 13
            go_wp2
            go_ret
            exact ⟨by first | rfl | (simp [errW_none, errW_some] <;> rfl) | (simp only [← hji18, ← hji19, ← hji34]; first | rfl | (simp [errW_none, errW_some] <;> rfl)) | (simp [*, errW_none, errW_some] <;> rfl) | (simp [wrap64]; done), by repeat (first | (with_reducible first | exact HB.out | apply below_alloc | apply pw_below_drewN | apply below_drew1 | refine below_set ?_ GE121.out | refine below_set ?_ GE122.out) | exact HB.out)⟩
          · rw [if_neg c33] at H
            have c33b0 : (a1_4 == 1) = false := beq_eq_false_iff_ne.mpr c33
            have c33b1 : (a1_4 != 1) = true := bne_iff_ne.mpr c33
            obtain rfl := Option.some.inj H
            have hnb37 := NB122_121.out
            have hnc37 := NB121_122.out
            have hcz38_0 : wc.cell? ⟨gb122, 0, none⟩ = some (.int .i64 a1_0) := (blk_cell BK122.out 0).trans rfl
            have hcz38_1 : wc.cell? ⟨gb122, 1, none⟩ = some (.int .i64 a1_1) := (blk_cell BK122.out 1).trans rfl
            have hcz38_2 : wc.cell? ⟨gb122, 2, none⟩ = some (.int .i64 a1_2) := (blk_cell BK122.out 2).trans rfl
            have hcz38_3 : wc.cell? ⟨gb122, 3, none⟩ = some (.int .i64 a1_3) := (blk_cell BK122.out 3).trans rfl
            have hcz38_4 : wc.cell? ⟨gb122, 4, none⟩ = some (.int .i64 a1_4) := (blk_cell BK122.out 4).trans rfl
            have hcz38_5 : wc.cell? ⟨gb122, 5, none⟩ = some (.int .i64 a1_5) := (blk_cell BK122.out 5).trans rfl
            have hcz38_6 : wc.cell? ⟨gb122, 6, none⟩ = some (.int .i64 a1_6) := (blk_cell BK122.out 6).trans rfl
            have hcz38_7 : wc.cell? ⟨gb122, 7, none⟩ = some (.int .i64 a1_7) := (blk_cell BK122.out 7).trans rfl
            have hcz38_8 : wc.cell? ⟨gb122, 8, none⟩ = some (.int .i64 a1_8) := (blk_cell BK122.out 8).trans rfl
            have hcz38_9 : wc.cell? ⟨gb122, 9, none⟩ = some (.int .i64 a1_9) := (blk_cell BK122.out 9).trans rfl
            have hcz38_10 : wc.cell? ⟨gb122, 10, none⟩ = some (.bool a1_10) := (blk_cell BK122.out 10).trans rfl
            have hcz38_11 : wc.cell? ⟨gb122, 11, none⟩ = some (.bool a1_11) := (blk_cell BK122.out 11).trans rfl
            have hcz38_12 : wc.cell? ⟨gb122, 12, none⟩ = some (.slice A1_12 l1_12.length c1_12) := (blk_cell BK122.out 12).trans rfl
            have hcz38_13 : wc.cell? ⟨gb122, 13, none⟩ = some (.int .i64 a1_13) := (blk_cell BK122.out 13).trans rfl
            have hfz38_0 := blk_frozen BK122.out 0
            have hfz38_1 := blk_frozen BK122.out 1
            have hfz38_2 := blk_frozen BK122.out 2
            have hfz38_3 := blk_frozen BK122.out 3
            have hfz38_4 := blk_frozen BK122.out 4
            have hfz38_5 := blk_frozen BK122.out 5
            have hfz38_6 := blk_frozen BK122.out 6
            have hfz38_7 := blk_frozen BK122.out 7
            have hfz38_8 := blk_frozen BK122.out 8
            have hfz38_9 := blk_frozen BK122.out 9
            have hfz38_10 := blk_frozen BK122.out 10
            have hfz38_11 := blk_frozen BK122.out 11
            have hfz38_12 := blk_frozen BK122.out 12
            have hfz38_13 := blk_frozen BK122.out 13
            go_wp2
            go_ret
            exact ⟨by first | rfl | (simp [errW_none, errW_some] <;> rfl) | (simp only [← hji18, ← hji19]; first | rfl | (simp [errW_none, errW_some] <;> rfl)) | (simp [*, errW_none, errW_some] <;> rfl) | (simp [wrap64]; done), by repeat (first | (with_reducible first | exact HB.out | apply below_alloc | apply pw_below_drewN | apply below_drew1 | refine below_set ?_ GE121.out | refine below_set ?_ GE122.out) | exact HB.out)⟩

/-! ### decorumlaw20_light: function 12 -/
def decorumlaw20_light.f (a0_0 : Int) (a0_1 : Int) (a0_2 : Int) (a0_3 : Int) (a0_4 : Int) (a0_5 : Int) (a0_6 : Int) (a0_7 : Int) (a0_8 : Int) (a0_9 : Int) (a0_10 : Bool) (a0_11 : Bool) (l0_12 : List (S55)) (a0_13 : Int) : Option (Bool) := some (decide ((l0_12.length : Int) ≤ 100))
set_option maxHeartbeats 8000000 in
set_option maxRecDepth 100000 in
theorem decorumlaw20_light.calls (a0_0 : Int) (a0_1 : Int) (a0_2 : Int) (a0_3 : Int) (a0_4 : Int) (a0_5 : Int) (a0_6 : Int) (a0_7 : Int) (a0_8 : Int) (a0_9 : Int) (a0_10 : Bool) (a0_11 : Bool) (A0_12 : Option Addr) (c0_12 : Nat) (l0_12 : List (S55)) (a0_13 : Int) (r : Bool) (w : World) (hr0_12 : Kd.C k55 w A0_12 l0_12.length l0_12) (hc0_12 : l0_12.length ≤ c0_12) (h : decorumlaw20_light.f a0_0 a0_1 a0_2 a0_3 a0_4 a0_5 a0_6 a0_7 a0_8 a0_9 a0_10 a0_11 l0_12 a0_13 = some r) :
    Calls Try.prog 12 #[.agg #[.int .i64 a0_0, .int .i64 a0_1, .int .i64 a0_2, .int .i64 a0_3, .int .i64 a0_4, .int .i64 a0_5, .int .i64 a0_6, .int .i64 a0_7, .int .i64 a0_8, .int .i64 a0_9, .bool a0_10, .bool a0_11, .slice A0_12 l0_12.length c0_12, .int .i64 a0_13]] w fun e w' => e = .returned (.bool r) ∧ Below w.heap.size w w' := by
  have hu28 := Try.underlying28
  have HR0_12 := Aside0.mk hr0_12
  have HC0_12 := Aside0.mk hc0_12
  clear hr0_12 hc0_12
  have HB := Aside0.mk (Below.refl w.heap.size w)
  have H : (some (decide ((l0_12.length : Int) ≤ 100))) = some r := h
  clear h
  obtain rfl := Option.some.inj H
  go_enter Try.func12, Try.ntmps12
  go_wp2_with (first | ((with_reducible refine gate_dst (N := 1) rfl ?_); refine box_event ?hg (N := 1) ?hd (cs := #[.int .i64 a0_0, .int .i64 a0_1, .int .i64 a0_2, .int .i64 a0_3, .int .i64 a0_4, .int .i64 a0_5, .int .i64 a0_6, .int .i64 a0_7, .int .i64 a0_8, .int .i64 a0_9, .bool a0_10, .bool a0_11, .slice A0_12 l0_12.length c0_12, .int .i64 a0_13]) (t := 28) ?hr ?_; (case hd => rfl); (case hg => rfl); (case hr => first | (go_simp; done) | (go_simp; rfl)); intro gb124 hg w2 hbox hb; have n0_ := Aside0.mk (below_step (by repeat (first | (with_reducible first | exact HB.out | apply below_alloc | apply pw_below_drewN | apply below_drew1) | exact HB.out)) hb); have n1_ := Aside0.mk (hbox); have n2_ := Aside0.mk ((by rw [hg]; exact (below_size (by repeat (first | (with_reducible first | exact HB.out | apply below_alloc | apply pw_below_drewN | apply below_drew1) | exact HB.out))) : w.heap.size ≤ gb124)); have n3_ := Aside0.mk ((by rw [hg]; exact (below_size (by repeat (first | (with_reducible first | exact HB.out | apply below_alloc | apply pw_below_drewN | apply below_drew1) | exact HB.out))) : w.heap.size ≤ gb124)); clear HB; have HB := n0_; have BK124 := n1_; have GW124 := n2_; have GE124 := n3_; clear n0_ n1_ n2_ n3_; clear hb hbox hg; have hcz3_0 : w2.cell? ⟨gb124, 0, none⟩ = some (.int .i64 a0_0) := (blk_cell BK124.out 0).trans rfl; have hcz3_1 : w2.cell? ⟨gb124, 1, none⟩ = some (.int .i64 a0_1) := (blk_cell BK124.out 1).trans rfl; have hcz3_2 : w2.cell? ⟨gb124, 2, none⟩ = some (.int .i64 a0_2) := (blk_cell BK124.out 2).trans rfl; have hcz3_3 : w2.cell? ⟨gb124, 3, none⟩ = some (.int .i64 a0_3) := (blk_cell BK124.out 3).trans rfl; have hcz3_4 : w2.cell? ⟨gb124, 4, none⟩ = some (.int .i64 a0_4) := (blk_cell BK124.out 4).trans rfl; have hcz3_5 : w2.cell? ⟨gb124, 5, none⟩ = some (.int .i64 a0_5) := (blk_cell BK124.out 5).trans rfl; have hcz3_6 : w2.cell? ⟨gb124, 6, none⟩ = some (.int .i64 a0_6) := (blk_cell BK124.out 6).trans rfl; have hcz3_7 : w2.cell? ⟨gb124, 7, none⟩ = some (.int .i64 a0_7) := (blk_cell BK124.out 7).trans rfl; have hcz3_8 : w2.cell? ⟨gb124, 8, none⟩ = some (.int .i64 a0_8) := (blk_cell BK124.out 8).trans rfl; have hcz3_9 : w2.cell? ⟨gb124, 9, none⟩ = some (.int .i64 a0_9) := (blk_cell BK124.out 9).trans rfl; have hcz3_10 : w2.cell? ⟨gb124, 10, none⟩ = some (.bool a0_10) := (blk_cell BK124.out 10).trans rfl; have hcz3_11 : w2.cell? ⟨gb124, 11, none⟩ = some (.bool a0_11) := (blk_cell BK124.out 11).trans rfl; have hcz3_12 : w2.cell? ⟨gb124, 12, none⟩ = some (.slice A0_12 l0_12.length c0_12) := (blk_cell BK124.out 12).trans rfl; have hcz3_13 : w2.cell? ⟨gb124, 13, none⟩ = some (.int .i64 a0_13) := (blk_cell BK124.out 13).trans rfl; have hfz3_0 := blk_frozen BK124.out 0; have hfz3_1 := blk_frozen BK124.out 1; have hfz3_2 := blk_frozen BK124.out 2; have hfz3_3 := blk_frozen BK124.out 3; have hfz3_4 := blk_frozen BK124.out 4; have hfz3_5 := blk_frozen BK124.out 5; have hfz3_6 := blk_frozen BK124.out 6; have hfz3_7 := blk_frozen BK124.out 7; have hfz3_8 := blk_frozen BK124.out 8; have hfz3_9 := blk_frozen BK124.out 9; have hfz3_10 := blk_frozen BK124.out 10; have hfz3_11 := blk_frozen BK124.out 11; have hfz3_12 := blk_frozen BK124.out 12; have hfz3_13 := blk_frozen BK124.out 13))
  go_ret
  exact ⟨by first | rfl | (simp [errW_none, errW_some] <;> rfl) | (simp [*, errW_none, errW_some] <;> rfl) | (simp [wrap64]; done), by repeat (first | (with_reducible first | exact HB.out | apply below_alloc | apply pw_below_drewN | apply below_drew1 | refine below_set ?_ GE124.out) | exact HB.out)⟩

/-! ### decorumlaw20_tame: function 13 -/
def decorumlaw20_tame.f (a0_0 : Int) (a0_1 : Int) (a0_2 : Int) (a0_3 : Int) (a0_4 : Int) (a0_5 : Int) (a0_6 : Int) (a0_7 : Int) (a0_8 : Int) (a0_9 : Int) (a0_10 : Bool) (a0_11 : Bool) (l0_12 : List (S55)) (a0_13 : Int) : Option (Bool) := if a0_8 < 4611686018427387904 then (some (decide (a0_8 > (-4611686018427387904)))) else (some false)
set_option maxHeartbeats 8000000 in
set_option maxRecDepth 100000 in
theorem decorumlaw20_tame.calls (a0_0 : Int) (a0_1 : Int) (a0_2 : Int) (a0_3 : Int) (a0_4 : Int) (a0_5 : Int) (a0_6 : Int) (a0_7 : Int) (a0_8 : Int) (a0_9 : Int) (a0_10 : Bool) (a0_11 : Bool) (A0_12 : Option Addr) (c0_12 : Nat) (l0_12 : List (S55)) (a0_13 : Int) (r : Bool) (w : World) (hr0_12 : Kd.C k55 w A0_12 l0_12.length l0_12) (hc0_12 : l0_12.length ≤ c0_12) (h : decorumlaw20_tame.f a0_0 a0_1 a0_2 a0_3 a0_4 a0_5 a0_6 a0_7 a0_8 a0_9 a0_10 a0_11 l0_12 a0_13 = some r) :
    Calls Try.prog 13 #[.agg #[.int .i64 a0_0, .int .i64 a0_1, .int .i64 a0_2, .int .i64 a0_3, .int .i64 a0_4, .int .i64 a0_5, .int .i64 a0_6, .int .i64 a0_7, .int .i64 a0_8, .int .i64 a0_9, .bool a0_10, .bool a0_11, .slice A0_12 l0_12.length c0_12, .int .i64 a0_13]] w fun e w' => e = .returned (.bool r) ∧ Below w.heap.size w w' := by
  have hu28 := Try.underlying28
  have HR0_12 := Aside0.mk hr0_12
  have HC0_12 := Aside0.mk hc0_12
  clear hr0_12 hc0_12
  have HB := Aside0.mk (Below.refl w.heap.size w)
  have H : (if a0_8 < 4611686018427387904 then (some (decide (a0_8 > (-4611686018427387904)))) else (some false)) = some r := h
  clear h
  by_cases c2 : a0_8 < 4611686018427387904
  · rw [if_pos c2] at H
    have c2b0 : decide (a0_8 < 4611686018427387904) = true := decide_eq_true c2
    clear c2
    obtain rfl := Option.some.inj H
    go_enter Try.func13, Try.ntmps13
    go_wp2_with (first | ((with_reducible refine gate_dst (N := 1) rfl ?_); refine box_event ?hg (N := 1) ?hd (cs := #[.int .i64 a0_0, .int .i64 a0_1, .int .i64 a0_2, .int .i64 a0_3, .int .i64 a0_4, .int .i64 a0_5, .int .i64 a0_6, .int .i64 a0_7, .int .i64 a0_8, .int .i64 a0_9, .bool a0_10, .bool a0_11, .slice A0_12 l0_12.length c0_12, .int .i64 a0_13]) (t := 28) ?hr ?_; (case hd => rfl); (case hg => rfl); (case hr => first | (go_simp; done) | (go_simp; rfl)); intro gb125 hg w3 hbox hb; have n0_ := Aside0.mk (below_step (by repeat (first | (with_reducible first | exact HB.out | apply below_alloc | apply pw_below_drewN | apply below_drew1) | exact HB.out)) hb); have n1_ := Aside0.mk (hbox); have n2_ := Aside0.mk ((by rw [hg]; exact (below_size (by repeat (first | (with_reducible first | exact HB.out | apply below_alloc | apply pw_below_drewN | apply below_drew1) | exact HB.out))) : w.heap.size ≤ gb125)); have n3_ := Aside0.mk ((by rw [hg]; exact (below_size (by repeat (first | (with_reducible first | exact HB.out | apply below_alloc | apply pw_below_drewN | apply below_drew1) | exact HB.out))) : w.heap.size ≤ gb125)); clear HB; have HB := n0_; have BK125 := n1_; have GW125 := n2_; have GE125 := n3_; clear n0_ n1_ n2_ n3_; clear hb hbox hg; have hcz4_0 : w3.cell? ⟨gb125, 0, none⟩ = some (.int .i64 a0_0) := (blk_cell BK125.out 0).trans rfl; have hcz4_1 : w3.cell? ⟨gb125, 1, none⟩ = some (.int .i64 a0_1) := (blk_cell BK125.out 1).trans rfl; have hcz4_2 : w3.cell? ⟨gb125, 2, none⟩ = some (.int .i64 a0_2) := (blk_cell BK125.out 2).trans rfl; have hcz4_3 : w3.cell? ⟨gb125, 3, none⟩ = some (.int .i64 a0_3) := (blk_cell BK125.out 3).trans rfl; have hcz4_4 : w3.cell? ⟨gb125, 4, none⟩ = some (.int .i64 a0_4) := (blk_cell BK125.out 4).trans rfl; have hcz4_5 : w3.cell? ⟨gb125, 5, none⟩ = some (.int .i64 a0_5) := (blk_cell BK125.out 5).trans rfl; have hcz4_6 : w3.cell? ⟨gb125, 6, none⟩ = some (.int .i64 a0_6) := (blk_cell BK125.out 6).trans rfl; have hcz4_7 : w3.cell? ⟨gb125, 7, none⟩ = some (.int .i64 a0_7) := (blk_cell BK125.out 7).trans rfl; have hcz4_8 : w3.cell? ⟨gb125, 8, none⟩ = some (.int .i64 a0_8) := (blk_cell BK125.out 8).trans rfl; have hcz4_9 : w3.cell? ⟨gb125, 9, none⟩ = some (.int .i64 a0_9) := (blk_cell BK125.out 9).trans rfl; have hcz4_10 : w3.cell? ⟨gb125, 10, none⟩ = some (.bool a0_10) := (blk_cell BK125.out 10).trans rfl; have hcz4_11 : w3.cell? ⟨gb125, 11, none⟩ = some (.bool a0_11) := (blk_cell BK125.out 11).trans rfl; have hcz4_12 : w3.cell? ⟨gb125, 12, none⟩ = some (.slice A0_12 l0_12.length c0_12) := (blk_cell BK125.out 12).trans rfl; have hcz4_13 : w3.cell? ⟨gb125, 13, none⟩ = some (.int .i64 a0_13) := (blk_cell BK125.out 13).trans rfl; have hfz4_0 := blk_frozen BK125.out 0; have hfz4_1 := blk_frozen BK125.out 1; have hfz4_2 := blk_frozen BK125.out 2; have hfz4_3 := blk_frozen BK125.out 3; have hfz4_4 := blk_frozen BK125.out 4; have hfz4_5 := blk_frozen BK125.out 5; have hfz4_6 := blk_frozen BK125.out 6; have hfz4_7 := blk_frozen BK125.out 7; have hfz4_8 := blk_frozen BK125.out 8; have hfz4_9 := blk_frozen BK125.out 9; have hfz4_10 := blk_frozen BK125.out 10; have hfz4_11 := blk_frozen BK125.out 11; have hfz4_12 := blk_frozen BK125.out 12; have hfz4_13 := blk_frozen BK125.out 13))
    go_ret
    exact ⟨by first | rfl | (simp [errW_none, errW_some] <;> rfl) | (simp [*, errW_none, errW_some] <;> rfl) | (simp [wrap64]; done), by repeat (first | (with_reducible first | exact HB.out | apply below_alloc | apply pw_below_drewN | apply below_drew1 | refine below_set ?_ GE125.out) | exact HB.out)⟩
  · rw [if_neg c2] at H
    have c2b0 : decide (a0_8 < 4611686018427387904) = false := decide_eq_false c2
    clear c2
    obtain rfl := Option.some.inj H
    go_enter Try.func13, Try.ntmps13
    go_wp2_with (first | ((with_reducible refine gate_dst (N := 1) rfl ?_); refine box_event ?hg (N := 1) ?hd (cs := #[.int .i64 a0_0, .int .i64 a0_1, .int .i64 a0_2, .int .i64 a0_3, .int .i64 a0_4, .int .i64 a0_5, .int .i64 a0_6, .int .i64 a0_7, .int .i64 a0_8, .int .i64 a0_9, .bool a0_10, .bool a0_11, .slice A0_12 l0_12.length c0_12, .int .i64 a0_13]) (t := 28) ?hr ?_; (case hd => rfl); (case hg => rfl); (case hr => first | (go_simp; done) | (go_simp; rfl)); intro gb125 hg w5 hbox hb; have n0_ := Aside0.mk (below_step (by repeat (first | (with_reducible first | exact HB.out | apply below_alloc | apply pw_below_drewN | apply below_drew1) | exact HB.out)) hb); have n1_ := Aside0.mk (hbox); have n2_ := Aside0.mk ((by rw [hg]; exact (below_size (by repeat (first | (with_reducible first | exact HB.out | apply below_alloc | apply pw_below_drewN | apply below_drew1) | exact HB.out))) : w.heap.size ≤ gb125)); have n3_ := Aside0.mk ((by rw [hg]; exact (below_size (by repeat (first | (with_reducible first | exact HB.out | apply below_alloc | apply pw_below_drewN | apply below_drew1) | exact HB.out))) : w.heap.size ≤ gb125)); clear HB; have HB := n0_; have BK125 := n1_; have GW125 := n2_; have GE125 := n3_; clear n0_ n1_ n2_ n3_; clear hb hbox hg; have hcz6_0 : w5.cell? ⟨gb125, 0, none⟩ = some (.int .i64 a0_0) := (blk_cell BK125.out 0).trans rfl; have hcz6_1 : w5.cell? ⟨gb125, 1, none⟩ = some (.int .i64 a0_1) := (blk_cell BK125.out 1).trans rfl; have hcz6_2 : w5.cell? ⟨gb125, 2, none⟩ = some (.int .i64 a0_2) := (blk_cell BK125.out 2).trans rfl; have hcz6_3 : w5.cell? ⟨gb125, 3, none⟩ = some (.int .i64 a0_3) := (blk_cell BK125.out 3).trans rfl; have hcz6_4 : w5.cell? ⟨gb125, 4, none⟩ = some (.int .i64 a0_4) := (blk_cell BK125.out 4).trans rfl; have hcz6_5 : w5.cell? ⟨gb125, 5, none⟩ = some (.int .i64 a0_5) := (blk_cell BK125.out 5).trans rfl; have hcz6_6 : w5.cell? ⟨gb125, 6, none⟩ = some (.int .i64 a0_6) := (blk_cell BK125.out 6).trans rfl; have hcz6_7 : w5.cell? ⟨gb125, 7, none⟩ = some (.int .i64 a0_7) := (blk_cell BK125.out 7).trans rfl; have hcz6_8 : w5.cell? ⟨gb125, 8, none⟩ = some (.int .i64 a0_8) := (blk_cell BK125.out 8).trans rfl; have hcz6_9 : w5.cell? ⟨gb125, 9, none⟩ = some (.int .i64 a0_9) := (blk_cell BK125.out 9).trans rfl; have hcz6_10 : w5.cell? ⟨gb125, 10, none⟩ = some (.bool a0_10) := (blk_cell BK125.out 10).trans rfl; have hcz6_11 : w5.cell? ⟨gb125, 11, none⟩ = some (.bool a0_11) := (blk_cell BK125.out 11).trans rfl; have hcz6_12 : w5.cell? ⟨gb125, 12, none⟩ = some (.slice A0_12 l0_12.length c0_12) := (blk_cell BK125.out 12).trans rfl; have hcz6_13 : w5.cell? ⟨gb125, 13, none⟩ = some (.int .i64 a0_13) := (blk_cell BK125.out 13).trans rfl; have hfz6_0 := blk_frozen BK125.out 0; have hfz6_1 := blk_frozen BK125.out 1; have hfz6_2 := blk_frozen BK125.out 2; have hfz6_3 := blk_frozen BK125.out 3; have hfz6_4 := blk_frozen BK125.out 4; have hfz6_5 := blk_frozen BK125.out 5; have hfz6_6 := blk_frozen BK125.out 6; have hfz6_7 := blk_frozen BK125.out 7; have hfz6_8 := blk_frozen BK125.out 8; have hfz6_9 := blk_frozen BK125.out 9; have hfz6_10 := blk_frozen BK125.out 10; have hfz6_11 := blk_frozen BK125.out 11; have hfz6_12 := blk_frozen BK125.out 12; have hfz6_13 := blk_frozen BK125.out 13))
    go_ret
    exact ⟨by first | rfl | (simp [errW_none, errW_some] <;> rfl) | (simp [*, errW_none, errW_some] <;> rfl) | (simp [wrap64]; done), by repeat (first | (with_reducible first | exact HB.out | apply below_alloc | apply pw_below_drewN | apply below_drew1 | refine below_set ?_ GE125.out) | exact HB.out)⟩

end Go.Proofs.Ytdmebkdikminjaa.QMid
