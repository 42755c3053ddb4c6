-- A text that a changed copy of the print program wrote for this claim (NOTES.md, changed print); it is not a printed text.
import Derived.Test.YtdmebkdikminjaaQMidx0
namespace Go.Proofs.Ytdmebkdikminjaa.QMid
open Go.Proofs.Ytdmebkdikminjaa.QBase
open Go.RowKit Go.Proofs.YtdmebkdikminjaaW.PrintWords Go.Proofs.YtdmebkdikminjaaW.PrintLast Go.Proofs.YtdmebkdikminjaaW.PrintMore
attribute [local go_sem] max2_int min2_int max_two min_two max_three min_three max_four min_four   -- for this text's walks alone
set_option linter.unusedVariables false
set_option linter.unusedSimpArgs false

/-! ### decorumref18_Eligible: function 11 -/
mutual
def decorumref18_Eligible.j0 : Nat → Bool → Int → Int → Int → Int → Int → Int → Int → Int → Int → Int → Bool → Bool → List (S55) → Int → Option (Int)
  | 0, _, _, _, _, _, _, _, _, _, _, _, _, _, _, _ => none
  | k + 1, x22, x109000, x109001, x109002, x109003, x109004, x109005, x109006, x109007, x109008, x109009, x109010, x109011, x109012, x109013 => if x22 = true then (some 4611686018427387903) else ((some (([x109006, x109007] : List Int) : List Int)).bind fun y109 => (if x109000 ≥ 0 then ((decorumref01_Add.f k x109000 x109001).bind fun t112 => (if y109.length < 17592186044416 then (decorumref18_Eligible.j1 k 0 (y109 ++ [t112]) x109000 x109001 x109002 x109003 x109004 x109005 x109006 x109007 x109008 x109009 x109010 x109011 x109012 x109013) else (none))) else (decorumref18_Eligible.j1 k 0 y109 x109000 x109001 x109002 x109003 x109004 x109005 x109006 x109007 x109008 x109009 x109010 x109011 x109012 x109013)))
def decorumref18_Eligible.j1 : Nat → Int → List Int → Int → Int → Int → Int → Int → Int → Int → Int → Int → Int → Bool → Bool → List (S55) → Int → Option (Int)
  | 0, _, _, _, _, _, _, _, _, _, _, _, _, _, _, _, _ => none
  | k + 1, x5, x6, x109000, x109001, x109002, x109003, x109004, x109005, x109006, x109007, x109008, x109009, x109010, x109011, x109012, x109013 => if x109004 = 1 then (if x6.length < 17592186044416 then (decorumref18_Eligible.j2 k x5 (x6 ++ [x109005])) else (none)) else (decorumref18_Eligible.j2 k x5 x6)
def decorumref18_Eligible.j2 : Nat → Int → List Int → Option (Int)
  | 0, _, _ => none
  | k + 1, x5, x6 => decorumref18_Eligible.l0 k x5 x6 0
def decorumref18_Eligible.l0 : Nat → Int → List Int → Int → Option (Int)
  | 0, _, _, _ => none
  | k + 1, x5, x6, x7 => if x7 < (x6.length : Int) then (if 0 ≤ x7 then (if (rd x6 x7) > x5 then (decorumref18_Eligible.l0 k (rd x6 x7) x6 (wrap64 (x7 + 1))) else (decorumref18_Eligible.l0 k x5 x6 (wrap64 (x7 + 1)))) else (none)) else (some x5)
end
def decorumref18_Eligible.f (k : Nat) (a0_0 : Int) (a0_1 : Int) (a0_2 : Int) (a0_3 : Int) (a0_4 : Int) (a0_5 : Int) (a0_6 : Int) (a0_7 : Int) (a0_8 : Int) (a0_9 : Int) (a0_10 : Int) (a0_11 : Int) (a0_12 : Int) (a0_13 : ByteArray) (a1_0 : Int) (a1_1 : Int) (a1_2 : Int) (a1_3 : Int) (a1_4 : Int) (a1_5 : Int) (a1_6 : Int) (a1_7 : Int) (a1_8 : Int) (a1_9 : Int) (a1_10 : Bool) (a1_11 : Bool) (l1_12 : List (S55)) (a1_13 : Int) : Option (Int) := if a1_8 ≥ a0_5 then (decorumref18_Eligible.j0 k true a1_0 a1_1 a1_2 a1_3 a1_4 a1_5 a1_6 a1_7 a1_8 a1_9 a1_10 a1_11 l1_12 a1_13) else (if a1_4 = 0 then (decorumref18_Eligible.j0 k false a1_0 a1_1 a1_2 a1_3 a1_4 a1_5 a1_6 a1_7 a1_8 a1_9 a1_10 a1_11 l1_12 a1_13) else (decorumref18_Eligible.j0 k (decide (a1_8 > 0)) a1_0 a1_1 a1_2 a1_3 a1_4 a1_5 a1_6 a1_7 a1_8 a1_9 a1_10 a1_11 l1_12 a1_13))
theorem decorumref18_Eligible.mono_l : ∀ k, (∀ y0 y1 y2 y3 y4 y5 y6 y7 y8 y9 y10 y11 y12 y13 y14, LeO (decorumref18_Eligible.j0 k y0 y1 y2 y3 y4 y5 y6 y7 y8 y9 y10 y11 y12 y13 y14) (decorumref18_Eligible.j0 (k + 1) y0 y1 y2 y3 y4 y5 y6 y7 y8 y9 y10 y11 y12 y13 y14)) ∧ (∀ y0 y1 y2 y3 y4 y5 y6 y7 y8 y9 y10 y11 y12 y13 y14 y15, LeO (decorumref18_Eligible.j1 k y0 y1 y2 y3 y4 y5 y6 y7 y8 y9 y10 y11 y12 y13 y14 y15) (decorumref18_Eligible.j1 (k + 1) y0 y1 y2 y3 y4 y5 y6 y7 y8 y9 y10 y11 y12 y13 y14 y15)) ∧ (∀ y0 y1, LeO (decorumref18_Eligible.j2 k y0 y1) (decorumref18_Eligible.j2 (k + 1) y0 y1)) ∧ (∀ y0 y1 y2, LeO (decorumref18_Eligible.l0 k y0 y1 y2) (decorumref18_Eligible.l0 (k + 1) y0 y1 y2))
  | 0 => ⟨fun _ _ _ _ _ _ _ _ _ _ _ _ _ _ _ r h => by simp [decorumref18_Eligible.j0] at h, fun _ _ _ _ _ _ _ _ _ _ _ _ _ _ _ _ r h => by simp [decorumref18_Eligible.j1] at h, fun _ _ r h => by simp [decorumref18_Eligible.j2] at h, fun _ _ _ r h => by simp [decorumref18_Eligible.l0] at h⟩
  | k + 1 => by
    obtain ⟨ih0, ih1, ih2, ih3⟩ := decorumref18_Eligible.mono_l k
    refine ⟨?_, ?_, ?_, ?_⟩
    · intro y0 y1 y2 y3 y4 y5 y6 y7 y8 y9 y10 y11 y12 y13 y14
      unfold decorumref18_Eligible.j0
      repeat' first
      | (with_reducible exact ih0 _ _ _ _ _ _ _ _ _ _ _ _ _ _ _)
      | (with_reducible exact ih1 _ _ _ _ _ _ _ _ _ _ _ _ _ _ _ _)
      | (with_reducible exact ih2 _ _)
      | (with_reducible exact ih3 _ _ _)
      | (with_reducible exact decorumref01_Add.mono _ _ _)
      | (with_reducible exact LeO.refl _)
      | (with_reducible exact LeO.none _)
      | (with_reducible refine LeO.ite ?_ ?_)
      | (with_reducible refine LeO.bind ?_ (fun _ => ?_))
      | exact ih0 _ _ _ _ _ _ _ _ _ _ _ _ _ _ _
      | exact ih1 _ _ _ _ _ _ _ _ _ _ _ _ _ _ _ _
      | exact ih2 _ _
      | exact ih3 _ _ _
      | exact decorumref01_Add.mono _ _ _
      | exact LeO.none _
      | refine LeO.ite ?_ ?_
      | refine LeO.bind ?_ (fun _ => ?_)
    · intro y0 y1 y2 y3 y4 y5 y6 y7 y8 y9 y10 y11 y12 y13 y14 y15
      unfold decorumref18_Eligible.j1
      repeat' first
      | (with_reducible exact ih0 _ _ _ _ _ _ _ _ _ _ _ _ _ _ _)
      | (with_reducible exact ih1 _ _ _ _ _ _ _ _ _ _ _ _ _ _ _ _)
      | (with_reducible exact ih2 _ _)
      | (with_reducible exact ih3 _ _ _)
      | (with_reducible exact decorumref01_Add.mono _ _ _)
      | (with_reducible exact LeO.refl _)
      | (with_reducible exact LeO.none _)
      | (with_reducible refine LeO.ite ?_ ?_)
      | (with_reducible refine LeO.bind ?_ (fun _ => ?_))
      | exact ih0 _ _ _ _ _ _ _ _ _ _ _ _ _ _ _
      | exact ih1 _ _ _ _ _ _ _ _ _ _ _ _ _ _ _ _
      | exact ih2 _ _
      | exact ih3 _ _ _
      | exact decorumref01_Add.mono _ _ _
      | exact LeO.none _
      | refine LeO.ite ?_ ?_
      | refine LeO.bind ?_ (fun _ => ?_)
    · intro y0 y1
      unfold decorumref18_Eligible.j2
      repeat' first
      | (with_reducible exact ih0 _ _ _ _ _ _ _ _ _ _ _ _ _ _ _)
      | (with_reducible exact ih1 _ _ _ _ _ _ _ _ _ _ _ _ _ _ _ _)
      | (with_reducible exact ih2 _ _)
      | (with_reducible exact ih3 _ _ _)
      | (with_reducible exact decorumref01_Add.mono _ _ _)
      | (with_reducible exact LeO.refl _)
      | (with_reducible exact LeO.none _)
      | (with_reducible refine LeO.ite ?_ ?_)
      | (with_reducible refine LeO.bind ?_ (fun _ => ?_))
      | exact ih0 _ _ _ _ _ _ _ _ _ _ _ _ _ _ _
      | exact ih1 _ _ _ _ _ _ _ _ _ _ _ _ _ _ _ _
      | exact ih2 _ _
      | exact ih3 _ _ _
      | exact decorumref01_Add.mono _ _ _
      | exact LeO.none _
      | refine LeO.ite ?_ ?_
      | refine LeO.bind ?_ (fun _ => ?_)
    · intro y0 y1 y2
      unfold decorumref18_Eligible.l0
      repeat' first
      | (with_reducible exact ih0 _ _ _ _ _ _ _ _ _ _ _ _ _ _ _)
      | (with_reducible exact ih1 _ _ _ _ _ _ _ _ _ _ _ _ _ _ _ _)
      | (with_reducible exact ih2 _ _)
      | (with_reducible exact ih3 _ _ _)
      | (with_reducible exact decorumref01_Add.mono _ _ _)
      | (with_reducible exact LeO.refl _)
      | (with_reducible exact LeO.none _)
      | (with_reducible refine LeO.ite ?_ ?_)
      | (with_reducible refine LeO.bind ?_ (fun _ => ?_))
      | exact ih0 _ _ _ _ _ _ _ _ _ _ _ _ _ _ _
      | exact ih1 _ _ _ _ _ _ _ _ _ _ _ _ _ _ _ _
      | exact ih2 _ _
      | exact ih3 _ _ _
      | exact decorumref01_Add.mono _ _ _
      | exact LeO.none _
      | refine LeO.ite ?_ ?_
      | refine LeO.bind ?_ (fun _ => ?_)
theorem decorumref18_Eligible.mono : ∀ a0 a1 a2 a3 a4 a5 a6 a7 a8 a9 a10 a11 a12 a13 a14 a15 a16 a17 a18 a19 a20 a21 a22 a23 a24 a25 a26 a27 k, LeO (decorumref18_Eligible.f k a0 a1 a2 a3 a4 a5 a6 a7 a8 a9 a10 a11 a12 a13 a14 a15 a16 a17 a18 a19 a20 a21 a22 a23 a24 a25 a26 a27) (decorumref18_Eligible.f (k + 1) a0 a1 a2 a3 a4 a5 a6 a7 a8 a9 a10 a11 a12 a13 a14 a15 a16 a17 a18 a19 a20 a21 a22 a23 a24 a25 a26 a27) := by
  intro a0 a1 a2 a3 a4 a5 a6 a7 a8 a9 a10 a11 a12 a13 a14 a15 a16 a17 a18 a19 a20 a21 a22 a23 a24 a25 a26 a27 k
  obtain ⟨ih0, ih1, ih2, ih3⟩ := decorumref18_Eligible.mono_l k
  unfold decorumref18_Eligible.f
  repeat' first
      | (with_reducible exact ih0 _ _ _ _ _ _ _ _ _ _ _ _ _ _ _)
      | (with_reducible exact ih1 _ _ _ _ _ _ _ _ _ _ _ _ _ _ _ _)
      | (with_reducible exact ih2 _ _)
      | (with_reducible exact ih3 _ _ _)
      | (with_reducible exact decorumref01_Add.mono _ _ _)
      | (with_reducible exact LeO.refl _)
      | (with_reducible exact LeO.none _)
      | (with_reducible refine LeO.ite ?_ ?_)
      | (with_reducible refine LeO.bind ?_ (fun _ => ?_))
      | exact ih0 _ _ _ _ _ _ _ _ _ _ _ _ _ _ _
      | exact ih1 _ _ _ _ _ _ _ _ _ _ _ _ _ _ _ _
      | exact ih2 _ _
      | exact ih3 _ _ _
      | exact decorumref01_Add.mono _ _ _
      | exact LeO.none _
      | refine LeO.ite ?_ ?_
      | refine LeO.bind ?_ (fun _ => ?_)
set_option maxHeartbeats 8000000 in
set_option maxRecDepth 100000 in
theorem decorumref18_Eligible.calls (k : Nat) (a0_0 : Int) (a0_1 : Int) (a0_2 : Int) (a0_3 : Int) (a0_4 : Int) (a0_5 : Int) (a0_6 : Int) (a0_7 : Int) (a0_8 : Int) (a0_9 : Int) (a0_10 : Int) (a0_11 : Int) (a0_12 : Int) (a0_13 : ByteArray) (a1_0 : Int) (a1_1 : Int) (a1_2 : Int) (a1_3 : Int) (a1_4 : Int) (a1_5 : Int) (a1_6 : Int) (a1_7 : Int) (a1_8 : Int) (a1_9 : Int) (a1_10 : Bool) (a1_11 : Bool) (A1_12 : Option Addr) (c1_12 : Nat) (l1_12 : List (S55)) (a1_13 : Int) (r : Int) (w : World) (hr1_12 : Kd.C k55 w A1_12 l1_12.length l1_12) (hc1_12 : l1_12.length ≤ c1_12) (h : decorumref18_Eligible.f k a0_0 a0_1 a0_2 a0_3 a0_4 a0_5 a0_6 a0_7 a0_8 a0_9 a0_10 a0_11 a0_12 a0_13 a1_0 a1_1 a1_2 a1_3 a1_4 a1_5 a1_6 a1_7 a1_8 a1_9 a1_10 a1_11 l1_12 a1_13 = some r) :
    Calls Try.prog 11 #[.agg #[.int .i64 a0_0, .int .i64 a0_1, .int .i64 a0_2, .int .i64 a0_3, .int .i64 a0_4, .int .i64 a0_5, .int .i64 a0_6, .int .i64 a0_7, .int .i64 a0_8, .int .i64 a0_9, .int .i64 a0_10, .int .i64 a0_11, .int .i64 a0_12, .string a0_13], .agg #[.int .i64 a1_0, .int .i64 a1_1, .int .i64 a1_2, .int .i64 a1_3, .int .i64 a1_4, .int .i64 a1_5, .int .i64 a1_6, .int .i64 a1_7, .int .i64 a1_8, .int .i64 a1_9, .bool a1_10, .bool a1_11, .slice A1_12 l1_12.length c1_12, .int .i64 a1_13]] w fun e w' => e = .returned (.int .i64 r) ∧ Below w.heap.size w w' := by
  have hu23 := Try.underlying23
  have hu28 := Try.underlying28
  have HR1_12 := Aside0.mk hr1_12
  have HC1_12 := Aside0.mk hc1_12
  clear hr1_12 hc1_12
  have HB := Aside0.mk (Below.refl w.heap.size w)
  have H : (if a1_8 ≥ a0_5 then (decorumref18_Eligible.j0 k true a1_0 a1_1 a1_2 a1_3 a1_4 a1_5 a1_6 a1_7 a1_8 a1_9 a1_10 a1_11 l1_12 a1_13) else (if a1_4 = 0 then (decorumref18_Eligible.j0 k false a1_0 a1_1 a1_2 a1_3 a1_4 a1_5 a1_6 a1_7 a1_8 a1_9 a1_10 a1_11 l1_12 a1_13) else (decorumref18_Eligible.j0 k (decide (a1_8 > 0)) a1_0 a1_1 a1_2 a1_3 a1_4 a1_5 a1_6 a1_7 a1_8 a1_9 a1_10 a1_11 l1_12 a1_13))) = some r := h
  clear h
  have HC3 := Aside0.mk H
  clear H
  go_enter Try.func11, Try.ntmps11
  go_upto_region 1 with (first | ((with_reducible refine gate_dst (N := 2) rfl ?_); refine box_event ?hg (N := 2) ?hd (cs := #[.int .i64 a0_0, .int .i64 a0_1, .int .i64 a0_2, .int .i64 a0_3, .int .i64 a0_4, .int .i64 a0_5, .int .i64 a0_6, .int .i64 a0_7, .int .i64 a0_8, .int .i64 a0_9, .int .i64 a0_10, .int .i64 a0_11, .int .i64 a0_12, .string a0_13]) (t := 23) ?hr ?_; (case hd => rfl); (case hg => rfl); (case hr => first | (go_simp; done) | (go_simp; rfl)); intro gb107 hg w4 hbox hb; have n0_ := Aside0.mk (below_step (by repeat (first | (with_reducible first | exact HB.out | apply below_alloc | apply pw_below_drewN | apply below_drew1) | exact HB.out)) hb); have n1_ := Aside0.mk (hbox); have n2_ := Aside0.mk ((by rw [hg]; exact (below_size (by repeat (first | (with_reducible first | exact HB.out | apply below_alloc | apply pw_below_drewN | apply below_drew1) | exact HB.out))) : w.heap.size ≤ gb107)); have n3_ := Aside0.mk ((by rw [hg]; exact (below_size (by repeat (first | (with_reducible first | exact HB.out | apply below_alloc | apply pw_below_drewN | apply below_drew1) | exact HB.out))) : w.heap.size ≤ gb107)); clear HB; have HB := n0_; have BK107 := n1_; have GW107 := n2_; have GE107 := n3_; clear n0_ n1_ n2_ n3_; clear hb hbox hg) | ((with_reducible refine gate_dst (N := 3) rfl ?_); refine box_event ?hg (N := 3) ?hd (cs := #[.int .i64 a1_0, .int .i64 a1_1, .int .i64 a1_2, .int .i64 a1_3, .int .i64 a1_4, .int .i64 a1_5, .int .i64 a1_6, .int .i64 a1_7, .int .i64 a1_8, .int .i64 a1_9, .bool a1_10, .bool a1_11, .slice A1_12 l1_12.length c1_12, .int .i64 a1_13]) (t := 28) ?hr ?_; (case hd => rfl); (case hg => rfl); (case hr => first | (go_simp; done) | (go_simp; rfl)); intro gb108 hg w5 hbox hb; have n0_ := Aside0.mk (blk_below (g := gb107) (o := .cells #[.int .i64 a0_0, .int .i64 a0_1, .int .i64 a0_2, .int .i64 a0_3, .int .i64 a0_4, .int .i64 a0_5, .int .i64 a0_6, .int .i64 a0_7, .int .i64 a0_8, .int .i64 a0_9, .int .i64 a0_10, .int .i64 a0_11, .int .i64 a0_12, .string a0_13] 23 (0, 0)) (by (with_reducible repeat (first | refine blk_drewN ?_ _ | refine blk_drew ?_ | refine blk_alloc ?_ _)); exact BK107.out) hb); have n1_ := Aside0.mk (below_step (by repeat (first | (with_reducible first | exact HB.out | apply below_alloc | apply pw_below_drewN | apply below_drew1 | refine below_set ?_ GE107.out) | exact HB.out)) hb); have n2_ := Aside0.mk (hbox); have n3_ := Aside0.mk ((by rw [hg]; exact (below_size (by repeat (first | (with_reducible first | exact HB.out | apply below_alloc | apply pw_below_drewN | apply below_drew1 | refine below_set ?_ GE107.out) | exact HB.out))) : w.heap.size ≤ gb108)); have n4_ := Aside0.mk ((by rw [hg]; exact (below_size (by repeat (first | (with_reducible first | exact HB.out | apply below_alloc | apply pw_below_drewN | apply below_drew1 | refine below_set ?_ GE107.out) | exact HB.out))) : w.heap.size ≤ gb108)); have n5_ := Aside0.mk ((by rw [hg]; exact Nat.ne_of_lt (blk_lt (g := gb107) (o := .cells #[.int .i64 a0_0, .int .i64 a0_1, .int .i64 a0_2, .int .i64 a0_3, .int .i64 a0_4, .int .i64 a0_5, .int .i64 a0_6, .int .i64 a0_7, .int .i64 a0_8, .int .i64 a0_9, .int .i64 a0_10, .int .i64 a0_11, .int .i64 a0_12, .string a0_13] 23 (0, 0)) (by (with_reducible repeat (first | refine blk_drewN ?_ _ | refine blk_drew ?_ | refine blk_alloc ?_ _)); exact BK107.out)) : gb107 ≠ gb108)); have n6_ := Aside0.mk ((by rw [hg]; exact Nat.ne_of_gt (blk_lt (g := gb107) (o := .cells #[.int .i64 a0_0, .int .i64 a0_1, .int .i64 a0_2, .int .i64 a0_3, .int .i64 a0_4, .int .i64 a0_5, .int .i64 a0_6, .int .i64 a0_7, .int .i64 a0_8, .int .i64 a0_9, .int .i64 a0_10, .int .i64 a0_11, .int .i64 a0_12, .string a0_13] 23 (0, 0)) (by (with_reducible repeat (first | refine blk_drewN ?_ _ | refine blk_drew ?_ | refine blk_alloc ?_ _)); exact BK107.out)) : gb108 ≠ gb107)); clear BK107; clear HB; have BK107 := n0_; have HB := n1_; have BK108 := n2_; have GW108 := n3_; have GE108 := n4_; have NB107_108 := n5_; have NB108_107 := n6_; clear n0_ n1_ n2_ n3_ n4_ n5_ n6_; clear hb hbox hg))
  (try simp only [Act.put, List.setIfInBounds_toArray, List.set_cons_zero, List.set_cons_succ])
  go_cut [22] (fun v22 wc => ∃ (kq : Nat) (x22_2 : Bool), v22 = .bool x22_2 ∧ Aside0 (decorumref18_Eligible.j0 kq x22_2 a1_0 a1_1 a1_2 a1_3 a1_4 a1_5 a1_6 a1_7 a1_8 a1_9 a1_10 a1_11 l1_12 a1_13 = some r) ∧ Aside0 (kq ≤ k) ∧ Aside0 (wc.heap[gb107]? = some (.cells #[.int .i64 a0_0, .int .i64 a0_1, .int .i64 a0_2, .int .i64 a0_3, .int .i64 a0_4, .int .i64 a0_5, .int .i64 a0_6, .int .i64 a0_7, .int .i64 a0_8, .int .i64 a0_9, .int .i64 a0_10, .int .i64 a0_11, .int .i64 a0_12, .string a0_13] 23 (0, 0))) ∧ Aside0 (wc.heap[gb108]? = some (.cells #[.int .i64 a1_0, .int .i64 a1_1, .int .i64 a1_2, .int .i64 a1_3, .int .i64 a1_4, .int .i64 a1_5, .int .i64 a1_6, .int .i64 a1_7, .int .i64 a1_8, .int .i64 a1_9, .bool a1_10, .bool a1_11, (.slice A1_12 l1_12.length c1_12), .int .i64 a1_13] 28 (0, 0))) ∧ Aside0 (Below w.heap.size w wc))
  case first =>
    have H := HC3.out
    clear HC3
    by_cases c6 : a1_8 ≥ a0_5
    · rw [if_pos c6] at H
      have c6b0 : decide (a0_5 ≤ a1_8) = true := decide_eq_true c6
      clear c6
      (first | rw [c6b0] | (simp only [i64_w, i32_w]; rw [c6b0]) | skip)
      have H' := Aside0.mk H
      clear H
      have hnb7 := NB108_107.out
      have hnc7 := NB107_108.out
      have hcz8_0 : w5.cell? ⟨gb108, 0, none⟩ = some (.int .i64 a1_0) := (blk_cell BK108.out 0).trans rfl
      have hcz8_1 : w5.cell? ⟨gb108, 1, none⟩ = some (.int .i64 a1_1) := (blk_cell BK108.out 1).trans rfl
      have hcz8_2 : w5.cell? ⟨gb108, 2, none⟩ = some (.int .i64 a1_2) := (blk_cell BK108.out 2).trans rfl
      have hcz8_3 : w5.cell? ⟨gb108, 3, none⟩ = some (.int .i64 a1_3) := (blk_cell BK108.out 3).trans rfl
      have hcz8_4 : w5.cell? ⟨gb108, 4, none⟩ = some (.int .i64 a1_4) := (blk_cell BK108.out 4).trans rfl
      have hcz8_5 : w5.cell? ⟨gb108, 5, none⟩ = some (.int .i64 a1_5) := (blk_cell BK108.out 5).trans rfl
      have hcz8_6 : w5.cell? ⟨gb108, 6, none⟩ = some (.int .i64 a1_6) := (blk_cell BK108.out 6).trans rfl
      have hcz8_7 : w5.cell? ⟨gb108, 7, none⟩ = some (.int .i64 a1_7) := (blk_cell BK108.out 7).trans rfl
      have hcz8_8 : w5.cell? ⟨gb108, 8, none⟩ = some (.int .i64 a1_8) := (blk_cell BK108.out 8).trans rfl
      have hcz8_9 : w5.cell? ⟨gb108, 9, none⟩ = some (.int .i64 a1_9) := (blk_cell BK108.out 9).trans rfl
      have hcz8_10 : w5.cell? ⟨gb108, 10, none⟩ = some (.bool a1_10) := (blk_cell BK108.out 10).trans rfl
      have hcz8_11 : w5.cell? ⟨gb108, 11, none⟩ = some (.bool a1_11) := (blk_cell BK108.out 11).trans rfl
      have hcz8_12 : w5.cell? ⟨gb108, 12, none⟩ = some (.slice A1_12 l1_12.length c1_12) := (blk_cell BK108.out 12).trans rfl
      have hcz8_13 : w5.cell? ⟨gb108, 13, none⟩ = some (.int .i64 a1_13) := (blk_cell BK108.out 13).trans rfl
      have hfz8_0 := blk_frozen BK108.out 0
      have hfz8_1 := blk_frozen BK108.out 1
      have hfz8_2 := blk_frozen BK108.out 2
      have hfz8_3 := blk_frozen BK108.out 3
      have hfz8_4 := blk_frozen BK108.out 4
      have hfz8_5 := blk_frozen BK108.out 5
      have hfz8_6 := blk_frozen BK108.out 6
      have hfz8_7 := blk_frozen BK108.out 7
      have hfz8_8 := blk_frozen BK108.out 8
      have hfz8_9 := blk_frozen BK108.out 9
      have hfz8_10 := blk_frozen BK108.out 10
      have hfz8_11 := blk_frozen BK108.out 11
      have hfz8_12 := blk_frozen BK108.out 12
      have hfz8_13 := blk_frozen BK108.out 13
      have hcz9_0 : w5.cell? ⟨gb107, 0, none⟩ = some (.int .i64 a0_0) := (blk_cell BK107.out 0).trans rfl
      have hcz9_1 : w5.cell? ⟨gb107, 1, none⟩ = some (.int .i64 a0_1) := (blk_cell BK107.out 1).trans rfl
      have hcz9_2 : w5.cell? ⟨gb107, 2, none⟩ = some (.int .i64 a0_2) := (blk_cell BK107.out 2).trans rfl
      have hcz9_3 : w5.cell? ⟨gb107, 3, none⟩ = some (.int .i64 a0_3) := (blk_cell BK107.out 3).trans rfl
      have hcz9_4 : w5.cell? ⟨gb107, 4, none⟩ = some (.int .i64 a0_4) := (blk_cell BK107.out 4).trans rfl
      have hcz9_5 : w5.cell? ⟨gb107, 5, none⟩ = some (.int .i64 a0_5) := (blk_cell BK107.out 5).trans rfl
      have hcz9_6 : w5.cell? ⟨gb107, 6, none⟩ = some (.int .i64 a0_6) := (blk_cell BK107.out 6).trans rfl
      have hcz9_7 : w5.cell? ⟨gb107, 7, none⟩ = some (.int .i64 a0_7) := (blk_cell BK107.out 7).trans rfl
      have hcz9_8 : w5.cell? ⟨gb107, 8, none⟩ = some (.int .i64 a0_8) := (blk_cell BK107.out 8).trans rfl
      have hcz9_9 : w5.cell? ⟨gb107, 9, none⟩ = some (.int .i64 a0_9) := (blk_cell BK107.out 9).trans rfl
      have hcz9_10 : w5.cell? ⟨gb107, 10, none⟩ = some (.int .i64 a0_10) := (blk_cell BK107.out 10).trans rfl
      have hcz9_11 : w5.cell? ⟨gb107, 11, none⟩ = some (.int .i64 a0_11) := (blk_cell BK107.out 11).trans rfl
      have hcz9_12 : w5.cell? ⟨gb107, 12, none⟩ = some (.int .i64 a0_12) := (blk_cell BK107.out 12).trans rfl
      have hcz9_13 : w5.cell? ⟨gb107, 13, none⟩ = some (.string a0_13) := (blk_cell BK107.out 13).trans rfl
      have hfz9_0 := blk_frozen BK107.out 0
      have hfz9_1 := blk_frozen BK107.out 1
      have hfz9_2 := blk_frozen BK107.out 2
      have hfz9_3 := blk_frozen BK107.out 3
      have hfz9_4 := blk_frozen BK107.out 4
      have hfz9_5 := blk_frozen BK107.out 5
      have hfz9_6 := blk_frozen BK107.out 6
      have hfz9_7 := blk_frozen BK107.out 7
      have hfz9_8 := blk_frozen BK107.out 8
      have hfz9_9 := blk_frozen BK107.out 9
      have hfz9_10 := blk_frozen BK107.out 10
      have hfz9_11 := blk_frozen BK107.out 11
      have hfz9_12 := blk_frozen BK107.out 12
      have hfz9_13 := blk_frozen BK107.out 13
      go_wp2
      go_meet
      case rel => exact ⟨_, (true), (by first | rfl | (simp; done) | (simp [*]; done)), H', ⟨by first | omega | exact Nat.le_refl _⟩, ⟨by (with_reducible repeat (first | refine blk_drewN ?_ _ | refine blk_drew ?_ | refine blk_alloc ?_ _)); exact BK107.out⟩, ⟨by (with_reducible repeat (first | refine blk_drewN ?_ _ | refine blk_drew ?_ | refine blk_alloc ?_ _)); exact BK108.out⟩, ⟨by repeat (first | (with_reducible first | exact HB.out | apply below_alloc | apply pw_below_drewN | apply below_drew1 | refine below_set ?_ GE107.out | refine below_set ?_ GE108.out) | exact HB.out)⟩⟩
    · rw [if_neg c6] at H
      have c6b0 : decide (a0_5 ≤ a1_8) = false := decide_eq_false c6
      clear c6
      (first | rw [c6b0] | (simp only [i64_w, i32_w]; rw [c6b0]) | skip)
      by_cases c10 : a1_4 = 0
      · rw [if_pos c10] at H
        have c10b0 : (a1_4 == 0) = true := beq_iff_eq.mpr c10
        have c10b1 : (a1_4 != 0) = false := bne_eq_false_iff_eq.mpr c10
        clear c10
        have H' := Aside0.mk H
        clear H
        have hnb11 := NB108_107.out
        have hnc11 := NB107_108.out
        have hcz12_0 : w5.cell? ⟨gb108, 0, none⟩ = some (.int .i64 a1_0) := (blk_cell BK108.out 0).trans rfl
        have hcz12_1 : w5.cell? ⟨gb108, 1, none⟩ = some (.int .i64 a1_1) := (blk_cell BK108.out 1).trans rfl
        have hcz12_2 : w5.cell? ⟨gb108, 2, none⟩ = some (.int .i64 a1_2) := (blk_cell BK108.out 2).trans rfl
        have hcz12_3 : w5.cell? ⟨gb108, 3, none⟩ = some (.int .i64 a1_3) := (blk_cell BK108.out 3).trans rfl
        have hcz12_4 : w5.cell? ⟨gb108, 4, none⟩ = some (.int .i64 a1_4) := (blk_cell BK108.out 4).trans rfl
        have hcz12_5 : w5.cell? ⟨gb108, 5, none⟩ = some (.int .i64 a1_5) := (blk_cell BK108.out 5).trans rfl
        have hcz12_6 : w5.cell? ⟨gb108, 6, none⟩ = some (.int .i64 a1_6) := (blk_cell BK108.out 6).trans rfl
        have hcz12_7 : w5.cell? ⟨gb108, 7, none⟩ = some (.int .i64 a1_7) := (blk_cell BK108.out 7).trans rfl
        have hcz12_8 : w5.cell? ⟨gb108, 8, none⟩ = some (.int .i64 a1_8) := (blk_cell BK108.out 8).trans rfl
        have hcz12_9 : w5.cell? ⟨gb108, 9, none⟩ = some (.int .i64 a1_9) := (blk_cell BK108.out 9).trans rfl
        have hcz12_10 : w5.cell? ⟨gb108, 10, none⟩ = some (.bool a1_10) := (blk_cell BK108.out 10).trans rfl
        have hcz12_11 : w5.cell? ⟨gb108, 11, none⟩ = some (.bool a1_11) := (blk_cell BK108.out 11).trans rfl
        have hcz12_12 : w5.cell? ⟨gb108, 12, none⟩ = some (.slice A1_12 l1_12.length c1_12) := (blk_cell BK108.out 12).trans rfl
        have hcz12_13 : w5.cell? ⟨gb108, 13, none⟩ = some (.int .i64 a1_13) := (blk_cell BK108.out 13).trans rfl
        have hfz12_0 := blk_frozen BK108.out 0
        have hfz12_1 := blk_frozen BK108.out 1
        have hfz12_2 := blk_frozen BK108.out 2
        have hfz12_3 := blk_frozen BK108.out 3
        have hfz12_4 := blk_frozen BK108.out 4
        have hfz12_5 := blk_frozen BK108.out 5
        have hfz12_6 := blk_frozen BK108.out 6
        have hfz12_7 := blk_frozen BK108.out 7
        have hfz12_8 := blk_frozen BK108.out 8
        have hfz12_9 := blk_frozen BK108.out 9
        have hfz12_10 := blk_frozen BK108.out 10
        have hfz12_11 := blk_frozen BK108.out 11
        have hfz12_12 := blk_frozen BK108.out 12
        have hfz12_13 := blk_frozen BK108.out 13
        have hcz13_0 : w5.cell? ⟨gb107, 0, none⟩ = some (.int .i64 a0_0) := (blk_cell BK107.out 0).trans rfl
        have hcz13_1 : w5.cell? ⟨gb107, 1, none⟩ = some (.int .i64 a0_1) := (blk_cell BK107.out 1).trans rfl
        have hcz13_2 : w5.cell? ⟨gb107, 2, none⟩ = some (.int .i64 a0_2) := (blk_cell BK107.out 2).trans rfl
        have hcz13_3 : w5.cell? ⟨gb107, 3, none⟩ = some (.int .i64 a0_3) := (blk_cell BK107.out 3).trans rfl
        have hcz13_4 : w5.cell? ⟨gb107, 4, none⟩ = some (.int .i64 a0_4) := (blk_cell BK107.out 4).trans rfl
        have hcz13_5 : w5.cell? ⟨gb107, 5, none⟩ = some (.int .i64 a0_5) := (blk_cell BK107.out 5).trans rfl
        have hcz13_6 : w5.cell? ⟨gb107, 6, none⟩ = some (.int .i64 a0_6) := (blk_cell BK107.out 6).trans rfl
        have hcz13_7 : w5.cell? ⟨gb107, 7, none⟩ = some (.int .i64 a0_7) := (blk_cell BK107.out 7).trans rfl
        have hcz13_8 : w5.cell? ⟨gb107, 8, none⟩ = some (.int .i64 a0_8) := (blk_cell BK107.out 8).trans rfl
        have hcz13_9 : w5.cell? ⟨gb107, 9, none⟩ = some (.int .i64 a0_9) := (blk_cell BK107.out 9).trans rfl
        have hcz13_10 : w5.cell? ⟨gb107, 10, none⟩ = some (.int .i64 a0_10) := (blk_cell BK107.out 10).trans rfl
        have hcz13_11 : w5.cell? ⟨gb107, 11, none⟩ = some (.int .i64 a0_11) := (blk_cell BK107.out 11).trans rfl
        have hcz13_12 : w5.cell? ⟨gb107, 12, none⟩ = some (.int .i64 a0_12) := (blk_cell BK107.out 12).trans rfl
        have hcz13_13 : w5.cell? ⟨gb107, 13, none⟩ = some (.string a0_13) := (blk_cell BK107.out 13).trans rfl
        have hfz13_0 := blk_frozen BK107.out 0
        have hfz13_1 := blk_frozen BK107.out 1
        have hfz13_2 := blk_frozen BK107.out 2
        have hfz13_3 := blk_frozen BK107.out 3
        have hfz13_4 := blk_frozen BK107.out 4
        have hfz13_5 := blk_frozen BK107.out 5
        have hfz13_6 := blk_frozen BK107.out 6
        have hfz13_7 := blk_frozen BK107.out 7
        have hfz13_8 := blk_frozen BK107.out 8
        have hfz13_9 := blk_frozen BK107.out 9
        have hfz13_10 := blk_frozen BK107.out 10
        have hfz13_11 := blk_frozen BK107.out 11
        have hfz13_12 := blk_frozen BK107.out 12
        have hfz13_13 := blk_frozen BK107.out 13
        go_wp2
        go_meet
        case rel => exact ⟨_, (false), (by first | rfl | (simp; done) | (simp [*]; done)), H', ⟨by first | omega | exact Nat.le_refl _⟩, ⟨by (with_reducible repeat (first | refine blk_drewN ?_ _ | refine blk_drew ?_ | refine blk_alloc ?_ _)); exact BK107.out⟩, ⟨by (with_reducible repeat (first | refine blk_drewN ?_ _ | refine blk_drew ?_ | refine blk_alloc ?_ _)); exact BK108.out⟩, ⟨by repeat (first | (with_reducible first | exact HB.out | apply below_alloc | apply pw_below_drewN | apply below_drew1 | refine below_set ?_ GE107.out | refine below_set ?_ GE108.out) | exact HB.out)⟩⟩
      · rw [if_neg c10] at H
        have c10b0 : (a1_4 == 0) = false := beq_eq_false_iff_ne.mpr c10
        have c10b1 : (a1_4 != 0) = true := bne_iff_ne.mpr c10
        have H' := Aside0.mk H
        clear H
        have hnb14 := NB108_107.out
        have hnc14 := NB107_108.out
        have hcz15_0 : w5.cell? ⟨gb108, 0, none⟩ = some (.int .i64 a1_0) := (blk_cell BK108.out 0).trans rfl
        have hcz15_1 : w5.cell? ⟨gb108, 1, none⟩ = some (.int .i64 a1_1) := (blk_cell BK108.out 1).trans rfl
        have hcz15_2 : w5.cell? ⟨gb108, 2, none⟩ = some (.int .i64 a1_2) := (blk_cell BK108.out 2).trans rfl
        have hcz15_3 : w5.cell? ⟨gb108, 3, none⟩ = some (.int .i64 a1_3) := (blk_cell BK108.out 3).trans rfl
        have hcz15_4 : w5.cell? ⟨gb108, 4, none⟩ = some (.int .i64 a1_4) := (blk_cell BK108.out 4).trans rfl
        have hcz15_5 : w5.cell? ⟨gb108, 5, none⟩ = some (.int .i64 a1_5) := (blk_cell BK108.out 5).trans rfl
        have hcz15_6 : w5.cell? ⟨gb108, 6, none⟩ = some (.int .i64 a1_6) := (blk_cell BK108.out 6).trans rfl
        have hcz15_7 : w5.cell? ⟨gb108, 7, none⟩ = some (.int .i64 a1_7) := (blk_cell BK108.out 7).trans rfl
        have hcz15_8 : w5.cell? ⟨gb108, 8, none⟩ = some (.int .i64 a1_8) := (blk_cell BK108.out 8).trans rfl
        have hcz15_9 : w5.cell? ⟨gb108, 9, none⟩ = some (.int .i64 a1_9) := (blk_cell BK108.out 9).trans rfl
        have hcz15_10 : w5.cell? ⟨gb108, 10, none⟩ = some (.bool a1_10) := (blk_cell BK108.out 10).trans rfl
        have hcz15_11 : w5.cell? ⟨gb108, 11, none⟩ = some (.bool a1_11) := (blk_cell BK108.out 11).trans rfl
        have hcz15_12 : w5.cell? ⟨gb108, 12, none⟩ = some (.slice A1_12 l1_12.length c1_12) := (blk_cell BK108.out 12).trans rfl
        have hcz15_13 : w5.cell? ⟨gb108, 13, none⟩ = some (.int .i64 a1_13) := (blk_cell BK108.out 13).trans rfl
        have hfz15_0 := blk_frozen BK108.out 0
        have hfz15_1 := blk_frozen BK108.out 1
        have hfz15_2 := blk_frozen BK108.out 2
        have hfz15_3 := blk_frozen BK108.out 3
        have hfz15_4 := blk_frozen BK108.out 4
        have hfz15_5 := blk_frozen BK108.out 5
        have hfz15_6 := blk_frozen BK108.out 6
        have hfz15_7 := blk_frozen BK108.out 7
        have hfz15_8 := blk_frozen BK108.out 8
        have hfz15_9 := blk_frozen BK108.out 9
        have hfz15_10 := blk_frozen BK108.out 10
        have hfz15_11 := blk_frozen BK108.out 11
        have hfz15_12 := blk_frozen BK108.out 12
        have hfz15_13 := blk_frozen BK108.out 13
        have hcz16_0 : w5.cell? ⟨gb107, 0, none⟩ = some (.int .i64 a0_0) := (blk_cell BK107.out 0).trans rfl
        have hcz16_1 : w5.cell? ⟨gb107, 1, none⟩ = some (.int .i64 a0_1) := (blk_cell BK107.out 1).trans rfl
        have hcz16_2 : w5.cell? ⟨gb107, 2, none⟩ = some (.int .i64 a0_2) := (blk_cell BK107.out 2).trans rfl
        have hcz16_3 : w5.cell? ⟨gb107, 3, none⟩ = some (.int .i64 a0_3) := (blk_cell BK107.out 3).trans rfl
        have hcz16_4 : w5.cell? ⟨gb107, 4, none⟩ = some (.int .i64 a0_4) := (blk_cell BK107.out 4).trans rfl
        have hcz16_5 : w5.cell? ⟨gb107, 5, none⟩ = some (.int .i64 a0_5) := (blk_cell BK107.out 5).trans rfl
        have hcz16_6 : w5.cell? ⟨gb107, 6, none⟩ = some (.int .i64 a0_6) := (blk_cell BK107.out 6).trans rfl
        have hcz16_7 : w5.cell? ⟨gb107, 7, none⟩ = some (.int .i64 a0_7) := (blk_cell BK107.out 7).trans rfl
        have hcz16_8 : w5.cell? ⟨gb107, 8, none⟩ = some (.int .i64 a0_8) := (blk_cell BK107.out 8).trans rfl
        have hcz16_9 : w5.cell? ⟨gb107, 9, none⟩ = some (.int .i64 a0_9) := (blk_cell BK107.out 9).trans rfl
        have hcz16_10 : w5.cell? ⟨gb107, 10, none⟩ = some (.int .i64 a0_10) := (blk_cell BK107.out 10).trans rfl
        have hcz16_11 : w5.cell? ⟨gb107, 11, none⟩ = some (.int .i64 a0_11) := (blk_cell BK107.out 11).trans rfl
        have hcz16_12 : w5.cell? ⟨gb107, 12, none⟩ = some (.int .i64 a0_12) := (blk_cell BK107.out 12).trans rfl
        have hcz16_13 : w5.cell? ⟨gb107, 13, none⟩ = some (.string a0_13) := (blk_cell BK107.out 13).trans rfl
        have hfz16_0 := blk_frozen BK107.out 0
        have hfz16_1 := blk_frozen BK107.out 1
        have hfz16_2 := blk_frozen BK107.out 2
        have hfz16_3 := blk_frozen BK107.out 3
        have hfz16_4 := blk_frozen BK107.out 4
        have hfz16_5 := blk_frozen BK107.out 5
        have hfz16_6 := blk_frozen BK107.out 6
        have hfz16_7 := blk_frozen BK107.out 7
        have hfz16_8 := blk_frozen BK107.out 8
        have hfz16_9 := blk_frozen BK107.out 9
        have hfz16_10 := blk_frozen BK107.out 10
        have hfz16_11 := blk_frozen BK107.out 11
        have hfz16_12 := blk_frozen BK107.out 12
        have hfz16_13 := blk_frozen BK107.out 13
        go_wp2
        go_meet
        case rel => exact ⟨_, (decide (a1_8 > 0)), (by first | rfl | (simp; done) | (simp [*]; done)), H', ⟨by first | omega | exact Nat.le_refl _⟩, ⟨by (with_reducible repeat (first | refine blk_drewN ?_ _ | refine blk_drew ?_ | refine blk_alloc ?_ _)); exact BK107.out⟩, ⟨by (with_reducible repeat (first | refine blk_drewN ?_ _ | refine blk_drew ?_ | refine blk_alloc ?_ _)); exact BK108.out⟩, ⟨by repeat (first | (with_reducible first | exact HB.out | apply below_alloc | apply pw_below_drewN | apply below_drew1 | refine below_set ?_ GE107.out | refine below_set ?_ GE108.out) | exact HB.out)⟩⟩
  case rest =>
    clear HC3
    try clear c1
    try clear p2
    try clear c6
    try clear c6b0
    try clear c7
    try clear c10
    try clear c10b0
    try clear c10b1
    try clear c11
    try clear c14
    try clear hcz12_0
    try clear hcz12_1
    try clear hcz12_10
    try clear hcz12_11
    try clear hcz12_12
    try clear hcz12_13
    try clear hcz12_2
    try clear hcz12_3
    try clear hcz12_4
    try clear hcz12_5
    try clear hcz12_6
    try clear hcz12_7
    try clear hcz12_8
    try clear hcz12_9
    try clear hcz13_0
    try clear hcz13_1
    try clear hcz13_10
    try clear hcz13_11
    try clear hcz13_12
    try clear hcz13_13
    try clear hcz13_2
    try clear hcz13_3
    try clear hcz13_4
    try clear hcz13_5
    try clear hcz13_6
    try clear hcz13_7
    try clear hcz13_8
    try clear hcz13_9
    try clear hcz15_0
    try clear hcz15_1
    try clear hcz15_10
    try clear hcz15_11
    try clear hcz15_12
    try clear hcz15_13
    try clear hcz15_2
    try clear hcz15_3
    try clear hcz15_4
    try clear hcz15_5
    try clear hcz15_6
    try clear hcz15_7
    try clear hcz15_8
    try clear hcz15_9
    try clear hcz16_0
    try clear hcz16_1
    try clear hcz16_10
    try clear hcz16_11
    try clear hcz16_12
    try clear hcz16_13
    try clear hcz16_2
    try clear hcz16_3
    try clear hcz16_4
    try clear hcz16_5
    try clear hcz16_6
    try clear hcz16_7
    try clear hcz16_8
    try clear hcz16_9
    try clear hcz8_0
    try clear hcz8_1
    try clear hcz8_10
    try clear hcz8_11
    try clear hcz8_12
    try clear hcz8_13
    try clear hcz8_2
    try clear hcz8_3
    try clear hcz8_4
    try clear hcz8_5
    try clear hcz8_6
    try clear hcz8_7
    try clear hcz8_8
    try clear hcz8_9
    try clear hcz9_0
    try clear hcz9_1
    try clear hcz9_10
    try clear hcz9_11
    try clear hcz9_12
    try clear hcz9_13
    try clear hcz9_2
    try clear hcz9_3
    try clear hcz9_4
    try clear hcz9_5
    try clear hcz9_6
    try clear hcz9_7
    try clear hcz9_8
    try clear hcz9_9
    try clear hfz12_0
    try clear hfz12_1
    try clear hfz12_10
    try clear hfz12_11
    try clear hfz12_12
    try clear hfz12_13
    try clear hfz12_2
    try clear hfz12_3
    try clear hfz12_4
    try clear hfz12_5
    try clear hfz12_6
    try clear hfz12_7
    try clear hfz12_8
    try clear hfz12_9
    try clear hfz13_0
    try clear hfz13_1
    try clear hfz13_10
    try clear hfz13_11
    try clear hfz13_12
    try clear hfz13_13
    try clear hfz13_2
    try clear hfz13_3
    try clear hfz13_4
    try clear hfz13_5
    try clear hfz13_6
    try clear hfz13_7
    try clear hfz13_8
    try clear hfz13_9
    try clear hfz15_0
    try clear hfz15_1
    try clear hfz15_10
    try clear hfz15_11
    try clear hfz15_12
    try clear hfz15_13
    try clear hfz15_2
    try clear hfz15_3
    try clear hfz15_4
    try clear hfz15_5
    try clear hfz15_6
    try clear hfz15_7
    try clear hfz15_8
    try clear hfz15_9
    try clear hfz16_0
    try clear hfz16_1
    try clear hfz16_10
    try clear hfz16_11
    try clear hfz16_12
    try clear hfz16_13
    try clear hfz16_2
    try clear hfz16_3
    try clear hfz16_4
    try clear hfz16_5
    try clear hfz16_6
    try clear hfz16_7
    try clear hfz16_8
    try clear hfz16_9
    try clear hfz8_0
    try clear hfz8_1
    try clear hfz8_10
    try clear hfz8_11
    try clear hfz8_12
    try clear hfz8_13
    try clear hfz8_2
    try clear hfz8_3
    try clear hfz8_4
    try clear hfz8_5
    try clear hfz8_6
    try clear hfz8_7
    try clear hfz8_8
    try clear hfz8_9
    try clear hfz9_0
    try clear hfz9_1
    try clear hfz9_10
    try clear hfz9_11
    try clear hfz9_12
    try clear hfz9_13
    try clear hfz9_2
    try clear hfz9_3
    try clear hfz9_4
    try clear hfz9_5
    try clear hfz9_6
    try clear hfz9_7
    try clear hfz9_8
    try clear hfz9_9
    obtain ⟨kq, x22_2, rfl, HA, HJ2, BK107, BK108, HB⟩ := hcut
    cases kq with
    | zero => exact absurd HA.out (by simp [decorumref18_Eligible.j0])
    | succ kj2 =>
      have H := HA.out
      clear HA
      simp only [decorumref18_Eligible.j0] at H
      by_cases c17 : x22_2 = true
      · subst c17
        have H1 : (some 4611686018427387903) = some r := by rw [if_pos rfl] at H; exact H
        clear H
        have H := H1
        clear H1
        obtain rfl := Option.some.inj H
        go_wp2
        go_ret
        exact ⟨by first | rfl | (simp [errW_none, errW_some] <;> rfl) | (simp [*, errW_none, errW_some] <;> rfl) | (simp [wrap64]; done), by repeat (first | (with_reducible first | exact HB.out | apply below_alloc | apply pw_below_drewN | apply below_drew1 | refine below_set ?_ GE107.out | refine below_set ?_ GE108.out) | exact HB.out)⟩
      · replace c17 := Bool.eq_false_iff.mpr c17
        subst c17
        have H1 : ((some (([a1_6, a1_7] : List Int) : List Int)).bind fun y109 => (if a1_0 ≥ 0 then ((decorumref01_Add.f kj2 a1_0 a1_1).bind fun t112 => (if y109.length < 17592186044416 then (decorumref18_Eligible.j1 kj2 0 (y109 ++ [t112]) a1_0 a1_1 a1_2 a1_3 a1_4 a1_5 a1_6 a1_7 a1_8 a1_9 a1_10 a1_11 l1_12 a1_13) else (none))) else (decorumref18_Eligible.j1 kj2 0 y109 a1_0 a1_1 a1_2 a1_3 a1_4 a1_5 a1_6 a1_7 a1_8 a1_9 a1_10 a1_11 l1_12 a1_13))) = some r := by rw [if_neg (show ¬ (false = true) by decide)] at H; exact H
        clear H
        have H := H1
        clear H1
        obtain ⟨y109, hy109⟩ : ∃ y_ : List Int, y_ = (([a1_6, a1_7] : List Int)) := ⟨_, rfl⟩
        replace H : (if a1_0 ≥ 0 then ((decorumref01_Add.f kj2 a1_0 a1_1).bind fun t112 => (if y109.length < 17592186044416 then (decorumref18_Eligible.j1 kj2 0 (y109 ++ [t112]) a1_0 a1_1 a1_2 a1_3 a1_4 a1_5 a1_6 a1_7 a1_8 a1_9 a1_10 a1_11 l1_12 a1_13) else (none))) else (decorumref18_Eligible.j1 kj2 0 y109 a1_0 a1_1 a1_2 a1_3 a1_4 a1_5 a1_6 a1_7 a1_8 a1_9 a1_10 a1_11 l1_12 a1_13)) = some r := by first | (rw [hy109]; with_reducible exact H) | (have H2_ := (Option.bind_some _ _).symm.trans H; rw [hy109]; with_reducible exact H2_) | (have H2_ := (Option.bind_some _ _).symm.trans H; with_reducible exact H2_) | with_reducible exact H | (rw [hy109]; exact H) | exact H
        have Ny109 := Aside0.mk hy109
        clear hy109
        have HC18 := Aside0.mk H
        clear H
        have hnb19 := NB108_107.out
        have hnc19 := NB107_108.out
        have hcz20_0 : wc.cell? ⟨gb108, 0, none⟩ = some (.int .i64 a1_0) := (blk_cell BK108.out 0).trans rfl
        have hcz20_1 : wc.cell? ⟨gb108, 1, none⟩ = some (.int .i64 a1_1) := (blk_cell BK108.out 1).trans rfl
        have hcz20_2 : wc.cell? ⟨gb108, 2, none⟩ = some (.int .i64 a1_2) := (blk_cell BK108.out 2).trans rfl
        have hcz20_3 : wc.cell? ⟨gb108, 3, none⟩ = some (.int .i64 a1_3) := (blk_cell BK108.out 3).trans rfl
        have hcz20_4 : wc.cell? ⟨gb108, 4, none⟩ = some (.int .i64 a1_4) := (blk_cell BK108.out 4).trans rfl
        have hcz20_5 : wc.cell? ⟨gb108, 5, none⟩ = some (.int .i64 a1_5) := (blk_cell BK108.out 5).trans rfl
        have hcz20_6 : wc.cell? ⟨gb108, 6, none⟩ = some (.int .i64 a1_6) := (blk_cell BK108.out 6).trans rfl
        have hcz20_7 : wc.cell? ⟨gb108, 7, none⟩ = some (.int .i64 a1_7) := (blk_cell BK108.out 7).trans rfl
        have hcz20_8 : wc.cell? ⟨gb108, 8, none⟩ = some (.int .i64 a1_8) := (blk_cell BK108.out 8).trans rfl
        have hcz20_9 : wc.cell? ⟨gb108, 9, none⟩ = some (.int .i64 a1_9) := (blk_cell BK108.out 9).trans rfl
        have hcz20_10 : wc.cell? ⟨gb108, 10, none⟩ = some (.bool a1_10) := (blk_cell BK108.out 10).trans rfl
        have hcz20_11 : wc.cell? ⟨gb108, 11, none⟩ = some (.bool a1_11) := (blk_cell BK108.out 11).trans rfl
        have hcz20_12 : wc.cell? ⟨gb108, 12, none⟩ = some (.slice A1_12 l1_12.length c1_12) := (blk_cell BK108.out 12).trans rfl
        have hcz20_13 : wc.cell? ⟨gb108, 13, none⟩ = some (.int .i64 a1_13) := (blk_cell BK108.out 13).trans rfl
        have hfz20_0 := blk_frozen BK108.out 0
        have hfz20_1 := blk_frozen BK108.out 1
        have hfz20_2 := blk_frozen BK108.out 2
        have hfz20_3 := blk_frozen BK108.out 3
        have hfz20_4 := blk_frozen BK108.out 4
        have hfz20_5 := blk_frozen BK108.out 5
        have hfz20_6 := blk_frozen BK108.out 6
        have hfz20_7 := blk_frozen BK108.out 7
        have hfz20_8 := blk_frozen BK108.out 8
        have hfz20_9 := blk_frozen BK108.out 9
        have hfz20_10 := blk_frozen BK108.out 10
        have hfz20_11 := blk_frozen BK108.out 11
        have hfz20_12 := blk_frozen BK108.out 12
        have hfz20_13 := blk_frozen BK108.out 13
        go_upto_if 30 with (first | ((with_reducible refine gate_dst (N := 27) rfl ?_); refine Kd.R_lit (Kd.int .i64) _ 3 ?hg (N := 27) ?hd (xs := ([a1_6, a1_7] : List Int)) (inner := [.int .i64 a1_6, .int .i64 a1_7]) (ok := fun _ => True) (okp := fun _ => True) ?hr ?hp (fun _ hk => hk) trivial (Below.refl _ _) (Nat.le_refl _) (by simp) ?_; (case hd => rfl); (case hg => rfl); (case hr => first | (go_simp; done) | (go_simp; rfl)); (case hp => exact (Reps.one (show Kd.M (Kd.int .i64) _ _ _ a1_6 [.int .i64 a1_6] from rfl) (Reps.one (show Kd.M (Kd.int .i64) _ _ _ a1_7 [.int .i64 a1_7] from rfl) (Reps.none _ _)))); intro v110 w21 ho22 hb hg_ hnew_; clear hg_ hnew_; (first | rw [← Ny109.out] at ho22 | (simp only [Int.reduceToNat] at ho22; rw [← Ny109.out] at ho22)); have n0_ := Aside0.mk (Kd.R_lower ho22 (below_size (by repeat (first | (with_reducible first | exact HB.out | apply below_alloc | apply pw_below_drewN | apply below_drew1 | refine below_set ?_ GE107.out | refine below_set ?_ GE108.out) | exact HB.out)))); have n1_ := Aside0.mk (blk_below (g := gb107) (o := .cells #[.int .i64 a0_0, .int .i64 a0_1, .int .i64 a0_2, .int .i64 a0_3, .int .i64 a0_4, .int .i64 a0_5, .int .i64 a0_6, .int .i64 a0_7, .int .i64 a0_8, .int .i64 a0_9, .int .i64 a0_10, .int .i64 a0_11, .int .i64 a0_12, .string a0_13] 23 (0, 0)) (by (with_reducible repeat (first | refine blk_drewN ?_ _ | refine blk_drew ?_ | refine blk_alloc ?_ _)); exact BK107.out) hb); have n2_ := Aside0.mk (blk_below (g := gb108) (o := .cells #[.int .i64 a1_0, .int .i64 a1_1, .int .i64 a1_2, .int .i64 a1_3, .int .i64 a1_4, .int .i64 a1_5, .int .i64 a1_6, .int .i64 a1_7, .int .i64 a1_8, .int .i64 a1_9, .bool a1_10, .bool a1_11, .slice A1_12 l1_12.length c1_12, .int .i64 a1_13] 28 (0, 0)) (by (with_reducible repeat (first | refine blk_drewN ?_ _ | refine blk_drew ?_ | refine blk_alloc ?_ _)); exact BK108.out) hb); have n3_ := Aside0.mk (below_step (by repeat (first | (with_reducible first | exact HB.out | apply below_alloc | apply pw_below_drewN | apply below_drew1 | refine below_set ?_ GE107.out | refine below_set ?_ GE108.out) | exact HB.out)) hb); clear BK107; clear BK108; clear HB; have HO111 := n0_; have BK107 := n1_; have BK108 := n2_; have HB := n3_; clear n0_ n1_ n2_ n3_; clear hb ho22; have hcz23_0 : w21.cell? ⟨gb108, 0, none⟩ = some (.int .i64 a1_0) := (blk_cell BK108.out 0).trans rfl; have hcz23_1 : w21.cell? ⟨gb108, 1, none⟩ = some (.int .i64 a1_1) := (blk_cell BK108.out 1).trans rfl; have hcz23_2 : w21.cell? ⟨gb108, 2, none⟩ = some (.int .i64 a1_2) := (blk_cell BK108.out 2).trans rfl; have hcz23_3 : w21.cell? ⟨gb108, 3, none⟩ = some (.int .i64 a1_3) := (blk_cell BK108.out 3).trans rfl; have hcz23_4 : w21.cell? ⟨gb108, 4, none⟩ = some (.int .i64 a1_4) := (blk_cell BK108.out 4).trans rfl; have hcz23_5 : w21.cell? ⟨gb108, 5, none⟩ = some (.int .i64 a1_5) := (blk_cell BK108.out 5).trans rfl; have hcz23_6 : w21.cell? ⟨gb108, 6, none⟩ = some (.int .i64 a1_6) := (blk_cell BK108.out 6).trans rfl; have hcz23_7 : w21.cell? ⟨gb108, 7, none⟩ = some (.int .i64 a1_7) := (blk_cell BK108.out 7).trans rfl; have hcz23_8 : w21.cell? ⟨gb108, 8, none⟩ = some (.int .i64 a1_8) := (blk_cell BK108.out 8).trans rfl; have hcz23_9 : w21.cell? ⟨gb108, 9, none⟩ = some (.int .i64 a1_9) := (blk_cell BK108.out 9).trans rfl; have hcz23_10 : w21.cell? ⟨gb108, 10, none⟩ = some (.bool a1_10) := (blk_cell BK108.out 10).trans rfl; have hcz23_11 : w21.cell? ⟨gb108, 11, none⟩ = some (.bool a1_11) := (blk_cell BK108.out 11).trans rfl; have hcz23_12 : w21.cell? ⟨gb108, 12, none⟩ = some (.slice A1_12 l1_12.length c1_12) := (blk_cell BK108.out 12).trans rfl; have hcz23_13 : w21.cell? ⟨gb108, 13, none⟩ = some (.int .i64 a1_13) := (blk_cell BK108.out 13).trans rfl; have hfz23_0 := blk_frozen BK108.out 0; have hfz23_1 := blk_frozen BK108.out 1; have hfz23_2 := blk_frozen BK108.out 2; have hfz23_3 := blk_frozen BK108.out 3; have hfz23_4 := blk_frozen BK108.out 4; have hfz23_5 := blk_frozen BK108.out 5; have hfz23_6 := blk_frozen BK108.out 6; have hfz23_7 := blk_frozen BK108.out 7; have hfz23_8 := blk_frozen BK108.out 8; have hfz23_9 := blk_frozen BK108.out 9; have hfz23_10 := blk_frozen BK108.out 10; have hfz23_11 := blk_frozen BK108.out 11; have hfz23_12 := blk_frozen BK108.out 12; have hfz23_13 := blk_frozen BK108.out 13))
        (try simp only [Act.put, List.setIfInBounds_toArray, List.set_cons_zero, List.set_cons_succ])
        go_cut [6] (fun v6 wc => ∃ (kq : Nat) (x6_17 : List Int), Aside0 (decorumref18_Eligible.j1 kq 0 x6_17 a1_0 a1_1 a1_2 a1_3 a1_4 a1_5 a1_6 a1_7 a1_8 a1_9 a1_10 a1_11 l1_12 a1_13 = some r) ∧ Aside0 (kq ≤ kj2) ∧ Aside0 (Kd.R (Kd.int .i64) 3 wc w.heap.size (fun _ => True) v6 x6_17) ∧ Aside0 (wc.heap[gb107]? = some (.cells #[.int .i64 a0_0, .int .i64 a0_1, .int .i64 a0_2, .int .i64 a0_3, .int .i64 a0_4, .int .i64 a0_5, .int .i64 a0_6, .int .i64 a0_7, .int .i64 a0_8, .int .i64 a0_9, .int .i64 a0_10, .int .i64 a0_11, .int .i64 a0_12, .string a0_13] 23 (0, 0))) ∧ Aside0 (wc.heap[gb108]? = some (.cells #[.int .i64 a1_0, .int .i64 a1_1, .int .i64 a1_2, .int .i64 a1_3, .int .i64 a1_4, .int .i64 a1_5, .int .i64 a1_6, .int .i64 a1_7, .int .i64 a1_8, .int .i64 a1_9, .bool a1_10, .bool a1_11, (.slice A1_12 l1_12.length c1_12), .int .i64 a1_13] 28 (0, 0))) ∧ Aside0 (Below w.heap.size w wc))
        case first =>
          have H := HC18.out
          clear HC18
          by_cases c24 : a1_0 ≥ 0
          · rw [if_pos c24] at H
            have c24b0 : decide (0 ≤ a1_0) = true := decide_eq_true c24
            clear c24
            (first | rw [c24b0] | (simp only [i64_w, i32_w]; rw [c24b0]) | skip)
            replace H := Option.bind_eq_some_iff.mp H
            obtain ⟨t112, A250, H⟩ := H
            replace H : (if y109.length < 17592186044416 then (decorumref18_Eligible.j1 kj2 0 (y109 ++ [t112]) a1_0 a1_1 a1_2 a1_3 a1_4 a1_5 a1_6 a1_7 a1_8 a1_9 a1_10 a1_11 l1_12 a1_13) else (none)) = some r := H
            have A25 := Aside0.mk A250
            clear A250
            by_cases c26 : y109.length < 17592186044416
            · rw [if_pos c26] at H
              have LMc26 := Aside0.mk c26
              clear c26
              obtain ⟨y113, hy113⟩ : ∃ y_ : List Int, y_ = (y109 ++ [t112]) := ⟨_, rfl⟩
              replace H : (decorumref18_Eligible.j1 kj2 0 y113 a1_0 a1_1 a1_2 a1_3 a1_4 a1_5 a1_6 a1_7 a1_8 a1_9 a1_10 a1_11 l1_12 a1_13) = some r := by first | (rw [hy113]; with_reducible exact H) | (have H2_ := (Option.bind_some _ _).symm.trans H; rw [hy113]; with_reducible exact H2_) | (have H2_ := (Option.bind_some _ _).symm.trans H; with_reducible exact H2_) | with_reducible exact H | (rw [hy113]; exact H) | exact H
              have Ny113 := Aside0.mk hy113
              clear hy113
              have H' := Aside0.mk H
              clear H
              have hnb27 := NB108_107.out
              have hnc27 := NB107_108.out
              have hcz28_0 : w21.cell? ⟨gb108, 0, none⟩ = some (.int .i64 a1_0) := (blk_cell BK108.out 0).trans rfl
              have hcz28_1 : w21.cell? ⟨gb108, 1, none⟩ = some (.int .i64 a1_1) := (blk_cell BK108.out 1).trans rfl
              have hcz28_2 : w21.cell? ⟨gb108, 2, none⟩ = some (.int .i64 a1_2) := (blk_cell BK108.out 2).trans rfl
              have hcz28_3 : w21.cell? ⟨gb108, 3, none⟩ = some (.int .i64 a1_3) := (blk_cell BK108.out 3).trans rfl
              have hcz28_4 : w21.cell? ⟨gb108, 4, none⟩ = some (.int .i64 a1_4) := (blk_cell BK108.out 4).trans rfl
              have hcz28_5 : w21.cell? ⟨gb108, 5, none⟩ = some (.int .i64 a1_5) := (blk_cell BK108.out 5).trans rfl
              have hcz28_6 : w21.cell? ⟨gb108, 6, none⟩ = some (.int .i64 a1_6) := (blk_cell BK108.out 6).trans rfl
              have hcz28_7 : w21.cell? ⟨gb108, 7, none⟩ = some (.int .i64 a1_7) := (blk_cell BK108.out 7).trans rfl
              have hcz28_8 : w21.cell? ⟨gb108, 8, none⟩ = some (.int .i64 a1_8) := (blk_cell BK108.out 8).trans rfl
              have hcz28_9 : w21.cell? ⟨gb108, 9, none⟩ = some (.int .i64 a1_9) := (blk_cell BK108.out 9).trans rfl
              have hcz28_10 : w21.cell? ⟨gb108, 10, none⟩ = some (.bool a1_10) := (blk_cell BK108.out 10).trans rfl
              have hcz28_11 : w21.cell? ⟨gb108, 11, none⟩ = some (.bool a1_11) := (blk_cell BK108.out 11).trans rfl
              have hcz28_12 : w21.cell? ⟨gb108, 12, none⟩ = some (.slice A1_12 l1_12.length c1_12) := (blk_cell BK108.out 12).trans rfl
              have hcz28_13 : w21.cell? ⟨gb108, 13, none⟩ = some (.int .i64 a1_13) := (blk_cell BK108.out 13).trans rfl
              have hfz28_0 := blk_frozen BK108.out 0
              have hfz28_1 := blk_frozen BK108.out 1
              have hfz28_2 := blk_frozen BK108.out 2
              have hfz28_3 := blk_frozen BK108.out 3
              have hfz28_4 := blk_frozen BK108.out 4
              have hfz28_5 := blk_frozen BK108.out 5
              have hfz28_6 := blk_frozen BK108.out 6
              have hfz28_7 := blk_frozen BK108.out 7
              have hfz28_8 := blk_frozen BK108.out 8
              have hfz28_9 := blk_frozen BK108.out 9
              have hfz28_10 := blk_frozen BK108.out 10
              have hfz28_11 := blk_frozen BK108.out 11
              have hfz28_12 := blk_frozen BK108.out 12
              have hfz28_13 := blk_frozen BK108.out 13
              go_wp2_with (first | ((with_reducible refine gate_callee (f := 26) rfl ?_); refine goesL_ (some 36) rfl rfl Try.func26 (by kernel_rfl) rfl #[.int .i64 a1_0, .int .i64 a1_1] rfl (by (try simp only [List.map_toArray, List.map_cons, List.map_nil]); first | done | rfl | (simp only [List.length_drop, List.length_take]; rfl)) ?_; (with_reducible refine (decorumref01_Add.calls kj2 a1_0 a1_1 t112 _ A25.out).mono ?_); rintro e w' ⟨rfl, ⟨nd, rfl⟩⟩; refine ⟨_, rfl, ?_⟩) | ((with_reducible refine gate_builtin (b := .append) (xs := #[.tmp 31, .tmp 37]) rfl ?_); at_builtin; refine Kd.R_append (Kd.int .i64) (w0 := w) w.heap.size rfl (.tmp 31) (.tmp 37) 53 3 (.int .i64 0) 8 rfl Try.underlying53 info3 rfl (by decide) (by omega) v110 y109 t112 [.int .i64 t112] (fun _ => True) (fun _ => False) rfl rfl ?aP (fun _ hk => hk.elim) ?aF ?aO ?aB ?aS ?aL ?_; (case aP => exact rfl); (case aB => exact (by repeat (first | (with_reducible first | exact HB.out | apply below_alloc | apply pw_below_drewN | apply below_drew1 | refine below_set ?_ GE107.out | refine below_set ?_ GE108.out) | exact HB.out))); (case aF => exact (fun _ _ => trivial)); (case aO => exact (by (with_reducible repeat (first | apply Kd.R_alloc | apply Kd.R_drewN | apply Kd.R_drew)); exact HO111.out)); (case aS => exact (below_size (by repeat (first | (with_reducible first | exact HB.out | apply below_alloc | apply pw_below_drewN | apply below_drew1 | refine below_set ?_ GE107.out | refine below_set ?_ GE108.out) | exact HB.out)))); (case aL => have := LMc26.out; omega); intro v114 w29 ho hb hg hat; rw [← Ny113.out] at ho; have n0_ := Aside0.mk (blk_grown (g := gb107) (o := .cells #[.int .i64 a0_0, .int .i64 a0_1, .int .i64 a0_2, .int .i64 a0_3, .int .i64 a0_4, .int .i64 a0_5, .int .i64 a0_6, .int .i64 a0_7, .int .i64 a0_8, .int .i64 a0_9, .int .i64 a0_10, .int .i64 a0_11, .int .i64 a0_12, .string a0_13] 23 (0, 0)) (by (with_reducible repeat (first | refine blk_drewN ?_ _ | refine blk_drew ?_ | refine blk_alloc ?_ _)); exact BK107.out) hg (Kd.R_ne HO111.out BK107.out (by decide))); have n1_ := Aside0.mk (blk_grown (g := gb108) (o := .cells #[.int .i64 a1_0, .int .i64 a1_1, .int .i64 a1_2, .int .i64 a1_3, .int .i64 a1_4, .int .i64 a1_5, .int .i64 a1_6, .int .i64 a1_7, .int .i64 a1_8, .int .i64 a1_9, .bool a1_10, .bool a1_11, .slice A1_12 l1_12.length c1_12, .int .i64 a1_13] 28 (0, 0)) (by (with_reducible repeat (first | refine blk_drewN ?_ _ | refine blk_drew ?_ | refine blk_alloc ?_ _)); exact BK108.out) hg (Kd.R_ne HO111.out BK108.out (by decide))); have n2_ := Aside0.mk (hb); have n3_ := Aside0.mk (ho); clear BK107; clear BK108; clear HB; clear HO111; have BK107 := n0_; have BK108 := n1_; have HB := n2_; have HO115 := n3_; clear n0_ n1_ n2_ n3_; clear ho hb hg hat))
              go_meet
              case rel => exact ⟨_, (y113), H', ⟨by have := HJ2.out; first | omega | exact Nat.le_refl _⟩, ⟨by (with_reducible repeat (first | apply Kd.R_alloc | apply Kd.R_drewN | apply Kd.R_drew)); exact HO115.out⟩, ⟨by (with_reducible repeat (first | refine blk_drewN ?_ _ | refine blk_drew ?_ | refine blk_alloc ?_ _)); exact BK107.out⟩, ⟨by (with_reducible repeat (first | refine blk_drewN ?_ _ | refine blk_drew ?_ | refine blk_alloc ?_ _)); exact BK108.out⟩, ⟨by repeat (first | (with_reducible first | exact HB.out | apply below_alloc | apply pw_below_drewN | apply below_drew1 | refine below_set ?_ GE107.out | refine below_set ?_ GE108.out) | exact HB.out)⟩⟩
            · rw [if_neg c26] at H
              exact absurd H (by simp)
          · rw [if_neg c24] at H
            have c24b0 : decide (0 ≤ a1_0) = false := decide_eq_false c24
            clear c24
            (first | rw [c24b0] | (simp only [i64_w, i32_w]; rw [c24b0]) | skip)
            have H' := Aside0.mk H
            clear H
            go_wp2
            go_meet
            case rel => exact ⟨_, (y109), H', ⟨by have := HJ2.out; first | omega | exact Nat.le_refl _⟩, ⟨by (with_reducible repeat (first | apply Kd.R_alloc | apply Kd.R_drewN | apply Kd.R_drew)); exact HO111.out⟩, ⟨by (with_reducible repeat (first | refine blk_drewN ?_ _ | refine blk_drew ?_ | refine blk_alloc ?_ _)); exact BK107.out⟩, ⟨by (with_reducible repeat (first | refine blk_drewN ?_ _ | refine blk_drew ?_ | refine blk_alloc ?_ _)); exact BK108.out⟩, ⟨by repeat (first | (with_reducible first | exact HB.out | apply below_alloc | apply pw_below_drewN | apply below_drew1 | refine below_set ?_ GE107.out | refine below_set ?_ GE108.out) | exact HB.out)⟩⟩
        case rest =>
          clear HC18
          try clear c1
          try clear c2
          try clear p2
          try clear c6
          try clear c6b0
          try clear p6
          try clear c7
          try clear c10
          try clear c10b0
          try clear c10b1
          try clear c11
          try clear c14
          try clear c17
          try clear c19
          try clear c24
          try clear c24b0
          try clear c26
          try clear c27
          try clear hcz12_0
          try clear hcz12_1
          try clear hcz12_10
          try clear hcz12_11
          try clear hcz12_12
          try clear hcz12_13
          try clear hcz12_2
          try clear hcz12_3
          try clear hcz12_4
          try clear hcz12_5
          try clear hcz12_6
          try clear hcz12_7
          try clear hcz12_8
          try clear hcz12_9
          try clear hcz13_0
          try clear hcz13_1
          try clear hcz13_10
          try clear hcz13_11
          try clear hcz13_12
          try clear hcz13_13
          try clear hcz13_2
          try clear hcz13_3
          try clear hcz13_4
          try clear hcz13_5
          try clear hcz13_6
          try clear hcz13_7
          try clear hcz13_8
          try clear hcz13_9
          try clear hcz15_0
          try clear hcz15_1
          try clear hcz15_10
          try clear hcz15_11
          try clear hcz15_12
          try clear hcz15_13
          try clear hcz15_2
          try clear hcz15_3
          try clear hcz15_4
          try clear hcz15_5
          try clear hcz15_6
          try clear hcz15_7
          try clear hcz15_8
          try clear hcz15_9
          try clear hcz16_0
          try clear hcz16_1
          try clear hcz16_10
          try clear hcz16_11
          try clear hcz16_12
          try clear hcz16_13
          try clear hcz16_2
          try clear hcz16_3
          try clear hcz16_4
          try clear hcz16_5
          try clear hcz16_6
          try clear hcz16_7
          try clear hcz16_8
          try clear hcz16_9
          try clear hcz20_0
          try clear hcz20_1
          try clear hcz20_10
          try clear hcz20_11
          try clear hcz20_12
          try clear hcz20_13
          try clear hcz20_2
          try clear hcz20_3
          try clear hcz20_4
          try clear hcz20_5
          try clear hcz20_6
          try clear hcz20_7
          try clear hcz20_8
          try clear hcz20_9
          try clear hcz23_0
          try clear hcz23_1
          try clear hcz23_10
          try clear hcz23_11
          try clear hcz23_12
          try clear hcz23_13
          try clear hcz23_2
          try clear hcz23_3
          try clear hcz23_4
          try clear hcz23_5
          try clear hcz23_6
          try clear hcz23_7
          try clear hcz23_8
          try clear hcz23_9
          try clear hcz28_0
          try clear hcz28_1
          try clear hcz28_10
          try clear hcz28_11
          try clear hcz28_12
          try clear hcz28_13
          try clear hcz28_2
          try clear hcz28_3
          try clear hcz28_4
          try clear hcz28_5
          try clear hcz28_6
          try clear hcz28_7
          try clear hcz28_8
          try clear hcz28_9
          try clear hcz8_0
          try clear hcz8_1
          try clear hcz8_10
          try clear hcz8_11
          try clear hcz8_12
          try clear hcz8_13
          try clear hcz8_2
          try clear hcz8_3
          try clear hcz8_4
          try clear hcz8_5
          try clear hcz8_6
          try clear hcz8_7
          try clear hcz8_8
          try clear hcz8_9
          try clear hcz9_0
          try clear hcz9_1
          try clear hcz9_10
          try clear hcz9_11
          try clear hcz9_12
          try clear hcz9_13
          try clear hcz9_2
          try clear hcz9_3
          try clear hcz9_4
          try clear hcz9_5
          try clear hcz9_6
          try clear hcz9_7
          try clear hcz9_8
          try clear hcz9_9
          try clear hfz12_0
          try clear hfz12_1
          try clear hfz12_10
          try clear hfz12_11
          try clear hfz12_12
          try clear hfz12_13
          try clear hfz12_2
          try clear hfz12_3
          try clear hfz12_4
          try clear hfz12_5
          try clear hfz12_6
          try clear hfz12_7
          try clear hfz12_8
          try clear hfz12_9
          try clear hfz13_0
          try clear hfz13_1
          try clear hfz13_10
          try clear hfz13_11
          try clear hfz13_12
          try clear hfz13_13
          try clear hfz13_2
          try clear hfz13_3
          try clear hfz13_4
          try clear hfz13_5
          try clear hfz13_6
          try clear hfz13_7
          try clear hfz13_8
          try clear hfz13_9
          try clear hfz15_0
          try clear hfz15_1
          try clear hfz15_10
          try clear hfz15_11
          try clear hfz15_12
          try clear hfz15_13
          try clear hfz15_2
          try clear hfz15_3
          try clear hfz15_4
          try clear hfz15_5
          try clear hfz15_6
          try clear hfz15_7
          try clear hfz15_8
          try clear hfz15_9
          try clear hfz16_0
          try clear hfz16_1
          try clear hfz16_10
          try clear hfz16_11
          try clear hfz16_12
          try clear hfz16_13
          try clear hfz16_2
          try clear hfz16_3
          try clear hfz16_4
          try clear hfz16_5
          try clear hfz16_6
          try clear hfz16_7
          try clear hfz16_8
          try clear hfz16_9
          try clear hfz20_0
          try clear hfz20_1
          try clear hfz20_10
          try clear hfz20_11
          try clear hfz20_12
          try clear hfz20_13
          try clear hfz20_2
          try clear hfz20_3
          try clear hfz20_4
          try clear hfz20_5
          try clear hfz20_6
          try clear hfz20_7
          try clear hfz20_8
          try clear hfz20_9
          try clear hfz23_0
          try clear hfz23_1
          try clear hfz23_10
          try clear hfz23_11
          try clear hfz23_12
          try clear hfz23_13
          try clear hfz23_2
          try clear hfz23_3
          try clear hfz23_4
          try clear hfz23_5
          try clear hfz23_6
          try clear hfz23_7
          try clear hfz23_8
          try clear hfz23_9
          try clear hfz28_0
          try clear hfz28_1
          try clear hfz28_10
          try clear hfz28_11
          try clear hfz28_12
          try clear hfz28_13
          try clear hfz28_2
          try clear hfz28_3
          try clear hfz28_4
          try clear hfz28_5
          try clear hfz28_6
          try clear hfz28_7
          try clear hfz28_8
          try clear hfz28_9
          try clear hfz8_0
          try clear hfz8_1
          try clear hfz8_10
          try clear hfz8_11
          try clear hfz8_12
          try clear hfz8_13
          try clear hfz8_2
          try clear hfz8_3
          try clear hfz8_4
          try clear hfz8_5
          try clear hfz8_6
          try clear hfz8_7
          try clear hfz8_8
          try clear hfz8_9
          try clear hfz9_0
          try clear hfz9_1
          try clear hfz9_10
          try clear hfz9_11
          try clear hfz9_12
          try clear hfz9_13
          try clear hfz9_2
          try clear hfz9_3
          try clear hfz9_4
          try clear hfz9_5
          try clear hfz9_6
          try clear hfz9_7
          try clear hfz9_8
          try clear hfz9_9
          try clear p2
          obtain ⟨kq, x6_17, HA, HJ17, HO_6, BK107, BK108, HB⟩ := hcut
          cases kq with
          | zero => exact absurd HA.out (by simp [decorumref18_Eligible.j1])
          | succ kj17 =>
            have H := HA.out
            clear HA
            simp only [decorumref18_Eligible.j1] at H
            have HC30 := Aside0.mk H
            clear H
            have hnb31 := NB108_107.out
            have hnc31 := NB107_108.out
            have hcz32_0 : wc.cell? ⟨gb108, 0, none⟩ = some (.int .i64 a1_0) := (blk_cell BK108.out 0).trans rfl
            have hcz32_1 : wc.cell? ⟨gb108, 1, none⟩ = some (.int .i64 a1_1) := (blk_cell BK108.out 1).trans rfl
            have hcz32_2 : wc.cell? ⟨gb108, 2, none⟩ = some (.int .i64 a1_2) := (blk_cell BK108.out 2).trans rfl
            have hcz32_3 : wc.cell? ⟨gb108, 3, none⟩ = some (.int .i64 a1_3) := (blk_cell BK108.out 3).trans rfl
            have hcz32_4 : wc.cell? ⟨gb108, 4, none⟩ = some (.int .i64 a1_4) := (blk_cell BK108.out 4).trans rfl
            have hcz32_5 : wc.cell? ⟨gb108, 5, none⟩ = some (.int .i64 a1_5) := (blk_cell BK108.out 5).trans rfl
            have hcz32_6 : wc.cell? ⟨gb108, 6, none⟩ = some (.int .i64 a1_6) := (blk_cell BK108.out 6).trans rfl
            have hcz32_7 : wc.cell? ⟨gb108, 7, none⟩ = some (.int .i64 a1_7) := (blk_cell BK108.out 7).trans rfl
            have hcz32_8 : wc.cell? ⟨gb108, 8, none⟩ = some (.int .i64 a1_8) := (blk_cell BK108.out 8).trans rfl
            have hcz32_9 : wc.cell? ⟨gb108, 9, none⟩ = some (.int .i64 a1_9) := (blk_cell BK108.out 9).trans rfl
            have hcz32_10 : wc.cell? ⟨gb108, 10, none⟩ = some (.bool a1_10) := (blk_cell BK108.out 10).trans rfl
            have hcz32_11 : wc.cell? ⟨gb108, 11, none⟩ = some (.bool a1_11) := (blk_cell BK108.out 11).trans rfl
            have hcz32_12 : wc.cell? ⟨gb108, 12, none⟩ = some (.slice A1_12 l1_12.length c1_12) := (blk_cell BK108.out 12).trans rfl
            have hcz32_13 : wc.cell? ⟨gb108, 13, none⟩ = some (.int .i64 a1_13) := (blk_cell BK108.out 13).trans rfl
            have hfz32_0 := blk_frozen BK108.out 0
            have hfz32_1 := blk_frozen BK108.out 1
            have hfz32_2 := blk_frozen BK108.out 2
            have hfz32_3 := blk_frozen BK108.out 3
            have hfz32_4 := blk_frozen BK108.out 4
            have hfz32_5 := blk_frozen BK108.out 5
            have hfz32_6 := blk_frozen BK108.out 6
            have hfz32_7 := blk_frozen BK108.out 7
            have hfz32_8 := blk_frozen BK108.out 8
            have hfz32_9 := blk_frozen BK108.out 9
            have hfz32_10 := blk_frozen BK108.out 10
            have hfz32_11 := blk_frozen BK108.out 11
            have hfz32_12 := blk_frozen BK108.out 12
            have hfz32_13 := blk_frozen BK108.out 13
            go_upto_if 41 with (fail)
            go_cut [6] (fun v6 wc => ∃ (kq : Nat) (x6_29 : List Int), Aside0 (decorumref18_Eligible.j2 kq 0 x6_29 = some r) ∧ Aside0 (kq ≤ kj17) ∧ Aside0 (Kd.R (Kd.int .i64) 3 wc w.heap.size (fun _ => True) v6 x6_29) ∧ Aside0 (wc.heap[gb107]? = some (.cells #[.int .i64 a0_0, .int .i64 a0_1, .int .i64 a0_2, .int .i64 a0_3, .int .i64 a0_4, .int .i64 a0_5, .int .i64 a0_6, .int .i64 a0_7, .int .i64 a0_8, .int .i64 a0_9, .int .i64 a0_10, .int .i64 a0_11, .int .i64 a0_12, .string a0_13] 23 (0, 0))) ∧ Aside0 (wc.heap[gb108]? = some (.cells #[.int .i64 a1_0, .int .i64 a1_1, .int .i64 a1_2, .int .i64 a1_3, .int .i64 a1_4, .int .i64 a1_5, .int .i64 a1_6, .int .i64 a1_7, .int .i64 a1_8, .int .i64 a1_9, .bool a1_10, .bool a1_11, (.slice A1_12 l1_12.length c1_12), .int .i64 a1_13] 28 (0, 0))) ∧ Aside0 (Below w.heap.size w wc))
            case first =>
              have H := HC30.out
              clear HC30
              by_cases c33 : a1_4 = 1
              · rw [if_pos c33] at H
                have c33b0 : (a1_4 == 1) = true := beq_iff_eq.mpr c33
                have c33b1 : (a1_4 != 1) = false := bne_eq_false_iff_eq.mpr c33
                clear c33
                (first | rw [c33b0] | (simp only [i64_w, i32_w]; rw [c33b0]) | skip)
                by_cases c34 : x6_17.length < 17592186044416
                · rw [if_pos c34] at H
                  have LMc34 := Aside0.mk c34
                  clear c34
                  obtain ⟨y116, hy116⟩ : ∃ y_ : List Int, y_ = (x6_17 ++ [a1_5]) := ⟨_, rfl⟩
                  replace H : (decorumref18_Eligible.j2 kj17 0 y116) = some r := by first | (rw [hy116]; with_reducible exact H) | (have H2_ := (Option.bind_some _ _).symm.trans H; rw [hy116]; with_reducible exact H2_) | (have H2_ := (Option.bind_some _ _).symm.trans H; with_reducible exact H2_) | with_reducible exact H | (rw [hy116]; exact H) | exact H
                  have Ny116 := Aside0.mk hy116
                  clear hy116
                  have H' := Aside0.mk H
                  clear H
                  have hnb35 := NB108_107.out
                  have hnc35 := NB107_108.out
                  have hcz36_0 : wc.cell? ⟨gb108, 0, none⟩ = some (.int .i64 a1_0) := (blk_cell BK108.out 0).trans rfl
                  have hcz36_1 : wc.cell? ⟨gb108, 1, none⟩ = some (.int .i64 a1_1) := (blk_cell BK108.out 1).trans rfl
                  have hcz36_2 : wc.cell? ⟨gb108, 2, none⟩ = some (.int .i64 a1_2) := (blk_cell BK108.out 2).trans rfl
                  have hcz36_3 : wc.cell? ⟨gb108, 3, none⟩ = some (.int .i64 a1_3) := (blk_cell BK108.out 3).trans rfl
                  have hcz36_4 : wc.cell? ⟨gb108, 4, none⟩ = some (.int .i64 a1_4) := (blk_cell BK108.out 4).trans rfl
                  have hcz36_5 : wc.cell? ⟨gb108, 5, none⟩ = some (.int .i64 a1_5) := (blk_cell BK108.out 5).trans rfl
                  have hcz36_6 : wc.cell? ⟨gb108, 6, none⟩ = some (.int .i64 a1_6) := (blk_cell BK108.out 6).trans rfl
                  have hcz36_7 : wc.cell? ⟨gb108, 7, none⟩ = some (.int .i64 a1_7) := (blk_cell BK108.out 7).trans rfl
                  have hcz36_8 : wc.cell? ⟨gb108, 8, none⟩ = some (.int .i64 a1_8) := (blk_cell BK108.out 8).trans rfl
                  have hcz36_9 : wc.cell? ⟨gb108, 9, none⟩ = some (.int .i64 a1_9) := (blk_cell BK108.out 9).trans rfl
                  have hcz36_10 : wc.cell? ⟨gb108, 10, none⟩ = some (.bool a1_10) := (blk_cell BK108.out 10).trans rfl
                  have hcz36_11 : wc.cell? ⟨gb108, 11, none⟩ = some (.bool a1_11) := (blk_cell BK108.out 11).trans rfl
                  have hcz36_12 : wc.cell? ⟨gb108, 12, none⟩ = some (.slice A1_12 l1_12.length c1_12) := (blk_cell BK108.out 12).trans rfl
                  have hcz36_13 : wc.cell? ⟨gb108, 13, none⟩ = some (.int .i64 a1_13) := (blk_cell BK108.out 13).trans rfl
                  have hfz36_0 := blk_frozen BK108.out 0
                  have hfz36_1 := blk_frozen BK108.out 1
                  have hfz36_2 := blk_frozen BK108.out 2
                  have hfz36_3 := blk_frozen BK108.out 3
                  have hfz36_4 := blk_frozen BK108.out 4
                  have hfz36_5 := blk_frozen BK108.out 5
                  have hfz36_6 := blk_frozen BK108.out 6
                  have hfz36_7 := blk_frozen BK108.out 7
                  have hfz36_8 := blk_frozen BK108.out 8
                  have hfz36_9 := blk_frozen BK108.out 9
                  have hfz36_10 := blk_frozen BK108.out 10
                  have hfz36_11 := blk_frozen BK108.out 11
                  have hfz36_12 := blk_frozen BK108.out 12
                  have hfz36_13 := blk_frozen BK108.out 13
                  go_wp2_with (first | ((with_reducible refine gate_builtin (b := .append) (xs := #[.tmp 42, .tmp 45]) rfl ?_); at_builtin; refine Kd.R_append (Kd.int .i64) (w0 := w) w.heap.size rfl (.tmp 42) (.tmp 45) 53 3 (.int .i64 0) 8 rfl Try.underlying53 info3 rfl (by decide) (by omega) u6 x6_17 a1_5 [.int .i64 a1_5] (fun _ => True) (fun _ => False) rfl rfl ?aP (fun _ hk => hk.elim) ?aF ?aO ?aB ?aS ?aL ?_; (case aP => exact rfl); (case aB => exact (by repeat (first | (with_reducible first | exact HB.out | apply below_alloc | apply pw_below_drewN | apply below_drew1 | refine below_set ?_ GE107.out | refine below_set ?_ GE108.out) | exact HB.out))); (case aF => exact (fun _ _ => trivial)); (case aO => exact (by (with_reducible repeat (first | apply Kd.R_alloc | apply Kd.R_drewN | apply Kd.R_drew)); exact HO_6.out)); (case aS => exact (below_size (by repeat (first | (with_reducible first | exact HB.out | apply below_alloc | apply pw_below_drewN | apply below_drew1 | refine below_set ?_ GE107.out | refine below_set ?_ GE108.out) | exact HB.out)))); (case aL => have := LMc34.out; omega); intro v117 w37 ho hb hg hat; rw [← Ny116.out] at ho; have n0_ := Aside0.mk (blk_grown (g := gb107) (o := .cells #[.int .i64 a0_0, .int .i64 a0_1, .int .i64 a0_2, .int .i64 a0_3, .int .i64 a0_4, .int .i64 a0_5, .int .i64 a0_6, .int .i64 a0_7, .int .i64 a0_8, .int .i64 a0_9, .int .i64 a0_10, .int .i64 a0_11, .int .i64 a0_12, .string a0_13] 23 (0, 0)) (by (with_reducible repeat (first | refine blk_drewN ?_ _ | refine blk_drew ?_ | refine blk_alloc ?_ _)); exact BK107.out) hg (Kd.R_ne HO_6.out BK107.out (by decide))); have n1_ := Aside0.mk (blk_grown (g := gb108) (o := .cells #[.int .i64 a1_0, .int .i64 a1_1, .int .i64 a1_2, .int .i64 a1_3, .int .i64 a1_4, .int .i64 a1_5, .int .i64 a1_6, .int .i64 a1_7, .int .i64 a1_8, .int .i64 a1_9, .bool a1_10, .bool a1_11, .slice A1_12 l1_12.length c1_12, .int .i64 a1_13] 28 (0, 0)) (by (with_reducible repeat (first | refine blk_drewN ?_ _ | refine blk_drew ?_ | refine blk_alloc ?_ _)); exact BK108.out) hg (Kd.R_ne HO_6.out BK108.out (by decide))); have n2_ := Aside0.mk (hb); have n3_ := Aside0.mk (ho); clear BK107; clear BK108; clear HB; clear HO_6; have BK107 := n0_; have BK108 := n1_; have HB := n2_; have HO118 := n3_; clear n0_ n1_ n2_ n3_; clear ho hb hg hat))
                  go_meet
                  case rel => exact ⟨_, (y116), H', ⟨by have := HJ2.out; have := HJ17.out; first | omega | exact Nat.le_refl _⟩, ⟨by (with_reducible repeat (first | apply Kd.R_alloc | apply Kd.R_drewN | apply Kd.R_drew)); exact HO118.out⟩, ⟨by (with_reducible repeat (first | refine blk_drewN ?_ _ | refine blk_drew ?_ | refine blk_alloc ?_ _)); exact BK107.out⟩, ⟨by (with_reducible repeat (first | refine blk_drewN ?_ _ | refine blk_drew ?_ | refine blk_alloc ?_ _)); exact BK108.out⟩, ⟨by repeat (first | (with_reducible first | exact HB.out | apply below_alloc | apply pw_below_drewN | apply below_drew1 | refine below_set ?_ GE107.out | refine below_set ?_ GE108.out) | exact HB.out)⟩⟩
                · rw [if_neg c34] at H
                  exact absurd H (by simp)
              · rw [if_neg c33] at H
                have c33b0 : (a1_4 == 1) = false := beq_eq_false_iff_ne.mpr c33
                have c33b1 : (a1_4 != 1) = true := bne_iff_ne.mpr c33
                (first | rw [c33b0] | (simp only [i64_w, i32_w]; rw [c33b0]) | skip)
                have H' := Aside0.mk H
                clear H
                go_wp2
                go_meet
                case rel => exact ⟨_, (x6_17), H', ⟨by have := HJ2.out; have := HJ17.out; first | omega | exact Nat.le_refl _⟩, ⟨by (with_reducible repeat (first | apply Kd.R_alloc | apply Kd.R_drewN | apply Kd.R_drew)); exact HO_6.out⟩, ⟨by (with_reducible repeat (first | refine blk_drewN ?_ _ | refine blk_drew ?_ | refine blk_alloc ?_ _)); exact BK107.out⟩, ⟨by (with_reducible repeat (first | refine blk_drewN ?_ _ | refine blk_drew ?_ | refine blk_alloc ?_ _)); exact BK108.out⟩, ⟨by repeat (first | (with_reducible first | exact HB.out | apply below_alloc | apply pw_below_drewN | apply below_drew1 | refine below_set ?_ GE107.out | refine below_set ?_ GE108.out) | exact HB.out)⟩⟩
            case rest =>
              clear HC30
              try clear c1
              try clear c2
              try clear p2
              try clear c3
              try clear c6
              try clear c6b0
              try clear p6
              try clear c7
              try clear c10
              try clear c10b0
              try clear c10b1
              try clear c11
              try clear c14
              try clear c17
              try clear c19
              try clear c24
              try clear c24b0
              try clear c26
              try clear c27
              try clear c31
              try clear c33
              try clear c33b0
              try clear c33b1
              try clear c34
              try clear c35
              try clear hcz12_0
              try clear hcz12_1
              try clear hcz12_10
              try clear hcz12_11
              try clear hcz12_12
              try clear hcz12_13
              try clear hcz12_2
              try clear hcz12_3
              try clear hcz12_4
              try clear hcz12_5
              try clear hcz12_6
              try clear hcz12_7
              try clear hcz12_8
              try clear hcz12_9
              try clear hcz13_0
              try clear hcz13_1
              try clear hcz13_10
              try clear hcz13_11
              try clear hcz13_12
              try clear hcz13_13
              try clear hcz13_2
              try clear hcz13_3
              try clear hcz13_4
              try clear hcz13_5
              try clear hcz13_6
              try clear hcz13_7
              try clear hcz13_8
              try clear hcz13_9
              try clear hcz15_0
              try clear hcz15_1
              try clear hcz15_10
              try clear hcz15_11
              try clear hcz15_12
              try clear hcz15_13
              try clear hcz15_2
              try clear hcz15_3
              try clear hcz15_4
              try clear hcz15_5
              try clear hcz15_6
              try clear hcz15_7
              try clear hcz15_8
              try clear hcz15_9
              try clear hcz16_0
              try clear hcz16_1
              try clear hcz16_10
              try clear hcz16_11
              try clear hcz16_12
              try clear hcz16_13
              try clear hcz16_2
              try clear hcz16_3
              try clear hcz16_4
              try clear hcz16_5
              try clear hcz16_6
              try clear hcz16_7
              try clear hcz16_8
              try clear hcz16_9
              try clear hcz20_0
              try clear hcz20_1
              try clear hcz20_10
              try clear hcz20_11
              try clear hcz20_12
              try clear hcz20_13
              try clear hcz20_2
              try clear hcz20_3
              try clear hcz20_4
              try clear hcz20_5
              try clear hcz20_6
              try clear hcz20_7
              try clear hcz20_8
              try clear hcz20_9
              try clear hcz23_0
              try clear hcz23_1
              try clear hcz23_10
              try clear hcz23_11
              try clear hcz23_12
              try clear hcz23_13
              try clear hcz23_2
              try clear hcz23_3
              try clear hcz23_4
              try clear hcz23_5
              try clear hcz23_6
              try clear hcz23_7
              try clear hcz23_8
              try clear hcz23_9
              try clear hcz28_0
              try clear hcz28_1
              try clear hcz28_10
              try clear hcz28_11
              try clear hcz28_12
              try clear hcz28_13
              try clear hcz28_2
              try clear hcz28_3
              try clear hcz28_4
              try clear hcz28_5
              try clear hcz28_6
              try clear hcz28_7
              try clear hcz28_8
              try clear hcz28_9
              try clear hcz32_0
              try clear hcz32_1
              try clear hcz32_10
              try clear hcz32_11
              try clear hcz32_12
              try clear hcz32_13
              try clear hcz32_2
              try clear hcz32_3
              try clear hcz32_4
              try clear hcz32_5
              try clear hcz32_6
              try clear hcz32_7
              try clear hcz32_8
              try clear hcz32_9
              try clear hcz36_0
              try clear hcz36_1
              try clear hcz36_10
              try clear hcz36_11
              try clear hcz36_12
              try clear hcz36_13
              try clear hcz36_2
              try clear hcz36_3
              try clear hcz36_4
              try clear hcz36_5
              try clear hcz36_6
              try clear hcz36_7
              try clear hcz36_8
              try clear hcz36_9
              try clear hcz8_0
              try clear hcz8_1
              try clear hcz8_10
              try clear hcz8_11
              try clear hcz8_12
              try clear hcz8_13
              try clear hcz8_2
              try clear hcz8_3
              try clear hcz8_4
              try clear hcz8_5
              try clear hcz8_6
              try clear hcz8_7
              try clear hcz8_8
              try clear hcz8_9
              try clear hcz9_0
              try clear hcz9_1
              try clear hcz9_10
              try clear hcz9_11
              try clear hcz9_12
              try clear hcz9_13
              try clear hcz9_2
              try clear hcz9_3
              try clear hcz9_4
              try clear hcz9_5
              try clear hcz9_6
              try clear hcz9_7
              try clear hcz9_8
              try clear hcz9_9
              try clear hfz12_0
              try clear hfz12_1
              try clear hfz12_10
              try clear hfz12_11
              try clear hfz12_12
              try clear hfz12_13
              try clear hfz12_2
              try clear hfz12_3
              try clear hfz12_4
              try clear hfz12_5
              try clear hfz12_6
              try clear hfz12_7
              try clear hfz12_8
              try clear hfz12_9
              try clear hfz13_0
              try clear hfz13_1
              try clear hfz13_10
              try clear hfz13_11
              try clear hfz13_12
              try clear hfz13_13
              try clear hfz13_2
              try clear hfz13_3
              try clear hfz13_4
              try clear hfz13_5
              try clear hfz13_6
              try clear hfz13_7
              try clear hfz13_8
              try clear hfz13_9
              try clear hfz15_0
              try clear hfz15_1
              try clear hfz15_10
              try clear hfz15_11
              try clear hfz15_12
              try clear hfz15_13
              try clear hfz15_2
              try clear hfz15_3
              try clear hfz15_4
              try clear hfz15_5
              try clear hfz15_6
              try clear hfz15_7
              try clear hfz15_8
              try clear hfz15_9
              try clear hfz16_0
              try clear hfz16_1
              try clear hfz16_10
              try clear hfz16_11
              try clear hfz16_12
              try clear hfz16_13
              try clear hfz16_2
              try clear hfz16_3
              try clear hfz16_4
              try clear hfz16_5
              try clear hfz16_6
              try clear hfz16_7
              try clear hfz16_8
              try clear hfz16_9
              try clear hfz20_0
              try clear hfz20_1
              try clear hfz20_10
              try clear hfz20_11
              try clear hfz20_12
              try clear hfz20_13
              try clear hfz20_2
              try clear hfz20_3
              try clear hfz20_4
              try clear hfz20_5
              try clear hfz20_6
              try clear hfz20_7
              try clear hfz20_8
              try clear hfz20_9
              try clear hfz23_0
              try clear hfz23_1
              try clear hfz23_10
              try clear hfz23_11
              try clear hfz23_12
              try clear hfz23_13
              try clear hfz23_2
              try clear hfz23_3
              try clear hfz23_4
              try clear hfz23_5
              try clear hfz23_6
              try clear hfz23_7
              try clear hfz23_8
              try clear hfz23_9
              try clear hfz28_0
              try clear hfz28_1
              try clear hfz28_10
              try clear hfz28_11
              try clear hfz28_12
              try clear hfz28_13
              try clear hfz28_2
              try clear hfz28_3
              try clear hfz28_4
              try clear hfz28_5
              try clear hfz28_6
              try clear hfz28_7
              try clear hfz28_8
              try clear hfz28_9
              try clear hfz32_0
              try clear hfz32_1
              try clear hfz32_10
              try clear hfz32_11
              try clear hfz32_12
              try clear hfz32_13
              try clear hfz32_2
              try clear hfz32_3
              try clear hfz32_4
              try clear hfz32_5
              try clear hfz32_6
              try clear hfz32_7
              try clear hfz32_8
              try clear hfz32_9
              try clear hfz36_0
              try clear hfz36_1
              try clear hfz36_10
              try clear hfz36_11
              try clear hfz36_12
              try clear hfz36_13
              try clear hfz36_2
              try clear hfz36_3
              try clear hfz36_4
              try clear hfz36_5
              try clear hfz36_6
              try clear hfz36_7
              try clear hfz36_8
              try clear hfz36_9
              try clear hfz8_0
              try clear hfz8_1
              try clear hfz8_10
              try clear hfz8_11
              try clear hfz8_12
              try clear hfz8_13
              try clear hfz8_2
              try clear hfz8_3
              try clear hfz8_4
              try clear hfz8_5
              try clear hfz8_6
              try clear hfz8_7
              try clear hfz8_8
              try clear hfz8_9
              try clear hfz9_0
              try clear hfz9_1
              try clear hfz9_10
              try clear hfz9_11
              try clear hfz9_12
              try clear hfz9_13
              try clear hfz9_2
              try clear hfz9_3
              try clear hfz9_4
              try clear hfz9_5
              try clear hfz9_6
              try clear hfz9_7
              try clear hfz9_8
              try clear hfz9_9
              try clear p2
              try clear p6
              obtain ⟨kq, x6_29, HA, HJ29, HO_6, BK107, BK108, HB⟩ := hcut
              cases kq with
              | zero => exact absurd HA.out (by simp [decorumref18_Eligible.j2])
              | succ kj29 =>
                have H := HA.out
                clear HA
                simp only [decorumref18_Eligible.j2] at H
                have H' := Aside0.mk H
                clear H
                go_wp2
                go_loopg [5, 7] kj29 (fun kq v5 v7 w' => ∃ (x5_4 : Int) (x7_4 : Int), v5 = .int .i64 x5_4 ∧ v7 = .int .i64 x7_4 ∧ Aside0 (decorumref18_Eligible.l0 kq x5_4 x6_29 x7_4 = some r) ∧ Aside0 (kq ≤ kj29) ∧ Aside0 (Kd.R (Kd.int .i64) 3 w' w.heap.size (fun _ => True) u6 x6_29) ∧ Aside0 (w'.heap[gb107]? = some (.cells #[.int .i64 a0_0, .int .i64 a0_1, .int .i64 a0_2, .int .i64 a0_3, .int .i64 a0_4, .int .i64 a0_5, .int .i64 a0_6, .int .i64 a0_7, .int .i64 a0_8, .int .i64 a0_9, .int .i64 a0_10, .int .i64 a0_11, .int .i64 a0_12, .string a0_13] 23 (0, 0))) ∧ Aside0 (w'.heap[gb108]? = some (.cells #[.int .i64 a1_0, .int .i64 a1_1, .int .i64 a1_2, .int .i64 a1_3, .int .i64 a1_4, .int .i64 a1_5, .int .i64 a1_6, .int .i64 a1_7, .int .i64 a1_8, .int .i64 a1_9, .bool a1_10, .bool a1_11, (.slice A1_12 l1_12.length c1_12), .int .i64 a1_13] 28 (0, 0))) ∧ Aside0 (Below w.heap.size w w'))
                case atStart => exact ⟨(0), (0), (by first | rfl | (simp; done) | (simp [*]; done)), (by first | rfl | (simp; done) | (simp [*]; done)), H', ⟨Nat.le_refl _⟩, ⟨by (with_reducible repeat (first | apply Kd.R_alloc | apply Kd.R_drewN | apply Kd.R_drew)); exact HO_6.out⟩, ⟨by (with_reducible repeat (first | refine blk_drewN ?_ _ | refine blk_drew ?_ | refine blk_alloc ?_ _)); exact BK107.out⟩, ⟨by (with_reducible repeat (first | refine blk_drewN ?_ _ | refine blk_drew ?_ | refine blk_alloc ?_ _)); exact BK108.out⟩, ⟨by repeat (first | (with_reducible first | exact HB.out | apply below_alloc | apply pw_below_drewN | apply below_drew1 | refine below_set ?_ GE107.out | refine below_set ?_ GE108.out) | exact HB.out)⟩⟩
                case round =>
                  clear H'
                  try clear c1
                  try clear c2
                  try clear p2
                  try clear c3
                  try clear c6
                  try clear c6b0
                  try clear p6
                  try clear c7
                  try clear c10
                  try clear c10b0
                  try clear c10b1
                  try clear c11
                  try clear c14
                  try clear c17
                  try clear c19
                  try clear c24
                  try clear c24b0
                  try clear c26
                  try clear c27
                  try clear c31
                  try clear c33
                  try clear c33b0
                  try clear c33b1
                  try clear c34
                  try clear c35
                  try clear hcz12_0
                  try clear hcz12_1
                  try clear hcz12_10
                  try clear hcz12_11
                  try clear hcz12_12
                  try clear hcz12_13
                  try clear hcz12_2
                  try clear hcz12_3
                  try clear hcz12_4
                  try clear hcz12_5
                  try clear hcz12_6
                  try clear hcz12_7
                  try clear hcz12_8
                  try clear hcz12_9
                  try clear hcz13_0
                  try clear hcz13_1
                  try clear hcz13_10
                  try clear hcz13_11
                  try clear hcz13_12
                  try clear hcz13_13
                  try clear hcz13_2
                  try clear hcz13_3
                  try clear hcz13_4
                  try clear hcz13_5
                  try clear hcz13_6
                  try clear hcz13_7
                  try clear hcz13_8
                  try clear hcz13_9
                  try clear hcz15_0
                  try clear hcz15_1
                  try clear hcz15_10
                  try clear hcz15_11
                  try clear hcz15_12
                  try clear hcz15_13
                  try clear hcz15_2
                  try clear hcz15_3
                  try clear hcz15_4
                  try clear hcz15_5
                  try clear hcz15_6
                  try clear hcz15_7
                  try clear hcz15_8
                  try clear hcz15_9
                  try clear hcz16_0
                  try clear hcz16_1
                  try clear hcz16_10
                  try clear hcz16_11
                  try clear hcz16_12
                  try clear hcz16_13
                  try clear hcz16_2
                  try clear hcz16_3
                  try clear hcz16_4
                  try clear hcz16_5
                  try clear hcz16_6
                  try clear hcz16_7
                  try clear hcz16_8
                  try clear hcz16_9
                  try clear hcz20_0
                  try clear hcz20_1
                  try clear hcz20_10
                  try clear hcz20_11
                  try clear hcz20_12
                  try clear hcz20_13
                  try clear hcz20_2
                  try clear hcz20_3
                  try clear hcz20_4
                  try clear hcz20_5
                  try clear hcz20_6
                  try clear hcz20_7
                  try clear hcz20_8
                  try clear hcz20_9
                  try clear hcz23_0
                  try clear hcz23_1
                  try clear hcz23_10
                  try clear hcz23_11
                  try clear hcz23_12
                  try clear hcz23_13
                  try clear hcz23_2
                  try clear hcz23_3
                  try clear hcz23_4
                  try clear hcz23_5
                  try clear hcz23_6
                  try clear hcz23_7
                  try clear hcz23_8
                  try clear hcz23_9
                  try clear hcz28_0
                  try clear hcz28_1
                  try clear hcz28_10
                  try clear hcz28_11
                  try clear hcz28_12
                  try clear hcz28_13
                  try clear hcz28_2
                  try clear hcz28_3
                  try clear hcz28_4
                  try clear hcz28_5
                  try clear hcz28_6
                  try clear hcz28_7
                  try clear hcz28_8
                  try clear hcz28_9
                  try clear hcz32_0
                  try clear hcz32_1
                  try clear hcz32_10
                  try clear hcz32_11
                  try clear hcz32_12
                  try clear hcz32_13
                  try clear hcz32_2
                  try clear hcz32_3
                  try clear hcz32_4
                  try clear hcz32_5
                  try clear hcz32_6
                  try clear hcz32_7
                  try clear hcz32_8
                  try clear hcz32_9
                  try clear hcz36_0
                  try clear hcz36_1
                  try clear hcz36_10
                  try clear hcz36_11
                  try clear hcz36_12
                  try clear hcz36_13
                  try clear hcz36_2
                  try clear hcz36_3
                  try clear hcz36_4
                  try clear hcz36_5
                  try clear hcz36_6
                  try clear hcz36_7
                  try clear hcz36_8
                  try clear hcz36_9
                  try clear hcz8_0
                  try clear hcz8_1
                  try clear hcz8_10
                  try clear hcz8_11
                  try clear hcz8_12
                  try clear hcz8_13
                  try clear hcz8_2
                  try clear hcz8_3
                  try clear hcz8_4
                  try clear hcz8_5
                  try clear hcz8_6
                  try clear hcz8_7
                  try clear hcz8_8
                  try clear hcz8_9
                  try clear hcz9_0
                  try clear hcz9_1
                  try clear hcz9_10
                  try clear hcz9_11
                  try clear hcz9_12
                  try clear hcz9_13
                  try clear hcz9_2
                  try clear hcz9_3
                  try clear hcz9_4
                  try clear hcz9_5
                  try clear hcz9_6
                  try clear hcz9_7
                  try clear hcz9_8
                  try clear hcz9_9
                  try clear hfz12_0
                  try clear hfz12_1
                  try clear hfz12_10
                  try clear hfz12_11
                  try clear hfz12_12
                  try clear hfz12_13
                  try clear hfz12_2
                  try clear hfz12_3
                  try clear hfz12_4
                  try clear hfz12_5
                  try clear hfz12_6
                  try clear hfz12_7
                  try clear hfz12_8
                  try clear hfz12_9
                  try clear hfz13_0
                  try clear hfz13_1
                  try clear hfz13_10
                  try clear hfz13_11
                  try clear hfz13_12
                  try clear hfz13_13
                  try clear hfz13_2
                  try clear hfz13_3
                  try clear hfz13_4
                  try clear hfz13_5
                  try clear hfz13_6
                  try clear hfz13_7
                  try clear hfz13_8
                  try clear hfz13_9
                  try clear hfz15_0
                  try clear hfz15_1
                  try clear hfz15_10
                  try clear hfz15_11
                  try clear hfz15_12
                  try clear hfz15_13
                  try clear hfz15_2
                  try clear hfz15_3
                  try clear hfz15_4
                  try clear hfz15_5
                  try clear hfz15_6
                  try clear hfz15_7
                  try clear hfz15_8
                  try clear hfz15_9
                  try clear hfz16_0
                  try clear hfz16_1
                  try clear hfz16_10
                  try clear hfz16_11
                  try clear hfz16_12
                  try clear hfz16_13
                  try clear hfz16_2
                  try clear hfz16_3
                  try clear hfz16_4
                  try clear hfz16_5
                  try clear hfz16_6
                  try clear hfz16_7
                  try clear hfz16_8
                  try clear hfz16_9
                  try clear hfz20_0
                  try clear hfz20_1
                  try clear hfz20_10
                  try clear hfz20_11
                  try clear hfz20_12
                  try clear hfz20_13
                  try clear hfz20_2
                  try clear hfz20_3
                  try clear hfz20_4
                  try clear hfz20_5
                  try clear hfz20_6
                  try clear hfz20_7
                  try clear hfz20_8
                  try clear hfz20_9
                  try clear hfz23_0
                  try clear hfz23_1
                  try clear hfz23_10
                  try clear hfz23_11
                  try clear hfz23_12
                  try clear hfz23_13
                  try clear hfz23_2
                  try clear hfz23_3
                  try clear hfz23_4
                  try clear hfz23_5
                  try clear hfz23_6
                  try clear hfz23_7
                  try clear hfz23_8
                  try clear hfz23_9
                  try clear hfz28_0
                  try clear hfz28_1
                  try clear hfz28_10
                  try clear hfz28_11
                  try clear hfz28_12
                  try clear hfz28_13
                  try clear hfz28_2
                  try clear hfz28_3
                  try clear hfz28_4
                  try clear hfz28_5
                  try clear hfz28_6
                  try clear hfz28_7
                  try clear hfz28_8
                  try clear hfz28_9
                  try clear hfz32_0
                  try clear hfz32_1
                  try clear hfz32_10
                  try clear hfz32_11
                  try clear hfz32_12
                  try clear hfz32_13
                  try clear hfz32_2
                  try clear hfz32_3
                  try clear hfz32_4
                  try clear hfz32_5
                  try clear hfz32_6
                  try clear hfz32_7
                  try clear hfz32_8
                  try clear hfz32_9
                  try clear hfz36_0
                  try clear hfz36_1
                  try clear hfz36_10
                  try clear hfz36_11
                  try clear hfz36_12
                  try clear hfz36_13
                  try clear hfz36_2
                  try clear hfz36_3
                  try clear hfz36_4
                  try clear hfz36_5
                  try clear hfz36_6
                  try clear hfz36_7
                  try clear hfz36_8
                  try clear hfz36_9
                  try clear hfz8_0
                  try clear hfz8_1
                  try clear hfz8_10
                  try clear hfz8_11
                  try clear hfz8_12
                  try clear hfz8_13
                  try clear hfz8_2
                  try clear hfz8_3
                  try clear hfz8_4
                  try clear hfz8_5
                  try clear hfz8_6
                  try clear hfz8_7
                  try clear hfz8_8
                  try clear hfz8_9
                  try clear hfz9_0
                  try clear hfz9_1
                  try clear hfz9_10
                  try clear hfz9_11
                  try clear hfz9_12
                  try clear hfz9_13
                  try clear hfz9_2
                  try clear hfz9_3
                  try clear hfz9_4
                  try clear hfz9_5
                  try clear hfz9_6
                  try clear hfz9_7
                  try clear hfz9_8
                  try clear hfz9_9
                  try clear p2
                  try clear p6
                  obtain ⟨x5_4, x7_4, rfl, rfl, HA, HK4, HO_6, BK107, BK108, HB⟩ := hrel
                  cases gk with
                  | zero => exact absurd HA.out (by simp [decorumref18_Eligible.l0])
                  | succ k4 =>
                    have H := HA.out
                    clear HA
                    simp only [decorumref18_Eligible.l0] at H
                    by_cases c38 : x7_4 < (x6_29.length : Int)
                    · rw [if_pos c38] at H
                      have c38b0 : decide (x7_4 < (x6_29.length : Int)) = true := decide_eq_true c38
                      clear c38
                      by_cases c39 : 0 ≤ x7_4
                      · rw [if_pos c39] at H
                        have c39b0 : decide (0 ≤ x7_4) = true := decide_eq_true c39
                        clear c39
                        by_cases c40 : (rd x6_29 x7_4) > x5_4
                        · rw [if_pos c40] at H
                          have c40b0 : decide (x5_4 < (rd x6_29 x7_4)) = true := decide_eq_true c40
                          clear c40
                          have H' := Aside0.mk H
                          clear H
                          obtain ⟨Ao41, co41, eo41⟩ := Kd.R_slice HO_6.out
                          subst eo41
                          have p119 : 0 ≤ (x7_4 : Int) := of_decide_eq_true (by first | (with_reducible assumption) | assumption)
                          have q119 : x7_4 < (x6_29.length : Int) := of_decide_eq_true (by first | (with_reducible assumption) | assumption)
                          obtain ⟨ad119, e119, hx119_0⟩ := Kd.at_int (Kd.R_reads' HO_6.out).2.2 x7_4 p119 q119
                          cases e119
                          replace p119 := eq_true p119
                          replace q119 := eq_true q119
                          have p120 : 0 ≤ (x7_4 : Int) := of_decide_eq_true (by first | (with_reducible assumption) | assumption)
                          have q120 : x7_4 < (x6_29.length : Int) := of_decide_eq_true (by first | (with_reducible assumption) | assumption)
                          obtain ⟨ad120, e120, hx120_0⟩ := Kd.at_int (Kd.R_reads' HO_6.out).2.2 x7_4 p120 q120
                          obtain rfl : ad119 = ad120 := (by injection e120)
                          replace p120 := eq_true p120
                          replace q120 := eq_true q120
                          go_wp2
                          go_roundg k4
                          case measure => have := HJ2.out; have := HJ17.out; have := HJ29.out; have := HK4.out; omega
                          case rel => exact ⟨(rd x6_29 x7_4), (wrap64 (x7_4 + 1)), (by first | rfl | (simp; done) | (simp [*]; done)), (by first | rfl | (simp; done) | (simp [*]; done)), H', ⟨by have := HJ2.out; have := HJ17.out; have := HJ29.out; have := HK4.out; omega⟩, ⟨by (with_reducible repeat (first | apply Kd.R_alloc | apply Kd.R_drewN | apply Kd.R_drew)); exact HO_6.out⟩, ⟨by (with_reducible repeat (first | refine blk_drewN ?_ _ | refine blk_drew ?_ | refine blk_alloc ?_ _)); exact BK107.out⟩, ⟨by (with_reducible repeat (first | refine blk_drewN ?_ _ | refine blk_drew ?_ | refine blk_alloc ?_ _)); exact BK108.out⟩, ⟨by repeat (first | (with_reducible first | exact HB.out | apply below_alloc | apply pw_below_drewN | apply below_drew1 | refine below_set ?_ GE107.out | refine below_set ?_ GE108.out) | exact HB.out)⟩⟩
                        · rw [if_neg c40] at H
                          have c40b0 : decide (x5_4 < (rd x6_29 x7_4)) = false := decide_eq_false c40
                          clear c40
                          have H' := Aside0.mk H
                          clear H
                          obtain ⟨Ao42, co42, eo42⟩ := Kd.R_slice HO_6.out
                          subst eo42
                          have p119 : 0 ≤ (x7_4 : Int) := of_decide_eq_true (by first | (with_reducible assumption) | assumption)
                          have q119 : x7_4 < (x6_29.length : Int) := of_decide_eq_true (by first | (with_reducible assumption) | assumption)
                          obtain ⟨ad119, e119, hx119_0⟩ := Kd.at_int (Kd.R_reads' HO_6.out).2.2 x7_4 p119 q119
                          cases e119
                          replace p119 := eq_true p119
                          replace q119 := eq_true q119
                          go_wp2
                          go_roundg k4
                          case measure => have := HJ2.out; have := HJ17.out; have := HJ29.out; have := HK4.out; omega
                          case rel => exact ⟨(x5_4), (wrap64 (x7_4 + 1)), (by first | rfl | (simp; done) | (simp [*]; done)), (by first | rfl | (simp; done) | (simp [*]; done)), H', ⟨by have := HJ2.out; have := HJ17.out; have := HJ29.out; have := HK4.out; omega⟩, ⟨by (with_reducible repeat (first | apply Kd.R_alloc | apply Kd.R_drewN | apply Kd.R_drew)); exact HO_6.out⟩, ⟨by (with_reducible repeat (first | refine blk_drewN ?_ _ | refine blk_drew ?_ | refine blk_alloc ?_ _)); exact BK107.out⟩, ⟨by (with_reducible repeat (first | refine blk_drewN ?_ _ | refine blk_drew ?_ | refine blk_alloc ?_ _)); exact BK108.out⟩, ⟨by repeat (first | (with_reducible first | exact HB.out | apply below_alloc | apply pw_below_drewN | apply below_drew1 | refine below_set ?_ GE107.out | refine below_set ?_ GE108.out) | exact HB.out)⟩⟩
                      · rw [if_neg c39] at H
                        exact absurd H (by simp)
                    · rw [if_neg c38] at H
                      have c38b0 : decide (x7_4 < (x6_29.length : Int)) = false := decide_eq_false c38
                      clear c38
                      obtain rfl := Option.some.inj H
                      obtain ⟨Ao43, co43, eo43⟩ := Kd.R_slice HO_6.out
                      subst eo43
                      go_wp2
                      go_ret
                      exact ⟨by first | rfl | (simp [errW_none, errW_some] <;> rfl) | (simp [*, errW_none, errW_some] <;> rfl) | (simp [wrap64]; done), by repeat (first | (with_reducible first | exact HB.out | apply below_alloc | apply pw_below_drewN | apply below_drew1 | refine below_set ?_ GE107.out | refine below_set ?_ GE108.out) | exact HB.out)⟩

end Go.Proofs.Ytdmebkdikminjaa.QMid
