-- A text that a changed copy of the print program wrote for this claim (NOTES.md, changed print); it is not a printed text.
import Derived.Test.YtdmebkdikminjaaQMidx0
import Derived.Test.YtdmebkdikminjaaQMidx1
namespace Go.Proofs.Ytdmebkdikminjaa.QMid
open Go.Proofs.Ytdmebkdikminjaa.QBase
open Go.RowKit Go.Proofs.YtdmebkdikminjaaW.PrintWords Go.Proofs.YtdmebkdikminjaaW.PrintLast Go.Proofs.YtdmebkdikminjaaW.PrintMore
attribute [local go_sem] max2_int min2_int max_two min_two max_three min_three max_four min_four   -- for this text's walks alone
set_option linter.unusedVariables false
set_option linter.unusedSimpArgs false

attribute [local go_sem high] eqA55
/-! ### decorumref18_Same: function 14 -/
mutual
def decorumref18_Same.j0 : Nat → Bool → Int → Int → Int → Int → Int → Int → Int → Int → Int → Int → Bool → Bool → List (S55) → Int → Int → Int → Int → Int → Int → Int → Int → Int → Int → Int → Bool → Bool → List (S55) → Int → Bool → Bool → List (S55) → Int → Bool → Bool → List (S55) → Int → Option (Bool)
  | 0, _, _, _, _, _, _, _, _, _, _, _, _, _, _, _, _, _, _, _, _, _, _, _, _, _, _, _, _, _, _, _, _, _, _, _, _, _ => none
  | k + 1, x39, x102000, x102001, x102002, x102003, x102004, x102005, x102006, x102007, x102008, x102009, x102010, x102011, x102012, x102013, x103000, x103001, x103002, x103003, x103004, x103005, x103006, x103007, x103008, x103009, x103010, x103011, x103012, x103013, x104000, x104001, x104002, x104003, x105000, x105001, x105002, x105003 => if x39 = true then (some false) else (decorumref18_Same.l0 k 0 x102000 x102001 x102002 x102003 x102004 x102005 x102006 x102007 x102008 x102009 x102010 x102011 x102012 x102013 x103000 x103001 x103002 x103003 x103004 x103005 x103006 x103007 x103008 x103009 x103010 x103011 x103012 x103013 x104000 x104001 x104002 x104003 x105000 x105001 x105002 x105003)
def decorumref18_Same.l0 : Nat → Int → Int → Int → Int → Int → Int → Int → Int → Int → Int → Int → Bool → Bool → List (S55) → Int → Int → Int → Int → Int → Int → Int → Int → Int → Int → Int → Bool → Bool → List (S55) → Int → Bool → Bool → List (S55) → Int → Bool → Bool → List (S55) → Int → Option (Bool)
  | 0, _, _, _, _, _, _, _, _, _, _, _, _, _, _, _, _, _, _, _, _, _, _, _, _, _, _, _, _, _, _, _, _, _, _, _, _, _ => none
  | k + 1, x7, x102000, x102001, x102002, x102003, x102004, x102005, x102006, x102007, x102008, x102009, x102010, x102011, x102012, x102013, x103000, x103001, x103002, x103003, x103004, x103005, x103006, x103007, x103008, x103009, x103010, x103011, x103012, x103013, x104000, x104001, x104002, x104003, x105000, x105001, x105002, x105003 => if x7 < (x104002.length : Int) then (if 0 ≤ x7 then (if x7 < (x105002.length : Int) then (if (!(((rd_T55 x104002 x7).f0) == ((rd_T55 x105002 x7).f0)) || (!((((rd_T55 x104002 x7).f1).toList) == (((rd_T55 x105002 x7).f1).toList)))) = true then (some false) else (decorumref18_Same.l0 k (wrap64 (x7 + 1)) x102000 x102001 x102002 x102003 x102004 x102005 x102006 x102007 x102008 x102009 x102010 x102011 x102012 x102013 x103000 x103001 x103002 x103003 x103004 x103005 x103006 x103007 x103008 x103009 x103010 x103011 x103012 x103013 x104000 x104001 x104002 x104003 x105000 x105001 x105002 x105003)) else (none)) else (none)) else (if x102000 = x103000 then (if x102001 = x103001 then (if x102002 = x103002 then (if x102003 = x103003 then (if x102004 = x103004 then (if x102005 = x103005 then (if x102006 = x103006 then (if x102007 = x103007 then (if x102008 = x103008 then (some (x102009 == x103009)) else (some false)) else (some false)) else (some false)) else (some false)) else (some false)) else (some false)) else (some false)) else (some false)) else (some false))
end
def decorumref18_Same.f (k : Nat) (a0_0 : Int) (a0_1 : Int) (a0_2 : Int) (a0_3 : Int) (a0_4 : Int) (a0_5 : Int) (a0_6 : Int) (a0_7 : Int) (a0_8 : Int) (a0_9 : Int) (a0_10 : Bool) (a0_11 : Bool) (l0_12 : List (S55)) (a0_13 : Int) (a1_0 : Int) (a1_1 : Int) (a1_2 : Int) (a1_3 : Int) (a1_4 : Int) (a1_5 : Int) (a1_6 : Int) (a1_7 : Int) (a1_8 : Int) (a1_9 : Int) (a1_10 : Bool) (a1_11 : Bool) (l1_12 : List (S55)) (a1_13 : Int) : Option (Bool) := if (a0_10 != a1_10) = true then (decorumref18_Same.j0 k true a0_0 a0_1 a0_2 a0_3 a0_4 a0_5 a0_6 a0_7 a0_8 a0_9 a0_10 a0_11 l0_12 a0_13 a1_0 a1_1 a1_2 a1_3 a1_4 a1_5 a1_6 a1_7 a1_8 a1_9 a1_10 a1_11 l1_12 a1_13 a0_10 a0_11 l0_12 a0_13 a1_10 a1_11 l1_12 a1_13) else (if (a0_11 != a1_11) = true then (decorumref18_Same.j0 k true a0_0 a0_1 a0_2 a0_3 a0_4 a0_5 a0_6 a0_7 a0_8 a0_9 a0_10 a0_11 l0_12 a0_13 a1_0 a1_1 a1_2 a1_3 a1_4 a1_5 a1_6 a1_7 a1_8 a1_9 a1_10 a1_11 l1_12 a1_13 a0_10 a0_11 l0_12 a0_13 a1_10 a1_11 l1_12 a1_13) else (if a0_13 = a1_13 then (decorumref18_Same.j0 k ((l0_12.length : Int) != (l1_12.length : Int)) a0_0 a0_1 a0_2 a0_3 a0_4 a0_5 a0_6 a0_7 a0_8 a0_9 a0_10 a0_11 l0_12 a0_13 a1_0 a1_1 a1_2 a1_3 a1_4 a1_5 a1_6 a1_7 a1_8 a1_9 a1_10 a1_11 l1_12 a1_13 a0_10 a0_11 l0_12 a0_13 a1_10 a1_11 l1_12 a1_13) else (decorumref18_Same.j0 k true a0_0 a0_1 a0_2 a0_3 a0_4 a0_5 a0_6 a0_7 a0_8 a0_9 a0_10 a0_11 l0_12 a0_13 a1_0 a1_1 a1_2 a1_3 a1_4 a1_5 a1_6 a1_7 a1_8 a1_9 a1_10 a1_11 l1_12 a1_13 a0_10 a0_11 l0_12 a0_13 a1_10 a1_11 l1_12 a1_13)))
theorem decorumref18_Same.mono_l : ∀ k, (∀ y0 y1 y2 y3 y4 y5 y6 y7 y8 y9 y10 y11 y12 y13 y14 y15 y16 y17 y18 y19 y20 y21 y22 y23 y24 y25 y26 y27 y28 y29 y30 y31 y32 y33 y34 y35 y36, LeO (decorumref18_Same.j0 k y0 y1 y2 y3 y4 y5 y6 y7 y8 y9 y10 y11 y12 y13 y14 y15 y16 y17 y18 y19 y20 y21 y22 y23 y24 y25 y26 y27 y28 y29 y30 y31 y32 y33 y34 y35 y36) (decorumref18_Same.j0 (k + 1) y0 y1 y2 y3 y4 y5 y6 y7 y8 y9 y10 y11 y12 y13 y14 y15 y16 y17 y18 y19 y20 y21 y22 y23 y24 y25 y26 y27 y28 y29 y30 y31 y32 y33 y34 y35 y36)) ∧ (∀ y0 y1 y2 y3 y4 y5 y6 y7 y8 y9 y10 y11 y12 y13 y14 y15 y16 y17 y18 y19 y20 y21 y22 y23 y24 y25 y26 y27 y28 y29 y30 y31 y32 y33 y34 y35 y36, LeO (decorumref18_Same.l0 k y0 y1 y2 y3 y4 y5 y6 y7 y8 y9 y10 y11 y12 y13 y14 y15 y16 y17 y18 y19 y20 y21 y22 y23 y24 y25 y26 y27 y28 y29 y30 y31 y32 y33 y34 y35 y36) (decorumref18_Same.l0 (k + 1) y0 y1 y2 y3 y4 y5 y6 y7 y8 y9 y10 y11 y12 y13 y14 y15 y16 y17 y18 y19 y20 y21 y22 y23 y24 y25 y26 y27 y28 y29 y30 y31 y32 y33 y34 y35 y36))
  | 0 => ⟨fun _ _ _ _ _ _ _ _ _ _ _ _ _ _ _ _ _ _ _ _ _ _ _ _ _ _ _ _ _ _ _ _ _ _ _ _ _ r h => by simp [decorumref18_Same.j0] at h, fun _ _ _ _ _ _ _ _ _ _ _ _ _ _ _ _ _ _ _ _ _ _ _ _ _ _ _ _ _ _ _ _ _ _ _ _ _ r h => by simp [decorumref18_Same.l0] at h⟩
  | k + 1 => by
    obtain ⟨ih0, ih1⟩ := decorumref18_Same.mono_l k
    refine ⟨?_, ?_⟩
    · intro y0 y1 y2 y3 y4 y5 y6 y7 y8 y9 y10 y11 y12 y13 y14 y15 y16 y17 y18 y19 y20 y21 y22 y23 y24 y25 y26 y27 y28 y29 y30 y31 y32 y33 y34 y35 y36
      unfold decorumref18_Same.j0
      repeat' first
      | (with_reducible exact ih0 _ _ _ _ _ _ _ _ _ _ _ _ _ _ _ _ _ _ _ _ _ _ _ _ _ _ _ _ _ _ _ _ _ _ _ _ _)
      | (with_reducible exact ih1 _ _ _ _ _ _ _ _ _ _ _ _ _ _ _ _ _ _ _ _ _ _ _ _ _ _ _ _ _ _ _ _ _ _ _ _ _)
      | (with_reducible exact LeO.refl _)
      | (with_reducible exact LeO.none _)
      | (with_reducible refine LeO.ite ?_ ?_)
      | (with_reducible refine LeO.bind ?_ (fun _ => ?_))
      | exact ih0 _ _ _ _ _ _ _ _ _ _ _ _ _ _ _ _ _ _ _ _ _ _ _ _ _ _ _ _ _ _ _ _ _ _ _ _ _
      | exact ih1 _ _ _ _ _ _ _ _ _ _ _ _ _ _ _ _ _ _ _ _ _ _ _ _ _ _ _ _ _ _ _ _ _ _ _ _ _
      | exact LeO.none _
      | refine LeO.ite ?_ ?_
      | refine LeO.bind ?_ (fun _ => ?_)
    · intro y0 y1 y2 y3 y4 y5 y6 y7 y8 y9 y10 y11 y12 y13 y14 y15 y16 y17 y18 y19 y20 y21 y22 y23 y24 y25 y26 y27 y28 y29 y30 y31 y32 y33 y34 y35 y36
      unfold decorumref18_Same.l0
      repeat' first
      | (with_reducible exact ih0 _ _ _ _ _ _ _ _ _ _ _ _ _ _ _ _ _ _ _ _ _ _ _ _ _ _ _ _ _ _ _ _ _ _ _ _ _)
      | (with_reducible exact ih1 _ _ _ _ _ _ _ _ _ _ _ _ _ _ _ _ _ _ _ _ _ _ _ _ _ _ _ _ _ _ _ _ _ _ _ _ _)
      | (with_reducible exact LeO.refl _)
      | (with_reducible exact LeO.none _)
      | (with_reducible refine LeO.ite ?_ ?_)
      | (with_reducible refine LeO.bind ?_ (fun _ => ?_))
      | exact ih0 _ _ _ _ _ _ _ _ _ _ _ _ _ _ _ _ _ _ _ _ _ _ _ _ _ _ _ _ _ _ _ _ _ _ _ _ _
      | exact ih1 _ _ _ _ _ _ _ _ _ _ _ _ _ _ _ _ _ _ _ _ _ _ _ _ _ _ _ _ _ _ _ _ _ _ _ _ _
      | exact LeO.none _
      | refine LeO.ite ?_ ?_
      | refine LeO.bind ?_ (fun _ => ?_)
theorem decorumref18_Same.mono : ∀ a0 a1 a2 a3 a4 a5 a6 a7 a8 a9 a10 a11 a12 a13 a14 a15 a16 a17 a18 a19 a20 a21 a22 a23 a24 a25 a26 a27 k, LeO (decorumref18_Same.f k a0 a1 a2 a3 a4 a5 a6 a7 a8 a9 a10 a11 a12 a13 a14 a15 a16 a17 a18 a19 a20 a21 a22 a23 a24 a25 a26 a27) (decorumref18_Same.f (k + 1) a0 a1 a2 a3 a4 a5 a6 a7 a8 a9 a10 a11 a12 a13 a14 a15 a16 a17 a18 a19 a20 a21 a22 a23 a24 a25 a26 a27) := by
  intro a0 a1 a2 a3 a4 a5 a6 a7 a8 a9 a10 a11 a12 a13 a14 a15 a16 a17 a18 a19 a20 a21 a22 a23 a24 a25 a26 a27 k
  obtain ⟨ih0, ih1⟩ := decorumref18_Same.mono_l k
  unfold decorumref18_Same.f
  repeat' first
      | (with_reducible exact ih0 _ _ _ _ _ _ _ _ _ _ _ _ _ _ _ _ _ _ _ _ _ _ _ _ _ _ _ _ _ _ _ _ _ _ _ _ _)
      | (with_reducible exact ih1 _ _ _ _ _ _ _ _ _ _ _ _ _ _ _ _ _ _ _ _ _ _ _ _ _ _ _ _ _ _ _ _ _ _ _ _ _)
      | (with_reducible exact LeO.refl _)
      | (with_reducible exact LeO.none _)
      | (with_reducible refine LeO.ite ?_ ?_)
      | (with_reducible refine LeO.bind ?_ (fun _ => ?_))
      | exact ih0 _ _ _ _ _ _ _ _ _ _ _ _ _ _ _ _ _ _ _ _ _ _ _ _ _ _ _ _ _ _ _ _ _ _ _ _ _
      | exact ih1 _ _ _ _ _ _ _ _ _ _ _ _ _ _ _ _ _ _ _ _ _ _ _ _ _ _ _ _ _ _ _ _ _ _ _ _ _
      | exact LeO.none _
      | refine LeO.ite ?_ ?_
      | refine LeO.bind ?_ (fun _ => ?_)
def decorumref18_Same.T1 : Bool × List (List Nat × List Nat) := (true, [([], []), ([0], [0]), ([], []), ([2], [2]), ([], []), ([], []), ([4, 1, 0, 1, 4, 5], [1, 4]), ([5, 3, 6, 0, 1, 2, 3, 4, 5, 6], [3, 5])])
def decorumref18_Same.B1 : List Nat := [0, 1, 0, 4, 0, 0, 51, 127]
theorem decorumref18_Same.tab1 : rtab .any (opsOf Try.f14 1) = decorumref18_Same.T1 := by kernel_rfl
theorem decorumref18_Same.bits1 : waitsOk decorumref18_Same.T1.2 decorumref18_Same.B1 = true := by kernel_rfl
def decorumref18_Same.T7 : Bool × List (List Nat × List Nat) := (true, [([], []), ([0], [0]), ([], []), ([1, 2], [1, 2]), ([3], [3]), ([], []), ([5], [5]), ([], []), ([6, 7], [6, 7]), ([8], [8]), ([4, 9], [4, 9])])
def decorumref18_Same.B7 : List Nat := [0, 1, 0, 7, 15, 0, 32, 0, 224, 480, 1023]
theorem decorumref18_Same.tab7 : rtab .any (opsOf Try.f14 7) = decorumref18_Same.T7 := by kernel_rfl
theorem decorumref18_Same.bits7 : waitsOk decorumref18_Same.T7.2 decorumref18_Same.B7 = true := by kernel_rfl
set_option maxHeartbeats 8000000 in
set_option maxRecDepth 100000 in
theorem decorumref18_Same.calls (k : Nat) (a0_0 : Int) (a0_1 : Int) (a0_2 : Int) (a0_3 : Int) (a0_4 : Int) (a0_5 : Int) (a0_6 : Int) (a0_7 : Int) (a0_8 : Int) (a0_9 : Int) (a0_10 : Bool) (a0_11 : Bool) (A0_12 : Option Addr) (c0_12 : Nat) (l0_12 : List (S55)) (a0_13 : Int) (a1_0 : Int) (a1_1 : Int) (a1_2 : Int) (a1_3 : Int) (a1_4 : Int) (a1_5 : Int) (a1_6 : Int) (a1_7 : Int) (a1_8 : Int) (a1_9 : Int) (a1_10 : Bool) (a1_11 : Bool) (A1_12 : Option Addr) (c1_12 : Nat) (l1_12 : List (S55)) (a1_13 : Int) (r : Bool) (w : World) (hr0_12 : Kd.C k55 w A0_12 l0_12.length l0_12) (hc0_12 : l0_12.length ≤ c0_12) (hr1_12 : Kd.C k55 w A1_12 l1_12.length l1_12) (hc1_12 : l1_12.length ≤ c1_12) (h : decorumref18_Same.f k a0_0 a0_1 a0_2 a0_3 a0_4 a0_5 a0_6 a0_7 a0_8 a0_9 a0_10 a0_11 l0_12 a0_13 a1_0 a1_1 a1_2 a1_3 a1_4 a1_5 a1_6 a1_7 a1_8 a1_9 a1_10 a1_11 l1_12 a1_13 = some r) :
    Calls Try.prog 14 #[.agg #[.int .i64 a0_0, .int .i64 a0_1, .int .i64 a0_2, .int .i64 a0_3, .int .i64 a0_4, .int .i64 a0_5, .int .i64 a0_6, .int .i64 a0_7, .int .i64 a0_8, .int .i64 a0_9, .bool a0_10, .bool a0_11, .slice A0_12 l0_12.length c0_12, .int .i64 a0_13], .agg #[.int .i64 a1_0, .int .i64 a1_1, .int .i64 a1_2, .int .i64 a1_3, .int .i64 a1_4, .int .i64 a1_5, .int .i64 a1_6, .int .i64 a1_7, .int .i64 a1_8, .int .i64 a1_9, .bool a1_10, .bool a1_11, .slice A1_12 l1_12.length c1_12, .int .i64 a1_13]] w fun e w' => e = .returned (.bool r) ∧ Below w.heap.size w w' := by
  have hu28 := Try.underlying28
  have hu26 := Try.underlying26
  have hu55 := Try.underlying55
  have HR0_12 := Aside0.mk hr0_12
  have HC0_12 := Aside0.mk hc0_12
  clear hr0_12 hc0_12
  have HR1_12 := Aside0.mk hr1_12
  have HC1_12 := Aside0.mk hc1_12
  clear hr1_12 hc1_12
  have HB := Aside0.mk (Below.refl w.heap.size w)
  have H : (if (a0_10 != a1_10) = true then (decorumref18_Same.j0 k true a0_0 a0_1 a0_2 a0_3 a0_4 a0_5 a0_6 a0_7 a0_8 a0_9 a0_10 a0_11 l0_12 a0_13 a1_0 a1_1 a1_2 a1_3 a1_4 a1_5 a1_6 a1_7 a1_8 a1_9 a1_10 a1_11 l1_12 a1_13 a0_10 a0_11 l0_12 a0_13 a1_10 a1_11 l1_12 a1_13) else (if (a0_11 != a1_11) = true then (decorumref18_Same.j0 k true a0_0 a0_1 a0_2 a0_3 a0_4 a0_5 a0_6 a0_7 a0_8 a0_9 a0_10 a0_11 l0_12 a0_13 a1_0 a1_1 a1_2 a1_3 a1_4 a1_5 a1_6 a1_7 a1_8 a1_9 a1_10 a1_11 l1_12 a1_13 a0_10 a0_11 l0_12 a0_13 a1_10 a1_11 l1_12 a1_13) else (if a0_13 = a1_13 then (decorumref18_Same.j0 k ((l0_12.length : Int) != (l1_12.length : Int)) a0_0 a0_1 a0_2 a0_3 a0_4 a0_5 a0_6 a0_7 a0_8 a0_9 a0_10 a0_11 l0_12 a0_13 a1_0 a1_1 a1_2 a1_3 a1_4 a1_5 a1_6 a1_7 a1_8 a1_9 a1_10 a1_11 l1_12 a1_13 a0_10 a0_11 l0_12 a0_13 a1_10 a1_11 l1_12 a1_13) else (decorumref18_Same.j0 k true a0_0 a0_1 a0_2 a0_3 a0_4 a0_5 a0_6 a0_7 a0_8 a0_9 a0_10 a0_11 l0_12 a0_13 a1_0 a1_1 a1_2 a1_3 a1_4 a1_5 a1_6 a1_7 a1_8 a1_9 a1_10 a1_11 l1_12 a1_13 a0_10 a0_11 l0_12 a0_13 a1_10 a1_11 l1_12 a1_13)))) = some r := h
  clear h
  have HC3 := Aside0.mk H
  clear H
  go_enter Try.func14, Try.ntmps14
  try go_wp2_with (first | ((with_reducible refine gate_dst (N := 2) rfl ?_); (try (refine gate_guard (by rfl) ?_; dsimp only)); refine box_event ?hg (N := 2) ?hd (cs := #[.int .i64 a0_0, .int .i64 a0_1, .int .i64 a0_2, .int .i64 a0_3, .int .i64 a0_4, .int .i64 a0_5, .int .i64 a0_6, .int .i64 a0_7, .int .i64 a0_8, .int .i64 a0_9, .bool a0_10, .bool a0_11, .slice A0_12 l0_12.length c0_12, .int .i64 a0_13]) (t := 28) ?hr ?_; (case hd => rfl); (case hg => rfl); (case hr => first | (go_simp; done) | (go_simp; rfl)); intro gb101 hg w4 hbox hb; have n0_ := Aside0.mk (below_step (by repeat (first | (with_reducible first | exact HB.out | apply below_alloc | apply pw_below_drewN | apply below_drew1) | exact HB.out)) hb); have n1_ := Aside0.mk (hbox); have n2_ := Aside0.mk ((by rw [hg]; exact (below_size (by repeat (first | (with_reducible first | exact HB.out | apply below_alloc | apply pw_below_drewN | apply below_drew1) | exact HB.out))) : w.heap.size ≤ gb101)); have n3_ := Aside0.mk ((by rw [hg]; exact (below_size (by repeat (first | (with_reducible first | exact HB.out | apply below_alloc | apply pw_below_drewN | apply below_drew1) | exact HB.out))) : w.heap.size ≤ gb101)); clear HB; have HB := n0_; have BK101 := n1_; have GW101 := n2_; have GE101 := n3_; clear n0_ n1_ n2_ n3_; clear hb hbox hg) | ((with_reducible refine gate_dst (N := 3) rfl ?_); (try (refine gate_guard (by rfl) ?_; dsimp only)); refine box_event ?hg (N := 3) ?hd (cs := #[.int .i64 a1_0, .int .i64 a1_1, .int .i64 a1_2, .int .i64 a1_3, .int .i64 a1_4, .int .i64 a1_5, .int .i64 a1_6, .int .i64 a1_7, .int .i64 a1_8, .int .i64 a1_9, .bool a1_10, .bool a1_11, .slice A1_12 l1_12.length c1_12, .int .i64 a1_13]) (t := 28) ?hr ?_; (case hd => rfl); (case hg => rfl); (case hr => first | (go_simp; done) | (go_simp; rfl)); intro gb102 hg w5 hbox hb; have n0_ := Aside0.mk (blk_below (g := gb101) (o := .cells #[.int .i64 a0_0, .int .i64 a0_1, .int .i64 a0_2, .int .i64 a0_3, .int .i64 a0_4, .int .i64 a0_5, .int .i64 a0_6, .int .i64 a0_7, .int .i64 a0_8, .int .i64 a0_9, .bool a0_10, .bool a0_11, .slice A0_12 l0_12.length c0_12, .int .i64 a0_13] 28 (0, 0)) (by (with_reducible repeat (first | refine blk_drewN ?_ _ | refine blk_drew ?_ | refine blk_alloc ?_ _)); exact BK101.out) hb); have n1_ := Aside0.mk (below_step (by repeat (first | (with_reducible first | exact HB.out | apply below_alloc | apply pw_below_drewN | apply below_drew1 | refine below_set ?_ GE101.out) | exact HB.out)) hb); have n2_ := Aside0.mk (hbox); have n3_ := Aside0.mk ((by rw [hg]; exact (below_size (by repeat (first | (with_reducible first | exact HB.out | apply below_alloc | apply pw_below_drewN | apply below_drew1 | refine below_set ?_ GE101.out) | exact HB.out))) : w.heap.size ≤ gb102)); have n4_ := Aside0.mk ((by rw [hg]; exact (below_size (by repeat (first | (with_reducible first | exact HB.out | apply below_alloc | apply pw_below_drewN | apply below_drew1 | refine below_set ?_ GE101.out) | exact HB.out))) : w.heap.size ≤ gb102)); have n5_ := Aside0.mk ((by rw [hg]; exact Nat.ne_of_lt (blk_lt (g := gb101) (o := .cells #[.int .i64 a0_0, .int .i64 a0_1, .int .i64 a0_2, .int .i64 a0_3, .int .i64 a0_4, .int .i64 a0_5, .int .i64 a0_6, .int .i64 a0_7, .int .i64 a0_8, .int .i64 a0_9, .bool a0_10, .bool a0_11, .slice A0_12 l0_12.length c0_12, .int .i64 a0_13] 28 (0, 0)) (by (with_reducible repeat (first | refine blk_drewN ?_ _ | refine blk_drew ?_ | refine blk_alloc ?_ _)); exact BK101.out)) : gb101 ≠ gb102)); have n6_ := Aside0.mk ((by rw [hg]; exact Nat.ne_of_gt (blk_lt (g := gb101) (o := .cells #[.int .i64 a0_0, .int .i64 a0_1, .int .i64 a0_2, .int .i64 a0_3, .int .i64 a0_4, .int .i64 a0_5, .int .i64 a0_6, .int .i64 a0_7, .int .i64 a0_8, .int .i64 a0_9, .bool a0_10, .bool a0_11, .slice A0_12 l0_12.length c0_12, .int .i64 a0_13] 28 (0, 0)) (by (with_reducible repeat (first | refine blk_drewN ?_ _ | refine blk_drew ?_ | refine blk_alloc ?_ _)); exact BK101.out)) : gb102 ≠ gb101)); clear BK101; clear HB; have BK101 := n0_; have HB := n1_; have BK102 := n2_; have GW102 := n3_; have GE102 := n4_; have NB101_102 := n5_; have NB102_101 := n6_; clear n0_ n1_ n2_ n3_ n4_ n5_ n6_; clear hb hbox hg))
  have n0_ := Aside0.mk (blk_drew BK101.out)
  have n1_ := Aside0.mk (blk_drew BK102.out)
  have n2_ := Aside0.mk (below_drew1 HB.out)
  clear BK101
  clear BK102
  clear HB
  have BK101 := n0_
  have BK102 := n1_
  have HB := n2_
  clear n0_ n1_ n2_
  refine start_ (n := 8) (S := fun w' => w'.cell? ⟨gb101, 0, none⟩ = some (.int .i64 a0_0) ∧ w'.cell? ⟨gb101, 1, none⟩ = some (.int .i64 a0_1) ∧ w'.cell? ⟨gb101, 2, none⟩ = some (.int .i64 a0_2) ∧ w'.cell? ⟨gb101, 3, none⟩ = some (.int .i64 a0_3) ∧ w'.cell? ⟨gb101, 4, none⟩ = some (.int .i64 a0_4) ∧ w'.cell? ⟨gb101, 5, none⟩ = some (.int .i64 a0_5) ∧ w'.cell? ⟨gb101, 6, none⟩ = some (.int .i64 a0_6) ∧ w'.cell? ⟨gb101, 7, none⟩ = some (.int .i64 a0_7) ∧ w'.cell? ⟨gb101, 8, none⟩ = some (.int .i64 a0_8) ∧ w'.cell? ⟨gb101, 9, none⟩ = some (.int .i64 a0_9) ∧ w'.cell? ⟨gb101, 10, none⟩ = some (.bool a0_10) ∧ w'.cell? ⟨gb101, 11, none⟩ = some (.bool a0_11) ∧ w'.cell? ⟨gb101, 12, none⟩ = some (.slice A0_12 l0_12.length c0_12) ∧ w'.cell? ⟨gb101, 13, none⟩ = some (.int .i64 a0_13) ∧ w'.cell? ⟨gb102, 0, none⟩ = some (.int .i64 a1_0) ∧ w'.cell? ⟨gb102, 1, none⟩ = some (.int .i64 a1_1) ∧ w'.cell? ⟨gb102, 2, none⟩ = some (.int .i64 a1_2) ∧ w'.cell? ⟨gb102, 3, none⟩ = some (.int .i64 a1_3) ∧ w'.cell? ⟨gb102, 4, none⟩ = some (.int .i64 a1_4) ∧ w'.cell? ⟨gb102, 5, none⟩ = some (.int .i64 a1_5) ∧ w'.cell? ⟨gb102, 6, none⟩ = some (.int .i64 a1_6) ∧ w'.cell? ⟨gb102, 7, none⟩ = some (.int .i64 a1_7) ∧ w'.cell? ⟨gb102, 8, none⟩ = some (.int .i64 a1_8) ∧ w'.cell? ⟨gb102, 9, none⟩ = some (.int .i64 a1_9) ∧ w'.cell? ⟨gb102, 10, none⟩ = some (.bool a1_10) ∧ w'.cell? ⟨gb102, 11, none⟩ = some (.bool a1_11) ∧ w'.cell? ⟨gb102, 12, none⟩ = some (.slice A1_12 l1_12.length c1_12) ∧ w'.cell? ⟨gb102, 13, none⟩ = some (.int .i64 a1_13)) (ds := []) #[false, false, false, false, false, false, false, false] (by kernel_rfl) rfl rfl ⟨(blk_cell BK101.out 0).trans rfl, (blk_cell BK101.out 1).trans rfl, (blk_cell BK101.out 2).trans rfl, (blk_cell BK101.out 3).trans rfl, (blk_cell BK101.out 4).trans rfl, (blk_cell BK101.out 5).trans rfl, (blk_cell BK101.out 6).trans rfl, (blk_cell BK101.out 7).trans rfl, (blk_cell BK101.out 8).trans rfl, (blk_cell BK101.out 9).trans rfl, (blk_cell BK101.out 10).trans rfl, (blk_cell BK101.out 11).trans rfl, (blk_cell BK101.out 12).trans rfl, (blk_cell BK101.out 13).trans rfl, (blk_cell BK102.out 0).trans rfl, (blk_cell BK102.out 1).trans rfl, (blk_cell BK102.out 2).trans rfl, (blk_cell BK102.out 3).trans rfl, (blk_cell BK102.out 4).trans rfl, (blk_cell BK102.out 5).trans rfl, (blk_cell BK102.out 6).trans rfl, (blk_cell BK102.out 7).trans rfl, (blk_cell BK102.out 8).trans rfl, (blk_cell BK102.out 9).trans rfl, (blk_cell BK102.out 10).trans rfl, (blk_cell BK102.out 11).trans rfl, (blk_cell BK102.out 12).trans rfl, (blk_cell BK102.out 13).trans rfl⟩ (fun hHeld => ?_); refine with_tabW decorumref18_Same.tab1 decorumref18_Same.bits1 (fun HT_ HW_ => ?_)
  generalize w5.drew = w6 at BK101 BK102 HB hHeld ⊢
  refine pure_ (i := 0) (N := some 8) (v := ?_) (a' := ?_) #[true, false, false, false, false, false, false, false] rfl rfl (any_of HT_.out (by kernel_rfl)) (fun _ _ _ h => h) (Or.inl ⟨by rfl, ?_⟩) ?_ ?_
  rotate_left
  · intro w'
    go_simp
    with_reducible rfl
  rotate_left
  · simp only [Act.put, List.setIfInBounds_toArray, List.set_cons_zero, List.set_cons_succ, i64_w, i32_w]
    rfl
  refine pure_ (i := 2) (N := some 10) (v := ?_) (a' := ?_) #[true, false, true, false, false, false, false, false] rfl rfl (any_of HT_.out (by kernel_rfl)) (fun _ _ _ h => h) (Or.inl ⟨by rfl, ?_⟩) ?_ ?_
  rotate_left
  · intro w'
    go_simp
    with_reducible rfl
  rotate_left
  · simp only [Act.put, List.setIfInBounds_toArray, List.set_cons_zero, List.set_cons_succ, i64_w, i32_w]
    rfl
  refine take_ (i := 1) (N := some 9) (v := ?_) (a' := ?_) #[true, true, true, false, false, false, false, false] rfl rfl (take_ofW HT_.out HW_.out (by kernel_rfl)) (fun _ _ _ h => h) (Or.inl ⟨by rfl, ?_⟩) hHeld ?_ ?_
  rotate_left
  · rintro w' ⟨s0, s1, s2, s3, s4, s5, s6, s7, s8, s9, s10, s11, s12, s13, s14, s15, s16, s17, s18, s19, s20, s21, s22, s23, s24, s25, s26, s27⟩
    go_simp
    with_reducible rfl
  rotate_left
  · simp only [Act.put, List.setIfInBounds_toArray, List.set_cons_zero, List.set_cons_succ, i64_w, i32_w]
    rfl
  refine take_ (i := 3) (N := some 11) (v := ?_) (a' := ?_) #[true, true, true, true, false, false, false, false] rfl rfl (take_ofW HT_.out HW_.out (by kernel_rfl)) (fun _ _ _ h => h) (Or.inl ⟨by rfl, ?_⟩) hHeld ?_ ?_
  rotate_left
  · rintro w' ⟨s0, s1, s2, s3, s4, s5, s6, s7, s8, s9, s10, s11, s12, s13, s14, s15, s16, s17, s18, s19, s20, s21, s22, s23, s24, s25, s26, s27⟩
    go_simp
    with_reducible rfl
  rotate_left
  · simp only [Act.put, List.setIfInBounds_toArray, List.set_cons_zero, List.set_cons_succ, i64_w, i32_w]
    rfl
  refine join_ (σ := Nat × Nat) 2 #[true, true, true, true, true, true, false, false] (fun s_ => [(5, .pointer (some ⟨s_.1, 0, none⟩)), (6, .pointer (some ⟨s_.2, 0, none⟩))]) (fun s_ w' => (w'.cell? ⟨gb101, 0, none⟩ = some (.int .i64 a0_0) ∧ w'.cell? ⟨gb101, 1, none⟩ = some (.int .i64 a0_1) ∧ w'.cell? ⟨gb101, 2, none⟩ = some (.int .i64 a0_2) ∧ w'.cell? ⟨gb101, 3, none⟩ = some (.int .i64 a0_3) ∧ w'.cell? ⟨gb101, 4, none⟩ = some (.int .i64 a0_4) ∧ w'.cell? ⟨gb101, 5, none⟩ = some (.int .i64 a0_5) ∧ w'.cell? ⟨gb101, 6, none⟩ = some (.int .i64 a0_6) ∧ w'.cell? ⟨gb101, 7, none⟩ = some (.int .i64 a0_7) ∧ w'.cell? ⟨gb101, 8, none⟩ = some (.int .i64 a0_8) ∧ w'.cell? ⟨gb101, 9, none⟩ = some (.int .i64 a0_9) ∧ w'.cell? ⟨gb101, 10, none⟩ = some (.bool a0_10) ∧ w'.cell? ⟨gb101, 11, none⟩ = some (.bool a0_11) ∧ w'.cell? ⟨gb101, 12, none⟩ = some (.slice A0_12 l0_12.length c0_12) ∧ w'.cell? ⟨gb101, 13, none⟩ = some (.int .i64 a0_13) ∧ w'.cell? ⟨gb102, 0, none⟩ = some (.int .i64 a1_0) ∧ w'.cell? ⟨gb102, 1, none⟩ = some (.int .i64 a1_1) ∧ w'.cell? ⟨gb102, 2, none⟩ = some (.int .i64 a1_2) ∧ w'.cell? ⟨gb102, 3, none⟩ = some (.int .i64 a1_3) ∧ w'.cell? ⟨gb102, 4, none⟩ = some (.int .i64 a1_4) ∧ w'.cell? ⟨gb102, 5, none⟩ = some (.int .i64 a1_5) ∧ w'.cell? ⟨gb102, 6, none⟩ = some (.int .i64 a1_6) ∧ w'.cell? ⟨gb102, 7, none⟩ = some (.int .i64 a1_7) ∧ w'.cell? ⟨gb102, 8, none⟩ = some (.int .i64 a1_8) ∧ w'.cell? ⟨gb102, 9, none⟩ = some (.int .i64 a1_9) ∧ w'.cell? ⟨gb102, 10, none⟩ = some (.bool a1_10) ∧ w'.cell? ⟨gb102, 11, none⟩ = some (.bool a1_11) ∧ w'.cell? ⟨gb102, 12, none⟩ = some (.slice A1_12 l1_12.length c1_12) ∧ w'.cell? ⟨gb102, 13, none⟩ = some (.int .i64 a1_13)) ∧ (w'.heap[gb101]? = some (.cells #[.int .i64 a0_0, .int .i64 a0_1, .int .i64 a0_2, .int .i64 a0_3, .int .i64 a0_4, .int .i64 a0_5, .int .i64 a0_6, .int .i64 a0_7, .int .i64 a0_8, .int .i64 a0_9, .bool a0_10, .bool a0_11, .slice A0_12 l0_12.length c0_12, .int .i64 a0_13] 28 (0, 0))) ∧ (w'.heap[gb102]? = some (.cells #[.int .i64 a1_0, .int .i64 a1_1, .int .i64 a1_2, .int .i64 a1_3, .int .i64 a1_4, .int .i64 a1_5, .int .i64 a1_6, .int .i64 a1_7, .int .i64 a1_8, .int .i64 a1_9, .bool a1_10, .bool a1_11, .slice A1_12 l1_12.length c1_12, .int .i64 a1_13] 28 (0, 0))) ∧ (w'.heap[s_.1]? = some (.cells #[.bool false, .bool false, .slice none 0 0, .int .i64 0] 26 (0, 0))) ∧ (w'.heap[s_.2]? = some (.cells #[.bool false, .bool false, .slice none 0 0, .int .i64 0] 26 (0, 0))) ∧ (w.heap.size ≤ s_.1) ∧ (w.heap.size ≤ s_.1) ∧ (gb101 ≠ s_.1) ∧ (s_.1 ≠ gb101) ∧ (gb102 ≠ s_.1) ∧ (s_.1 ≠ gb102) ∧ (s_.2 ≠ s_.1) ∧ (s_.1 ≠ s_.2) ∧ (w.heap.size ≤ s_.2) ∧ (w.heap.size ≤ s_.2) ∧ (gb101 ≠ s_.2) ∧ (s_.2 ≠ gb101) ∧ (gb102 ≠ s_.2) ∧ (s_.2 ≠ gb102) ∧ (Below w.heap.size w w')) ?_ ?_
  rotate_left
  · intro hCont
    refine two_ (i := 4) (j := 5) (Ni := some 5) (Nj := some 6) #[true, true, true, true, true, false, false, false] #[true, true, true, true, false, true, false, false] rfl rfl rfl rfl (two_of HT_.out (by kernel_rfl)) (by decide) (by decide) (fun K hK => ?_) (fun K hK => ?_)
    · skip
      refine box_step ?hg (N := 5) ?hd (cs := #[.bool false, .bool false, .slice none 0 0, .int .i64 0]) (t := 26) ?hr ?_; (case hd => rfl); (case hg => rfl); (case hr => first | (go_simp; done) | (go_simp; rfl))
      intro gb103 hg w7 hbox hb
      have n0_ := Aside0.mk (blk_below (g := gb101) (o := .cells #[.int .i64 a0_0, .int .i64 a0_1, .int .i64 a0_2, .int .i64 a0_3, .int .i64 a0_4, .int .i64 a0_5, .int .i64 a0_6, .int .i64 a0_7, .int .i64 a0_8, .int .i64 a0_9, .bool a0_10, .bool a0_11, .slice A0_12 l0_12.length c0_12, .int .i64 a0_13] 28 (0, 0)) (by (with_reducible repeat (first | refine blk_drewN ?_ _ | refine blk_drew ?_ | refine blk_alloc ?_ _)); exact BK101.out) hb)
      have n1_ := Aside0.mk (blk_below (g := gb102) (o := .cells #[.int .i64 a1_0, .int .i64 a1_1, .int .i64 a1_2, .int .i64 a1_3, .int .i64 a1_4, .int .i64 a1_5, .int .i64 a1_6, .int .i64 a1_7, .int .i64 a1_8, .int .i64 a1_9, .bool a1_10, .bool a1_11, .slice A1_12 l1_12.length c1_12, .int .i64 a1_13] 28 (0, 0)) (by (with_reducible repeat (first | refine blk_drewN ?_ _ | refine blk_drew ?_ | refine blk_alloc ?_ _)); exact BK102.out) hb)
      have n2_ := Aside0.mk (below_step (by repeat (first | (with_reducible first | exact HB.out | apply below_alloc | apply pw_below_drewN | apply below_drew1 | refine below_set ?_ GE101.out | refine below_set ?_ GE102.out) | exact HB.out)) hb)
      have n3_ := Aside0.mk (hbox)
      have n4_ := Aside0.mk ((by rw [hg]; exact (below_size (by repeat (first | (with_reducible first | exact HB.out | apply below_alloc | apply pw_below_drewN | apply below_drew1 | refine below_set ?_ GE101.out | refine below_set ?_ GE102.out) | exact HB.out))) : w.heap.size ≤ gb103))
      have n5_ := Aside0.mk ((by rw [hg]; exact (below_size (by repeat (first | (with_reducible first | exact HB.out | apply below_alloc | apply pw_below_drewN | apply below_drew1 | refine below_set ?_ GE101.out | refine below_set ?_ GE102.out) | exact HB.out))) : w.heap.size ≤ gb103))
      have n6_ := Aside0.mk ((by rw [hg]; exact Nat.ne_of_lt (blk_lt (g := gb101) (o := .cells #[.int .i64 a0_0, .int .i64 a0_1, .int .i64 a0_2, .int .i64 a0_3, .int .i64 a0_4, .int .i64 a0_5, .int .i64 a0_6, .int .i64 a0_7, .int .i64 a0_8, .int .i64 a0_9, .bool a0_10, .bool a0_11, .slice A0_12 l0_12.length c0_12, .int .i64 a0_13] 28 (0, 0)) (by (with_reducible repeat (first | refine blk_drewN ?_ _ | refine blk_drew ?_ | refine blk_alloc ?_ _)); exact BK101.out)) : gb101 ≠ gb103))
      have n7_ := Aside0.mk ((by rw [hg]; exact Nat.ne_of_gt (blk_lt (g := gb101) (o := .cells #[.int .i64 a0_0, .int .i64 a0_1, .int .i64 a0_2, .int .i64 a0_3, .int .i64 a0_4, .int .i64 a0_5, .int .i64 a0_6, .int .i64 a0_7, .int .i64 a0_8, .int .i64 a0_9, .bool a0_10, .bool a0_11, .slice A0_12 l0_12.length c0_12, .int .i64 a0_13] 28 (0, 0)) (by (with_reducible repeat (first | refine blk_drewN ?_ _ | refine blk_drew ?_ | refine blk_alloc ?_ _)); exact BK101.out)) : gb103 ≠ gb101))
      have n8_ := Aside0.mk ((by rw [hg]; exact Nat.ne_of_lt (blk_lt (g := gb102) (o := .cells #[.int .i64 a1_0, .int .i64 a1_1, .int .i64 a1_2, .int .i64 a1_3, .int .i64 a1_4, .int .i64 a1_5, .int .i64 a1_6, .int .i64 a1_7, .int .i64 a1_8, .int .i64 a1_9, .bool a1_10, .bool a1_11, .slice A1_12 l1_12.length c1_12, .int .i64 a1_13] 28 (0, 0)) (by (with_reducible repeat (first | refine blk_drewN ?_ _ | refine blk_drew ?_ | refine blk_alloc ?_ _)); exact BK102.out)) : gb102 ≠ gb103))
      have n9_ := Aside0.mk ((by rw [hg]; exact Nat.ne_of_gt (blk_lt (g := gb102) (o := .cells #[.int .i64 a1_0, .int .i64 a1_1, .int .i64 a1_2, .int .i64 a1_3, .int .i64 a1_4, .int .i64 a1_5, .int .i64 a1_6, .int .i64 a1_7, .int .i64 a1_8, .int .i64 a1_9, .bool a1_10, .bool a1_11, .slice A1_12 l1_12.length c1_12, .int .i64 a1_13] 28 (0, 0)) (by (with_reducible repeat (first | refine blk_drewN ?_ _ | refine blk_drew ?_ | refine blk_alloc ?_ _)); exact BK102.out)) : gb103 ≠ gb102))
      clear BK101
      clear BK102
      clear HB
      have BK101 := n0_
      have BK102 := n1_
      have HB := n2_
      have BK103 := n3_
      have GW103 := n4_
      have GE103 := n5_
      have NB101_103 := n6_
      have NB103_101 := n7_
      have NB102_103 := n8_
      have NB103_102 := n9_
      clear n0_ n1_ n2_ n3_ n4_ n5_ n6_ n7_ n8_ n9_
      clear hb hbox hg
      refine hK.out _ _ ⟨(blk_cell BK101.out 0).trans rfl, (blk_cell BK101.out 1).trans rfl, (blk_cell BK101.out 2).trans rfl, (blk_cell BK101.out 3).trans rfl, (blk_cell BK101.out 4).trans rfl, (blk_cell BK101.out 5).trans rfl, (blk_cell BK101.out 6).trans rfl, (blk_cell BK101.out 7).trans rfl, (blk_cell BK101.out 8).trans rfl, (blk_cell BK101.out 9).trans rfl, (blk_cell BK101.out 10).trans rfl, (blk_cell BK101.out 11).trans rfl, (blk_cell BK101.out 12).trans rfl, (blk_cell BK101.out 13).trans rfl, (blk_cell BK102.out 0).trans rfl, (blk_cell BK102.out 1).trans rfl, (blk_cell BK102.out 2).trans rfl, (blk_cell BK102.out 3).trans rfl, (blk_cell BK102.out 4).trans rfl, (blk_cell BK102.out 5).trans rfl, (blk_cell BK102.out 6).trans rfl, (blk_cell BK102.out 7).trans rfl, (blk_cell BK102.out 8).trans rfl, (blk_cell BK102.out 9).trans rfl, (blk_cell BK102.out 10).trans rfl, (blk_cell BK102.out 11).trans rfl, (blk_cell BK102.out 12).trans rfl, (blk_cell BK102.out 13).trans rfl⟩ (fun hHeld => ?_)
      clear hK K
      refine norm_ (a' := ?_) ?_ ?_
      rotate_left
      · show Act.put _ (some 5) _ = _
        simp only [Act.put, List.setIfInBounds_toArray, List.set_cons_zero, List.set_cons_succ, i64_w, i32_w]
        rfl
      refine one_ (i := 5) (N := some 6) #[true, true, true, true, true, true, false, false] rfl rfl (one_of HT_.out (by kernel_rfl)) (by decide) (fun K hK => ?_)
      refine box_step ?hg (N := 6) ?hd (cs := #[.bool false, .bool false, .slice none 0 0, .int .i64 0]) (t := 26) ?hr ?_; (case hd => rfl); (case hg => rfl); (case hr => first | (go_simp; done) | (go_simp; rfl))
      intro gb104 hg w8 hbox hb
      have n0_ := Aside0.mk (blk_below (g := gb101) (o := .cells #[.int .i64 a0_0, .int .i64 a0_1, .int .i64 a0_2, .int .i64 a0_3, .int .i64 a0_4, .int .i64 a0_5, .int .i64 a0_6, .int .i64 a0_7, .int .i64 a0_8, .int .i64 a0_9, .bool a0_10, .bool a0_11, .slice A0_12 l0_12.length c0_12, .int .i64 a0_13] 28 (0, 0)) (by (with_reducible repeat (first | refine blk_drewN ?_ _ | refine blk_drew ?_ | refine blk_alloc ?_ _)); exact BK101.out) hb)
      have n1_ := Aside0.mk (blk_below (g := gb102) (o := .cells #[.int .i64 a1_0, .int .i64 a1_1, .int .i64 a1_2, .int .i64 a1_3, .int .i64 a1_4, .int .i64 a1_5, .int .i64 a1_6, .int .i64 a1_7, .int .i64 a1_8, .int .i64 a1_9, .bool a1_10, .bool a1_11, .slice A1_12 l1_12.length c1_12, .int .i64 a1_13] 28 (0, 0)) (by (with_reducible repeat (first | refine blk_drewN ?_ _ | refine blk_drew ?_ | refine blk_alloc ?_ _)); exact BK102.out) hb)
      have n2_ := Aside0.mk (blk_below (g := gb103) (o := .cells #[.bool false, .bool false, .slice none 0 0, .int .i64 0] 26 (0, 0)) (by (with_reducible repeat (first | refine blk_drewN ?_ _ | refine blk_drew ?_ | refine blk_alloc ?_ _)); exact BK103.out) hb)
      have n3_ := Aside0.mk (below_step (by repeat (first | (with_reducible first | exact HB.out | apply below_alloc | apply pw_below_drewN | apply below_drew1 | refine below_set ?_ GE101.out | refine below_set ?_ GE102.out | refine below_set ?_ GE103.out) | exact HB.out)) hb)
      have n4_ := Aside0.mk (hbox)
      have n5_ := Aside0.mk ((by rw [hg]; exact (below_size (by repeat (first | (with_reducible first | exact HB.out | apply below_alloc | apply pw_below_drewN | apply below_drew1 | refine below_set ?_ GE101.out | refine below_set ?_ GE102.out | refine below_set ?_ GE103.out) | exact HB.out))) : w.heap.size ≤ gb104))
      have n6_ := Aside0.mk ((by rw [hg]; exact (below_size (by repeat (first | (with_reducible first | exact HB.out | apply below_alloc | apply pw_below_drewN | apply below_drew1 | refine below_set ?_ GE101.out | refine below_set ?_ GE102.out | refine below_set ?_ GE103.out) | exact HB.out))) : w.heap.size ≤ gb104))
      have n7_ := Aside0.mk ((by rw [hg]; exact Nat.ne_of_lt (blk_lt (g := gb101) (o := .cells #[.int .i64 a0_0, .int .i64 a0_1, .int .i64 a0_2, .int .i64 a0_3, .int .i64 a0_4, .int .i64 a0_5, .int .i64 a0_6, .int .i64 a0_7, .int .i64 a0_8, .int .i64 a0_9, .bool a0_10, .bool a0_11, .slice A0_12 l0_12.length c0_12, .int .i64 a0_13] 28 (0, 0)) (by (with_reducible repeat (first | refine blk_drewN ?_ _ | refine blk_drew ?_ | refine blk_alloc ?_ _)); exact BK101.out)) : gb101 ≠ gb104))
      have n8_ := Aside0.mk ((by rw [hg]; exact Nat.ne_of_gt (blk_lt (g := gb101) (o := .cells #[.int .i64 a0_0, .int .i64 a0_1, .int .i64 a0_2, .int .i64 a0_3, .int .i64 a0_4, .int .i64 a0_5, .int .i64 a0_6, .int .i64 a0_7, .int .i64 a0_8, .int .i64 a0_9, .bool a0_10, .bool a0_11, .slice A0_12 l0_12.length c0_12, .int .i64 a0_13] 28 (0, 0)) (by (with_reducible repeat (first | refine blk_drewN ?_ _ | refine blk_drew ?_ | refine blk_alloc ?_ _)); exact BK101.out)) : gb104 ≠ gb101))
      have n9_ := Aside0.mk ((by rw [hg]; exact Nat.ne_of_lt (blk_lt (g := gb102) (o := .cells #[.int .i64 a1_0, .int .i64 a1_1, .int .i64 a1_2, .int .i64 a1_3, .int .i64 a1_4, .int .i64 a1_5, .int .i64 a1_6, .int .i64 a1_7, .int .i64 a1_8, .int .i64 a1_9, .bool a1_10, .bool a1_11, .slice A1_12 l1_12.length c1_12, .int .i64 a1_13] 28 (0, 0)) (by (with_reducible repeat (first | refine blk_drewN ?_ _ | refine blk_drew ?_ | refine blk_alloc ?_ _)); exact BK102.out)) : gb102 ≠ gb104))
      have n10_ := Aside0.mk ((by rw [hg]; exact Nat.ne_of_gt (blk_lt (g := gb102) (o := .cells #[.int .i64 a1_0, .int .i64 a1_1, .int .i64 a1_2, .int .i64 a1_3, .int .i64 a1_4, .int .i64 a1_5, .int .i64 a1_6, .int .i64 a1_7, .int .i64 a1_8, .int .i64 a1_9, .bool a1_10, .bool a1_11, .slice A1_12 l1_12.length c1_12, .int .i64 a1_13] 28 (0, 0)) (by (with_reducible repeat (first | refine blk_drewN ?_ _ | refine blk_drew ?_ | refine blk_alloc ?_ _)); exact BK102.out)) : gb104 ≠ gb102))
      have n11_ := Aside0.mk ((by rw [hg]; exact Nat.ne_of_lt (blk_lt (g := gb103) (o := .cells #[.bool false, .bool false, .slice none 0 0, .int .i64 0] 26 (0, 0)) (by (with_reducible repeat (first | refine blk_drewN ?_ _ | refine blk_drew ?_ | refine blk_alloc ?_ _)); exact BK103.out)) : gb103 ≠ gb104))
      have n12_ := Aside0.mk ((by rw [hg]; exact Nat.ne_of_gt (blk_lt (g := gb103) (o := .cells #[.bool false, .bool false, .slice none 0 0, .int .i64 0] 26 (0, 0)) (by (with_reducible repeat (first | refine blk_drewN ?_ _ | refine blk_drew ?_ | refine blk_alloc ?_ _)); exact BK103.out)) : gb104 ≠ gb103))
      clear BK101
      clear BK102
      clear BK103
      clear HB
      have BK101 := n0_
      have BK102 := n1_
      have BK103 := n2_
      have HB := n3_
      have BK104 := n4_
      have GW104 := n5_
      have GE104 := n6_
      have NB101_104 := n7_
      have NB104_101 := n8_
      have NB102_104 := n9_
      have NB104_102 := n10_
      have NB103_104 := n11_
      have NB104_103 := n12_
      clear n0_ n1_ n2_ n3_ n4_ n5_ n6_ n7_ n8_ n9_ n10_ n11_ n12_
      clear hb hbox hg
      refine hK.out _ _ ⟨(blk_cell BK101.out 0).trans rfl, (blk_cell BK101.out 1).trans rfl, (blk_cell BK101.out 2).trans rfl, (blk_cell BK101.out 3).trans rfl, (blk_cell BK101.out 4).trans rfl, (blk_cell BK101.out 5).trans rfl, (blk_cell BK101.out 6).trans rfl, (blk_cell BK101.out 7).trans rfl, (blk_cell BK101.out 8).trans rfl, (blk_cell BK101.out 9).trans rfl, (blk_cell BK101.out 10).trans rfl, (blk_cell BK101.out 11).trans rfl, (blk_cell BK101.out 12).trans rfl, (blk_cell BK101.out 13).trans rfl, (blk_cell BK102.out 0).trans rfl, (blk_cell BK102.out 1).trans rfl, (blk_cell BK102.out 2).trans rfl, (blk_cell BK102.out 3).trans rfl, (blk_cell BK102.out 4).trans rfl, (blk_cell BK102.out 5).trans rfl, (blk_cell BK102.out 6).trans rfl, (blk_cell BK102.out 7).trans rfl, (blk_cell BK102.out 8).trans rfl, (blk_cell BK102.out 9).trans rfl, (blk_cell BK102.out 10).trans rfl, (blk_cell BK102.out 11).trans rfl, (blk_cell BK102.out 12).trans rfl, (blk_cell BK102.out 13).trans rfl⟩ (fun hHeld => ?_)
      clear hK K
      refine norm_ (a' := ?_) ?_ ?_
      rotate_left
      · show Act.put _ (some 6) _ = _
        simp only [Act.put, List.setIfInBounds_toArray, List.set_cons_zero, List.set_cons_succ, i64_w, i32_w]
        rfl
      exact norm_ (by simp only [putAll, Act.put, List.setIfInBounds_toArray, List.set_cons_zero, List.set_cons_succ]) (hCont (gb103, gb104) _ ⟨hHeld, (by (with_reducible repeat (first | refine blk_drewN ?_ _ | refine blk_drew ?_ | refine blk_alloc ?_ _)); exact BK101.out), (by (with_reducible repeat (first | refine blk_drewN ?_ _ | refine blk_drew ?_ | refine blk_alloc ?_ _)); exact BK102.out), (by (with_reducible repeat (first | refine blk_drewN ?_ _ | refine blk_drew ?_ | refine blk_alloc ?_ _)); exact BK103.out), (by (with_reducible repeat (first | refine blk_drewN ?_ _ | refine blk_drew ?_ | refine blk_alloc ?_ _)); exact BK104.out), GW103.out, GE103.out, NB101_103.out, NB103_101.out, NB102_103.out, NB103_102.out, NB104_103.out, NB103_104.out, GW104.out, GE104.out, NB101_104.out, NB104_101.out, NB102_104.out, NB104_102.out, (by repeat (first | (with_reducible first | exact HB.out | apply below_alloc | apply pw_below_drewN | apply below_drew1 | refine below_set ?_ GE101.out | refine below_set ?_ GE102.out | refine below_set ?_ GE103.out | refine below_set ?_ GE104.out) | exact HB.out))⟩)
    · skip
      refine box_step ?hg (N := 6) ?hd (cs := #[.bool false, .bool false, .slice none 0 0, .int .i64 0]) (t := 26) ?hr ?_; (case hd => rfl); (case hg => rfl); (case hr => first | (go_simp; done) | (go_simp; rfl))
      intro gb104 hg w7 hbox hb
      have n0_ := Aside0.mk (blk_below (g := gb101) (o := .cells #[.int .i64 a0_0, .int .i64 a0_1, .int .i64 a0_2, .int .i64 a0_3, .int .i64 a0_4, .int .i64 a0_5, .int .i64 a0_6, .int .i64 a0_7, .int .i64 a0_8, .int .i64 a0_9, .bool a0_10, .bool a0_11, .slice A0_12 l0_12.length c0_12, .int .i64 a0_13] 28 (0, 0)) (by (with_reducible repeat (first | refine blk_drewN ?_ _ | refine blk_drew ?_ | refine blk_alloc ?_ _)); exact BK101.out) hb)
      have n1_ := Aside0.mk (blk_below (g := gb102) (o := .cells #[.int .i64 a1_0, .int .i64 a1_1, .int .i64 a1_2, .int .i64 a1_3, .int .i64 a1_4, .int .i64 a1_5, .int .i64 a1_6, .int .i64 a1_7, .int .i64 a1_8, .int .i64 a1_9, .bool a1_10, .bool a1_11, .slice A1_12 l1_12.length c1_12, .int .i64 a1_13] 28 (0, 0)) (by (with_reducible repeat (first | refine blk_drewN ?_ _ | refine blk_drew ?_ | refine blk_alloc ?_ _)); exact BK102.out) hb)
      have n2_ := Aside0.mk (below_step (by repeat (first | (with_reducible first | exact HB.out | apply below_alloc | apply pw_below_drewN | apply below_drew1 | refine below_set ?_ GE101.out | refine below_set ?_ GE102.out) | exact HB.out)) hb)
      have n3_ := Aside0.mk (hbox)
      have n4_ := Aside0.mk ((by rw [hg]; exact (below_size (by repeat (first | (with_reducible first | exact HB.out | apply below_alloc | apply pw_below_drewN | apply below_drew1 | refine below_set ?_ GE101.out | refine below_set ?_ GE102.out) | exact HB.out))) : w.heap.size ≤ gb104))
      have n5_ := Aside0.mk ((by rw [hg]; exact (below_size (by repeat (first | (with_reducible first | exact HB.out | apply below_alloc | apply pw_below_drewN | apply below_drew1 | refine below_set ?_ GE101.out | refine below_set ?_ GE102.out) | exact HB.out))) : w.heap.size ≤ gb104))
      have n6_ := Aside0.mk ((by rw [hg]; exact Nat.ne_of_lt (blk_lt (g := gb101) (o := .cells #[.int .i64 a0_0, .int .i64 a0_1, .int .i64 a0_2, .int .i64 a0_3, .int .i64 a0_4, .int .i64 a0_5, .int .i64 a0_6, .int .i64 a0_7, .int .i64 a0_8, .int .i64 a0_9, .bool a0_10, .bool a0_11, .slice A0_12 l0_12.length c0_12, .int .i64 a0_13] 28 (0, 0)) (by (with_reducible repeat (first | refine blk_drewN ?_ _ | refine blk_drew ?_ | refine blk_alloc ?_ _)); exact BK101.out)) : gb101 ≠ gb104))
      have n7_ := Aside0.mk ((by rw [hg]; exact Nat.ne_of_gt (blk_lt (g := gb101) (o := .cells #[.int .i64 a0_0, .int .i64 a0_1, .int .i64 a0_2, .int .i64 a0_3, .int .i64 a0_4, .int .i64 a0_5, .int .i64 a0_6, .int .i64 a0_7, .int .i64 a0_8, .int .i64 a0_9, .bool a0_10, .bool a0_11, .slice A0_12 l0_12.length c0_12, .int .i64 a0_13] 28 (0, 0)) (by (with_reducible repeat (first | refine blk_drewN ?_ _ | refine blk_drew ?_ | refine blk_alloc ?_ _)); exact BK101.out)) : gb104 ≠ gb101))
      have n8_ := Aside0.mk ((by rw [hg]; exact Nat.ne_of_lt (blk_lt (g := gb102) (o := .cells #[.int .i64 a1_0, .int .i64 a1_1, .int .i64 a1_2, .int .i64 a1_3, .int .i64 a1_4, .int .i64 a1_5, .int .i64 a1_6, .int .i64 a1_7, .int .i64 a1_8, .int .i64 a1_9, .bool a1_10, .bool a1_11, .slice A1_12 l1_12.length c1_12, .int .i64 a1_13] 28 (0, 0)) (by (with_reducible repeat (first | refine blk_drewN ?_ _ | refine blk_drew ?_ | refine blk_alloc ?_ _)); exact BK102.out)) : gb102 ≠ gb104))
      have n9_ := Aside0.mk ((by rw [hg]; exact Nat.ne_of_gt (blk_lt (g := gb102) (o := .cells #[.int .i64 a1_0, .int .i64 a1_1, .int .i64 a1_2, .int .i64 a1_3, .int .i64 a1_4, .int .i64 a1_5, .int .i64 a1_6, .int .i64 a1_7, .int .i64 a1_8, .int .i64 a1_9, .bool a1_10, .bool a1_11, .slice A1_12 l1_12.length c1_12, .int .i64 a1_13] 28 (0, 0)) (by (with_reducible repeat (first | refine blk_drewN ?_ _ | refine blk_drew ?_ | refine blk_alloc ?_ _)); exact BK102.out)) : gb104 ≠ gb102))
      clear BK101
      clear BK102
      clear HB
      have BK101 := n0_
      have BK102 := n1_
      have HB := n2_
      have BK104 := n3_
      have GW104 := n4_
      have GE104 := n5_
      have NB101_104 := n6_
      have NB104_101 := n7_
      have NB102_104 := n8_
      have NB104_102 := n9_
      clear n0_ n1_ n2_ n3_ n4_ n5_ n6_ n7_ n8_ n9_
      clear hb hbox hg
      refine hK.out _ _ ⟨(blk_cell BK101.out 0).trans rfl, (blk_cell BK101.out 1).trans rfl, (blk_cell BK101.out 2).trans rfl, (blk_cell BK101.out 3).trans rfl, (blk_cell BK101.out 4).trans rfl, (blk_cell BK101.out 5).trans rfl, (blk_cell BK101.out 6).trans rfl, (blk_cell BK101.out 7).trans rfl, (blk_cell BK101.out 8).trans rfl, (blk_cell BK101.out 9).trans rfl, (blk_cell BK101.out 10).trans rfl, (blk_cell BK101.out 11).trans rfl, (blk_cell BK101.out 12).trans rfl, (blk_cell BK101.out 13).trans rfl, (blk_cell BK102.out 0).trans rfl, (blk_cell BK102.out 1).trans rfl, (blk_cell BK102.out 2).trans rfl, (blk_cell BK102.out 3).trans rfl, (blk_cell BK102.out 4).trans rfl, (blk_cell BK102.out 5).trans rfl, (blk_cell BK102.out 6).trans rfl, (blk_cell BK102.out 7).trans rfl, (blk_cell BK102.out 8).trans rfl, (blk_cell BK102.out 9).trans rfl, (blk_cell BK102.out 10).trans rfl, (blk_cell BK102.out 11).trans rfl, (blk_cell BK102.out 12).trans rfl, (blk_cell BK102.out 13).trans rfl⟩ (fun hHeld => ?_)
      clear hK K
      refine norm_ (a' := ?_) ?_ ?_
      rotate_left
      · show Act.put _ (some 6) _ = _
        simp only [Act.put, List.setIfInBounds_toArray, List.set_cons_zero, List.set_cons_succ, i64_w, i32_w]
        rfl
      refine one_ (i := 4) (N := some 5) #[true, true, true, true, true, true, false, false] rfl rfl (one_of HT_.out (by kernel_rfl)) (by decide) (fun K hK => ?_)
      refine box_step ?hg (N := 5) ?hd (cs := #[.bool false, .bool false, .slice none 0 0, .int .i64 0]) (t := 26) ?hr ?_; (case hd => rfl); (case hg => rfl); (case hr => first | (go_simp; done) | (go_simp; rfl))
      intro gb103 hg w8 hbox hb
      have n0_ := Aside0.mk (blk_below (g := gb101) (o := .cells #[.int .i64 a0_0, .int .i64 a0_1, .int .i64 a0_2, .int .i64 a0_3, .int .i64 a0_4, .int .i64 a0_5, .int .i64 a0_6, .int .i64 a0_7, .int .i64 a0_8, .int .i64 a0_9, .bool a0_10, .bool a0_11, .slice A0_12 l0_12.length c0_12, .int .i64 a0_13] 28 (0, 0)) (by (with_reducible repeat (first | refine blk_drewN ?_ _ | refine blk_drew ?_ | refine blk_alloc ?_ _)); exact BK101.out) hb)
      have n1_ := Aside0.mk (blk_below (g := gb102) (o := .cells #[.int .i64 a1_0, .int .i64 a1_1, .int .i64 a1_2, .int .i64 a1_3, .int .i64 a1_4, .int .i64 a1_5, .int .i64 a1_6, .int .i64 a1_7, .int .i64 a1_8, .int .i64 a1_9, .bool a1_10, .bool a1_11, .slice A1_12 l1_12.length c1_12, .int .i64 a1_13] 28 (0, 0)) (by (with_reducible repeat (first | refine blk_drewN ?_ _ | refine blk_drew ?_ | refine blk_alloc ?_ _)); exact BK102.out) hb)
      have n2_ := Aside0.mk (blk_below (g := gb104) (o := .cells #[.bool false, .bool false, .slice none 0 0, .int .i64 0] 26 (0, 0)) (by (with_reducible repeat (first | refine blk_drewN ?_ _ | refine blk_drew ?_ | refine blk_alloc ?_ _)); exact BK104.out) hb)
      have n3_ := Aside0.mk (below_step (by repeat (first | (with_reducible first | exact HB.out | apply below_alloc | apply pw_below_drewN | apply below_drew1 | refine below_set ?_ GE101.out | refine below_set ?_ GE102.out | refine below_set ?_ GE104.out) | exact HB.out)) hb)
      have n4_ := Aside0.mk (hbox)
      have n5_ := Aside0.mk ((by rw [hg]; exact (below_size (by repeat (first | (with_reducible first | exact HB.out | apply below_alloc | apply pw_below_drewN | apply below_drew1 | refine below_set ?_ GE101.out | refine below_set ?_ GE102.out | refine below_set ?_ GE104.out) | exact HB.out))) : w.heap.size ≤ gb103))
      have n6_ := Aside0.mk ((by rw [hg]; exact (below_size (by repeat (first | (with_reducible first | exact HB.out | apply below_alloc | apply pw_below_drewN | apply below_drew1 | refine below_set ?_ GE101.out | refine below_set ?_ GE102.out | refine below_set ?_ GE104.out) | exact HB.out))) : w.heap.size ≤ gb103))
      have n7_ := Aside0.mk ((by rw [hg]; exact Nat.ne_of_lt (blk_lt (g := gb101) (o := .cells #[.int .i64 a0_0, .int .i64 a0_1, .int .i64 a0_2, .int .i64 a0_3, .int .i64 a0_4, .int .i64 a0_5, .int .i64 a0_6, .int .i64 a0_7, .int .i64 a0_8, .int .i64 a0_9, .bool a0_10, .bool a0_11, .slice A0_12 l0_12.length c0_12, .int .i64 a0_13] 28 (0, 0)) (by (with_reducible repeat (first | refine blk_drewN ?_ _ | refine blk_drew ?_ | refine blk_alloc ?_ _)); exact BK101.out)) : gb101 ≠ gb103))
      have n8_ := Aside0.mk ((by rw [hg]; exact Nat.ne_of_gt (blk_lt (g := gb101) (o := .cells #[.int .i64 a0_0, .int .i64 a0_1, .int .i64 a0_2, .int .i64 a0_3, .int .i64 a0_4, .int .i64 a0_5, .int .i64 a0_6, .int .i64 a0_7, .int .i64 a0_8, .int .i64 a0_9, .bool a0_10, .bool a0_11, .slice A0_12 l0_12.length c0_12, .int .i64 a0_13] 28 (0, 0)) (by (with_reducible repeat (first | refine blk_drewN ?_ _ | refine blk_drew ?_ | refine blk_alloc ?_ _)); exact BK101.out)) : gb103 ≠ gb101))
      have n9_ := Aside0.mk ((by rw [hg]; exact Nat.ne_of_lt (blk_lt (g := gb102) (o := .cells #[.int .i64 a1_0, .int .i64 a1_1, .int .i64 a1_2, .int .i64 a1_3, .int .i64 a1_4, .int .i64 a1_5, .int .i64 a1_6, .int .i64 a1_7, .int .i64 a1_8, .int .i64 a1_9, .bool a1_10, .bool a1_11, .slice A1_12 l1_12.length c1_12, .int .i64 a1_13] 28 (0, 0)) (by (with_reducible repeat (first | refine blk_drewN ?_ _ | refine blk_drew ?_ | refine blk_alloc ?_ _)); exact BK102.out)) : gb102 ≠ gb103))
      have n10_ := Aside0.mk ((by rw [hg]; exact Nat.ne_of_gt (blk_lt (g := gb102) (o := .cells #[.int .i64 a1_0, .int .i64 a1_1, .int .i64 a1_2, .int .i64 a1_3, .int .i64 a1_4, .int .i64 a1_5, .int .i64 a1_6, .int .i64 a1_7, .int .i64 a1_8, .int .i64 a1_9, .bool a1_10, .bool a1_11, .slice A1_12 l1_12.length c1_12, .int .i64 a1_13] 28 (0, 0)) (by (with_reducible repeat (first | refine blk_drewN ?_ _ | refine blk_drew ?_ | refine blk_alloc ?_ _)); exact BK102.out)) : gb103 ≠ gb102))
      have n11_ := Aside0.mk ((by rw [hg]; exact Nat.ne_of_lt (blk_lt (g := gb104) (o := .cells #[.bool false, .bool false, .slice none 0 0, .int .i64 0] 26 (0, 0)) (by (with_reducible repeat (first | refine blk_drewN ?_ _ | refine blk_drew ?_ | refine blk_alloc ?_ _)); exact BK104.out)) : gb104 ≠ gb103))
      have n12_ := Aside0.mk ((by rw [hg]; exact Nat.ne_of_gt (blk_lt (g := gb104) (o := .cells #[.bool false, .bool false, .slice none 0 0, .int .i64 0] 26 (0, 0)) (by (with_reducible repeat (first | refine blk_drewN ?_ _ | refine blk_drew ?_ | refine blk_alloc ?_ _)); exact BK104.out)) : gb103 ≠ gb104))
      clear BK101
      clear BK102
      clear BK104
      clear HB
      have BK101 := n0_
      have BK102 := n1_
      have BK104 := n2_
      have HB := n3_
      have BK103 := n4_
      have GW103 := n5_
      have GE103 := n6_
      have NB101_103 := n7_
      have NB103_101 := n8_
      have NB102_103 := n9_
      have NB103_102 := n10_
      have NB104_103 := n11_
      have NB103_104 := n12_
      clear n0_ n1_ n2_ n3_ n4_ n5_ n6_ n7_ n8_ n9_ n10_ n11_ n12_
      clear hb hbox hg
      refine hK.out _ _ ⟨(blk_cell BK101.out 0).trans rfl, (blk_cell BK101.out 1).trans rfl, (blk_cell BK101.out 2).trans rfl, (blk_cell BK101.out 3).trans rfl, (blk_cell BK101.out 4).trans rfl, (blk_cell BK101.out 5).trans rfl, (blk_cell BK101.out 6).trans rfl, (blk_cell BK101.out 7).trans rfl, (blk_cell BK101.out 8).trans rfl, (blk_cell BK101.out 9).trans rfl, (blk_cell BK101.out 10).trans rfl, (blk_cell BK101.out 11).trans rfl, (blk_cell BK101.out 12).trans rfl, (blk_cell BK101.out 13).trans rfl, (blk_cell BK102.out 0).trans rfl, (blk_cell BK102.out 1).trans rfl, (blk_cell BK102.out 2).trans rfl, (blk_cell BK102.out 3).trans rfl, (blk_cell BK102.out 4).trans rfl, (blk_cell BK102.out 5).trans rfl, (blk_cell BK102.out 6).trans rfl, (blk_cell BK102.out 7).trans rfl, (blk_cell BK102.out 8).trans rfl, (blk_cell BK102.out 9).trans rfl, (blk_cell BK102.out 10).trans rfl, (blk_cell BK102.out 11).trans rfl, (blk_cell BK102.out 12).trans rfl, (blk_cell BK102.out 13).trans rfl⟩ (fun hHeld => ?_)
      clear hK K
      refine norm_ (a' := ?_) ?_ ?_
      rotate_left
      · show Act.put _ (some 5) _ = _
        simp only [Act.put, List.setIfInBounds_toArray, List.set_cons_zero, List.set_cons_succ, i64_w, i32_w]
        rfl
      exact norm_ (by simp only [putAll, Act.put, List.setIfInBounds_toArray, List.set_cons_zero, List.set_cons_succ]) (hCont (gb103, gb104) _ ⟨hHeld, (by (with_reducible repeat (first | refine blk_drewN ?_ _ | refine blk_drew ?_ | refine blk_alloc ?_ _)); exact BK101.out), (by (with_reducible repeat (first | refine blk_drewN ?_ _ | refine blk_drew ?_ | refine blk_alloc ?_ _)); exact BK102.out), (by (with_reducible repeat (first | refine blk_drewN ?_ _ | refine blk_drew ?_ | refine blk_alloc ?_ _)); exact BK103.out), (by (with_reducible repeat (first | refine blk_drewN ?_ _ | refine blk_drew ?_ | refine blk_alloc ?_ _)); exact BK104.out), GW103.out, GE103.out, NB101_103.out, NB103_101.out, NB102_103.out, NB103_102.out, NB104_103.out, NB103_104.out, GW104.out, GE104.out, NB101_104.out, NB104_101.out, NB102_104.out, NB104_102.out, (by repeat (first | (with_reducible first | exact HB.out | apply below_alloc | apply pw_below_drewN | apply below_drew1 | refine below_set ?_ GE101.out | refine below_set ?_ GE102.out | refine below_set ?_ GE104.out | refine below_set ?_ GE103.out) | exact HB.out))⟩)
  rintro ⟨gb103, gb104⟩ w9 ⟨hS_, h0_, h1_, h2_, h3_, h4_, h5_, h6_, h7_, h8_, h9_, h10_, h11_, h12_, h13_, h14_, h15_, h16_, h17_, h18_⟩
  have n0_ : Aside0 (w9.heap[gb101]? = some (.cells #[.int .i64 a0_0, .int .i64 a0_1, .int .i64 a0_2, .int .i64 a0_3, .int .i64 a0_4, .int .i64 a0_5, .int .i64 a0_6, .int .i64 a0_7, .int .i64 a0_8, .int .i64 a0_9, .bool a0_10, .bool a0_11, .slice A0_12 l0_12.length c0_12, .int .i64 a0_13] 28 (0, 0))) := ⟨h0_⟩
  have n1_ : Aside0 (w9.heap[gb102]? = some (.cells #[.int .i64 a1_0, .int .i64 a1_1, .int .i64 a1_2, .int .i64 a1_3, .int .i64 a1_4, .int .i64 a1_5, .int .i64 a1_6, .int .i64 a1_7, .int .i64 a1_8, .int .i64 a1_9, .bool a1_10, .bool a1_11, .slice A1_12 l1_12.length c1_12, .int .i64 a1_13] 28 (0, 0))) := ⟨h1_⟩
  have n2_ : Aside0 (w9.heap[gb103]? = some (.cells #[.bool false, .bool false, .slice none 0 0, .int .i64 0] 26 (0, 0))) := ⟨h2_⟩
  have n3_ : Aside0 (w9.heap[gb104]? = some (.cells #[.bool false, .bool false, .slice none 0 0, .int .i64 0] 26 (0, 0))) := ⟨h3_⟩
  have n4_ : Aside0 (w.heap.size ≤ gb103) := ⟨h4_⟩
  have n5_ : Aside0 (w.heap.size ≤ gb103) := ⟨h5_⟩
  have n6_ : Aside0 (gb101 ≠ gb103) := ⟨h6_⟩
  have n7_ : Aside0 (gb103 ≠ gb101) := ⟨h7_⟩
  have n8_ : Aside0 (gb102 ≠ gb103) := ⟨h8_⟩
  have n9_ : Aside0 (gb103 ≠ gb102) := ⟨h9_⟩
  have n10_ : Aside0 (gb104 ≠ gb103) := ⟨h10_⟩
  have n11_ : Aside0 (gb103 ≠ gb104) := ⟨h11_⟩
  have n12_ : Aside0 (w.heap.size ≤ gb104) := ⟨h12_⟩
  have n13_ : Aside0 (w.heap.size ≤ gb104) := ⟨h13_⟩
  have n14_ : Aside0 (gb101 ≠ gb104) := ⟨h14_⟩
  have n15_ : Aside0 (gb104 ≠ gb101) := ⟨h15_⟩
  have n16_ : Aside0 (gb102 ≠ gb104) := ⟨h16_⟩
  have n17_ : Aside0 (gb104 ≠ gb102) := ⟨h17_⟩
  have n18_ : Aside0 (Below w.heap.size w w9) := ⟨h18_⟩
  clear BK101
  clear BK102
  clear HB
  clear h0_ h1_ h2_ h3_ h4_ h5_ h6_ h7_ h8_ h9_ h10_ h11_ h12_ h13_ h14_ h15_ h16_ h17_ h18_
  have BK101 := n0_
  have BK102 := n1_
  have BK103 := n2_
  have BK104 := n3_
  have GW103 := n4_
  have GE103 := n5_
  have NB101_103 := n6_
  have NB103_101 := n7_
  have NB102_103 := n8_
  have NB103_102 := n9_
  have NB104_103 := n10_
  have NB103_104 := n11_
  have GW104 := n12_
  have GE104 := n13_
  have NB101_104 := n14_
  have NB104_101 := n15_
  have NB102_104 := n16_
  have NB104_102 := n17_
  have HB := n18_
  clear n0_ n1_ n2_ n3_ n4_ n5_ n6_ n7_ n8_ n9_ n10_ n11_ n12_ n13_ n14_ n15_ n16_ n17_ n18_
  have hHeld : w9.cell? ⟨gb101, 0, none⟩ = some (.int .i64 a0_0) ∧ w9.cell? ⟨gb101, 1, none⟩ = some (.int .i64 a0_1) ∧ w9.cell? ⟨gb101, 2, none⟩ = some (.int .i64 a0_2) ∧ w9.cell? ⟨gb101, 3, none⟩ = some (.int .i64 a0_3) ∧ w9.cell? ⟨gb101, 4, none⟩ = some (.int .i64 a0_4) ∧ w9.cell? ⟨gb101, 5, none⟩ = some (.int .i64 a0_5) ∧ w9.cell? ⟨gb101, 6, none⟩ = some (.int .i64 a0_6) ∧ w9.cell? ⟨gb101, 7, none⟩ = some (.int .i64 a0_7) ∧ w9.cell? ⟨gb101, 8, none⟩ = some (.int .i64 a0_8) ∧ w9.cell? ⟨gb101, 9, none⟩ = some (.int .i64 a0_9) ∧ w9.cell? ⟨gb101, 10, none⟩ = some (.bool a0_10) ∧ w9.cell? ⟨gb101, 11, none⟩ = some (.bool a0_11) ∧ w9.cell? ⟨gb101, 12, none⟩ = some (.slice A0_12 l0_12.length c0_12) ∧ w9.cell? ⟨gb101, 13, none⟩ = some (.int .i64 a0_13) ∧ w9.cell? ⟨gb102, 0, none⟩ = some (.int .i64 a1_0) ∧ w9.cell? ⟨gb102, 1, none⟩ = some (.int .i64 a1_1) ∧ w9.cell? ⟨gb102, 2, none⟩ = some (.int .i64 a1_2) ∧ w9.cell? ⟨gb102, 3, none⟩ = some (.int .i64 a1_3) ∧ w9.cell? ⟨gb102, 4, none⟩ = some (.int .i64 a1_4) ∧ w9.cell? ⟨gb102, 5, none⟩ = some (.int .i64 a1_5) ∧ w9.cell? ⟨gb102, 6, none⟩ = some (.int .i64 a1_6) ∧ w9.cell? ⟨gb102, 7, none⟩ = some (.int .i64 a1_7) ∧ w9.cell? ⟨gb102, 8, none⟩ = some (.int .i64 a1_8) ∧ w9.cell? ⟨gb102, 9, none⟩ = some (.int .i64 a1_9) ∧ w9.cell? ⟨gb102, 10, none⟩ = some (.bool a1_10) ∧ w9.cell? ⟨gb102, 11, none⟩ = some (.bool a1_11) ∧ w9.cell? ⟨gb102, 12, none⟩ = some (.slice A1_12 l1_12.length c1_12) ∧ w9.cell? ⟨gb102, 13, none⟩ = some (.int .i64 a1_13) := hS_
  refine norm_ (a' := ?_) ?_ ?_
  rotate_left
  · simp only [putAll, Act.put, List.setIfInBounds_toArray, List.set_cons_zero, List.set_cons_succ]
    rfl
  refine one_ (i := 6) (N := none) #[true, true, true, true, true, true, true, false] rfl rfl (one_of HT_.out (by kernel_rfl)) (by decide) (fun K hK => ?_)
  have hs10 : w9.cell? ⟨gb103, 0, none⟩ = some (.bool false) := (blk_cell BK103.out 0).trans rfl
  have hfs10 := blk_frozen BK103.out 0
  have hns10_0 := NB101_103.out
  have hns10_1 := NB102_103.out
  have hns10_3 := NB104_103.out
  have hms10_0 := NB103_101.out
  have hms10_1 := NB103_102.out
  have hms10_3 := NB103_104.out
  have hs11 : w9.cell? ⟨gb103, 1, none⟩ = some (.bool false) := (blk_cell BK103.out 1).trans rfl
  have hfs11 := blk_frozen BK103.out 1
  have hns11_0 := NB101_103.out
  have hns11_1 := NB102_103.out
  have hns11_3 := NB104_103.out
  have hms11_0 := NB103_101.out
  have hms11_1 := NB103_102.out
  have hms11_3 := NB103_104.out
  have hs12 : w9.cell? ⟨gb103, 2, none⟩ = some (.slice none 0 0) := (blk_cell BK103.out 2).trans rfl
  have hfs12 := blk_frozen BK103.out 2
  have hns12_0 := NB101_103.out
  have hns12_1 := NB102_103.out
  have hns12_3 := NB104_103.out
  have hms12_0 := NB103_101.out
  have hms12_1 := NB103_102.out
  have hms12_3 := NB103_104.out
  have hs13 : w9.cell? ⟨gb103, 3, none⟩ = some (.int .i64 0) := (blk_cell BK103.out 3).trans rfl
  have hfs13 := blk_frozen BK103.out 3
  have hns13_0 := NB101_103.out
  have hns13_1 := NB102_103.out
  have hns13_3 := NB104_103.out
  have hms13_0 := NB103_101.out
  have hms13_1 := NB103_102.out
  have hms13_3 := NB103_104.out
  refine skip_ (w1 := ?_) (by rfl) rfl ?_ ?_
  rotate_left
  · go_simp
    rfl
  refine hK.out _ _ ⟨((cell_far (p := ⟨gb103, _, none⟩) NB101_103.out _).trans (((cell_far (p := ⟨gb103, _, none⟩) NB101_103.out _).trans (((cell_far (p := ⟨gb103, _, none⟩) NB101_103.out _).trans (((cell_far (p := ⟨gb103, _, none⟩) NB101_103.out _).trans (hHeld.1)))))))), ((cell_far (p := ⟨gb103, _, none⟩) NB101_103.out _).trans (((cell_far (p := ⟨gb103, _, none⟩) NB101_103.out _).trans (((cell_far (p := ⟨gb103, _, none⟩) NB101_103.out _).trans (((cell_far (p := ⟨gb103, _, none⟩) NB101_103.out _).trans (hHeld.2.1)))))))), ((cell_far (p := ⟨gb103, _, none⟩) NB101_103.out _).trans (((cell_far (p := ⟨gb103, _, none⟩) NB101_103.out _).trans (((cell_far (p := ⟨gb103, _, none⟩) NB101_103.out _).trans (((cell_far (p := ⟨gb103, _, none⟩) NB101_103.out _).trans (hHeld.2.2.1)))))))), ((cell_far (p := ⟨gb103, _, none⟩) NB101_103.out _).trans (((cell_far (p := ⟨gb103, _, none⟩) NB101_103.out _).trans (((cell_far (p := ⟨gb103, _, none⟩) NB101_103.out _).trans (((cell_far (p := ⟨gb103, _, none⟩) NB101_103.out _).trans (hHeld.2.2.2.1)))))))), ((cell_far (p := ⟨gb103, _, none⟩) NB101_103.out _).trans (((cell_far (p := ⟨gb103, _, none⟩) NB101_103.out _).trans (((cell_far (p := ⟨gb103, _, none⟩) NB101_103.out _).trans (((cell_far (p := ⟨gb103, _, none⟩) NB101_103.out _).trans (hHeld.2.2.2.2.1)))))))), ((cell_far (p := ⟨gb103, _, none⟩) NB101_103.out _).trans (((cell_far (p := ⟨gb103, _, none⟩) NB101_103.out _).trans (((cell_far (p := ⟨gb103, _, none⟩) NB101_103.out _).trans (((cell_far (p := ⟨gb103, _, none⟩) NB101_103.out _).trans (hHeld.2.2.2.2.2.1)))))))), ((cell_far (p := ⟨gb103, _, none⟩) NB101_103.out _).trans (((cell_far (p := ⟨gb103, _, none⟩) NB101_103.out _).trans (((cell_far (p := ⟨gb103, _, none⟩) NB101_103.out _).trans (((cell_far (p := ⟨gb103, _, none⟩) NB101_103.out _).trans (hHeld.2.2.2.2.2.2.1)))))))), ((cell_far (p := ⟨gb103, _, none⟩) NB101_103.out _).trans (((cell_far (p := ⟨gb103, _, none⟩) NB101_103.out _).trans (((cell_far (p := ⟨gb103, _, none⟩) NB101_103.out _).trans (((cell_far (p := ⟨gb103, _, none⟩) NB101_103.out _).trans (hHeld.2.2.2.2.2.2.2.1)))))))), ((cell_far (p := ⟨gb103, _, none⟩) NB101_103.out _).trans (((cell_far (p := ⟨gb103, _, none⟩) NB101_103.out _).trans (((cell_far (p := ⟨gb103, _, none⟩) NB101_103.out _).trans (((cell_far (p := ⟨gb103, _, none⟩) NB101_103.out _).trans (hHeld.2.2.2.2.2.2.2.2.1)))))))), ((cell_far (p := ⟨gb103, _, none⟩) NB101_103.out _).trans (((cell_far (p := ⟨gb103, _, none⟩) NB101_103.out _).trans (((cell_far (p := ⟨gb103, _, none⟩) NB101_103.out _).trans (((cell_far (p := ⟨gb103, _, none⟩) NB101_103.out _).trans (hHeld.2.2.2.2.2.2.2.2.2.1)))))))), ((cell_far (p := ⟨gb103, _, none⟩) NB101_103.out _).trans (((cell_far (p := ⟨gb103, _, none⟩) NB101_103.out _).trans (((cell_far (p := ⟨gb103, _, none⟩) NB101_103.out _).trans (((cell_far (p := ⟨gb103, _, none⟩) NB101_103.out _).trans (hHeld.2.2.2.2.2.2.2.2.2.2.1)))))))), ((cell_far (p := ⟨gb103, _, none⟩) NB101_103.out _).trans (((cell_far (p := ⟨gb103, _, none⟩) NB101_103.out _).trans (((cell_far (p := ⟨gb103, _, none⟩) NB101_103.out _).trans (((cell_far (p := ⟨gb103, _, none⟩) NB101_103.out _).trans (hHeld.2.2.2.2.2.2.2.2.2.2.2.1)))))))), ((cell_far (p := ⟨gb103, _, none⟩) NB101_103.out _).trans (((cell_far (p := ⟨gb103, _, none⟩) NB101_103.out _).trans (((cell_far (p := ⟨gb103, _, none⟩) NB101_103.out _).trans (((cell_far (p := ⟨gb103, _, none⟩) NB101_103.out _).trans (hHeld.2.2.2.2.2.2.2.2.2.2.2.2.1)))))))), ((cell_far (p := ⟨gb103, _, none⟩) NB101_103.out _).trans (((cell_far (p := ⟨gb103, _, none⟩) NB101_103.out _).trans (((cell_far (p := ⟨gb103, _, none⟩) NB101_103.out _).trans (((cell_far (p := ⟨gb103, _, none⟩) NB101_103.out _).trans (hHeld.2.2.2.2.2.2.2.2.2.2.2.2.2.1)))))))), ((cell_far (p := ⟨gb103, _, none⟩) NB102_103.out _).trans (((cell_far (p := ⟨gb103, _, none⟩) NB102_103.out _).trans (((cell_far (p := ⟨gb103, _, none⟩) NB102_103.out _).trans (((cell_far (p := ⟨gb103, _, none⟩) NB102_103.out _).trans (hHeld.2.2.2.2.2.2.2.2.2.2.2.2.2.2.1)))))))), ((cell_far (p := ⟨gb103, _, none⟩) NB102_103.out _).trans (((cell_far (p := ⟨gb103, _, none⟩) NB102_103.out _).trans (((cell_far (p := ⟨gb103, _, none⟩) NB102_103.out _).trans (((cell_far (p := ⟨gb103, _, none⟩) NB102_103.out _).trans (hHeld.2.2.2.2.2.2.2.2.2.2.2.2.2.2.2.1)))))))), ((cell_far (p := ⟨gb103, _, none⟩) NB102_103.out _).trans (((cell_far (p := ⟨gb103, _, none⟩) NB102_103.out _).trans (((cell_far (p := ⟨gb103, _, none⟩) NB102_103.out _).trans (((cell_far (p := ⟨gb103, _, none⟩) NB102_103.out _).trans (hHeld.2.2.2.2.2.2.2.2.2.2.2.2.2.2.2.2.1)))))))), ((cell_far (p := ⟨gb103, _, none⟩) NB102_103.out _).trans (((cell_far (p := ⟨gb103, _, none⟩) NB102_103.out _).trans (((cell_far (p := ⟨gb103, _, none⟩) NB102_103.out _).trans (((cell_far (p := ⟨gb103, _, none⟩) NB102_103.out _).trans (hHeld.2.2.2.2.2.2.2.2.2.2.2.2.2.2.2.2.2.1)))))))), ((cell_far (p := ⟨gb103, _, none⟩) NB102_103.out _).trans (((cell_far (p := ⟨gb103, _, none⟩) NB102_103.out _).trans (((cell_far (p := ⟨gb103, _, none⟩) NB102_103.out _).trans (((cell_far (p := ⟨gb103, _, none⟩) NB102_103.out _).trans (hHeld.2.2.2.2.2.2.2.2.2.2.2.2.2.2.2.2.2.2.1)))))))), ((cell_far (p := ⟨gb103, _, none⟩) NB102_103.out _).trans (((cell_far (p := ⟨gb103, _, none⟩) NB102_103.out _).trans (((cell_far (p := ⟨gb103, _, none⟩) NB102_103.out _).trans (((cell_far (p := ⟨gb103, _, none⟩) NB102_103.out _).trans (hHeld.2.2.2.2.2.2.2.2.2.2.2.2.2.2.2.2.2.2.2.1)))))))), ((cell_far (p := ⟨gb103, _, none⟩) NB102_103.out _).trans (((cell_far (p := ⟨gb103, _, none⟩) NB102_103.out _).trans (((cell_far (p := ⟨gb103, _, none⟩) NB102_103.out _).trans (((cell_far (p := ⟨gb103, _, none⟩) NB102_103.out _).trans (hHeld.2.2.2.2.2.2.2.2.2.2.2.2.2.2.2.2.2.2.2.2.1)))))))), ((cell_far (p := ⟨gb103, _, none⟩) NB102_103.out _).trans (((cell_far (p := ⟨gb103, _, none⟩) NB102_103.out _).trans (((cell_far (p := ⟨gb103, _, none⟩) NB102_103.out _).trans (((cell_far (p := ⟨gb103, _, none⟩) NB102_103.out _).trans (hHeld.2.2.2.2.2.2.2.2.2.2.2.2.2.2.2.2.2.2.2.2.2.1)))))))), ((cell_far (p := ⟨gb103, _, none⟩) NB102_103.out _).trans (((cell_far (p := ⟨gb103, _, none⟩) NB102_103.out _).trans (((cell_far (p := ⟨gb103, _, none⟩) NB102_103.out _).trans (((cell_far (p := ⟨gb103, _, none⟩) NB102_103.out _).trans (hHeld.2.2.2.2.2.2.2.2.2.2.2.2.2.2.2.2.2.2.2.2.2.2.1)))))))), ((cell_far (p := ⟨gb103, _, none⟩) NB102_103.out _).trans (((cell_far (p := ⟨gb103, _, none⟩) NB102_103.out _).trans (((cell_far (p := ⟨gb103, _, none⟩) NB102_103.out _).trans (((cell_far (p := ⟨gb103, _, none⟩) NB102_103.out _).trans (hHeld.2.2.2.2.2.2.2.2.2.2.2.2.2.2.2.2.2.2.2.2.2.2.2.1)))))))), ((cell_far (p := ⟨gb103, _, none⟩) NB102_103.out _).trans (((cell_far (p := ⟨gb103, _, none⟩) NB102_103.out _).trans (((cell_far (p := ⟨gb103, _, none⟩) NB102_103.out _).trans (((cell_far (p := ⟨gb103, _, none⟩) NB102_103.out _).trans (hHeld.2.2.2.2.2.2.2.2.2.2.2.2.2.2.2.2.2.2.2.2.2.2.2.2.1)))))))), ((cell_far (p := ⟨gb103, _, none⟩) NB102_103.out _).trans (((cell_far (p := ⟨gb103, _, none⟩) NB102_103.out _).trans (((cell_far (p := ⟨gb103, _, none⟩) NB102_103.out _).trans (((cell_far (p := ⟨gb103, _, none⟩) NB102_103.out _).trans (hHeld.2.2.2.2.2.2.2.2.2.2.2.2.2.2.2.2.2.2.2.2.2.2.2.2.2.1)))))))), ((cell_far (p := ⟨gb103, _, none⟩) NB102_103.out _).trans (((cell_far (p := ⟨gb103, _, none⟩) NB102_103.out _).trans (((cell_far (p := ⟨gb103, _, none⟩) NB102_103.out _).trans (((cell_far (p := ⟨gb103, _, none⟩) NB102_103.out _).trans (hHeld.2.2.2.2.2.2.2.2.2.2.2.2.2.2.2.2.2.2.2.2.2.2.2.2.2.2.1)))))))), ((cell_far (p := ⟨gb103, _, none⟩) NB102_103.out _).trans (((cell_far (p := ⟨gb103, _, none⟩) NB102_103.out _).trans (((cell_far (p := ⟨gb103, _, none⟩) NB102_103.out _).trans (((cell_far (p := ⟨gb103, _, none⟩) NB102_103.out _).trans (hHeld.2.2.2.2.2.2.2.2.2.2.2.2.2.2.2.2.2.2.2.2.2.2.2.2.2.2.2))))))))⟩ (fun hHeld => ?_)
  clear hK K
  refine one_ (i := 7) (N := none) #[true, true, true, true, true, true, true, true] rfl rfl (one_of HT_.out (by kernel_rfl)) (by decide) (fun K hK => ?_)
  have hs14 : w9.cell? ⟨gb104, 0, none⟩ = some (.bool false) := (blk_cell BK104.out 0).trans rfl
  have hfs14 := blk_frozen BK104.out 0
  have hns14_0 := NB101_104.out
  have hns14_1 := NB102_104.out
  have hns14_2 := NB103_104.out
  have hms14_0 := NB104_101.out
  have hms14_1 := NB104_102.out
  have hms14_2 := NB104_103.out
  have hs15 : w9.cell? ⟨gb104, 1, none⟩ = some (.bool false) := (blk_cell BK104.out 1).trans rfl
  have hfs15 := blk_frozen BK104.out 1
  have hns15_0 := NB101_104.out
  have hns15_1 := NB102_104.out
  have hns15_2 := NB103_104.out
  have hms15_0 := NB104_101.out
  have hms15_1 := NB104_102.out
  have hms15_2 := NB104_103.out
  have hs16 : w9.cell? ⟨gb104, 2, none⟩ = some (.slice none 0 0) := (blk_cell BK104.out 2).trans rfl
  have hfs16 := blk_frozen BK104.out 2
  have hns16_0 := NB101_104.out
  have hns16_1 := NB102_104.out
  have hns16_2 := NB103_104.out
  have hms16_0 := NB104_101.out
  have hms16_1 := NB104_102.out
  have hms16_2 := NB104_103.out
  have hs17 : w9.cell? ⟨gb104, 3, none⟩ = some (.int .i64 0) := (blk_cell BK104.out 3).trans rfl
  have hfs17 := blk_frozen BK104.out 3
  have hns17_0 := NB101_104.out
  have hns17_1 := NB102_104.out
  have hns17_2 := NB103_104.out
  have hms17_0 := NB104_101.out
  have hms17_1 := NB104_102.out
  have hms17_2 := NB104_103.out
  refine skip_ (w1 := ?_) (by rfl) rfl ?_ ?_
  rotate_left
  · go_simp
    rfl
  refine hK.out _ _ ⟨((cell_far (p := ⟨gb104, _, none⟩) NB101_104.out _).trans (((cell_far (p := ⟨gb104, _, none⟩) NB101_104.out _).trans (((cell_far (p := ⟨gb104, _, none⟩) NB101_104.out _).trans (((cell_far (p := ⟨gb104, _, none⟩) NB101_104.out _).trans (hHeld.1)))))))), ((cell_far (p := ⟨gb104, _, none⟩) NB101_104.out _).trans (((cell_far (p := ⟨gb104, _, none⟩) NB101_104.out _).trans (((cell_far (p := ⟨gb104, _, none⟩) NB101_104.out _).trans (((cell_far (p := ⟨gb104, _, none⟩) NB101_104.out _).trans (hHeld.2.1)))))))), ((cell_far (p := ⟨gb104, _, none⟩) NB101_104.out _).trans (((cell_far (p := ⟨gb104, _, none⟩) NB101_104.out _).trans (((cell_far (p := ⟨gb104, _, none⟩) NB101_104.out _).trans (((cell_far (p := ⟨gb104, _, none⟩) NB101_104.out _).trans (hHeld.2.2.1)))))))), ((cell_far (p := ⟨gb104, _, none⟩) NB101_104.out _).trans (((cell_far (p := ⟨gb104, _, none⟩) NB101_104.out _).trans (((cell_far (p := ⟨gb104, _, none⟩) NB101_104.out _).trans (((cell_far (p := ⟨gb104, _, none⟩) NB101_104.out _).trans (hHeld.2.2.2.1)))))))), ((cell_far (p := ⟨gb104, _, none⟩) NB101_104.out _).trans (((cell_far (p := ⟨gb104, _, none⟩) NB101_104.out _).trans (((cell_far (p := ⟨gb104, _, none⟩) NB101_104.out _).trans (((cell_far (p := ⟨gb104, _, none⟩) NB101_104.out _).trans (hHeld.2.2.2.2.1)))))))), ((cell_far (p := ⟨gb104, _, none⟩) NB101_104.out _).trans (((cell_far (p := ⟨gb104, _, none⟩) NB101_104.out _).trans (((cell_far (p := ⟨gb104, _, none⟩) NB101_104.out _).trans (((cell_far (p := ⟨gb104, _, none⟩) NB101_104.out _).trans (hHeld.2.2.2.2.2.1)))))))), ((cell_far (p := ⟨gb104, _, none⟩) NB101_104.out _).trans (((cell_far (p := ⟨gb104, _, none⟩) NB101_104.out _).trans (((cell_far (p := ⟨gb104, _, none⟩) NB101_104.out _).trans (((cell_far (p := ⟨gb104, _, none⟩) NB101_104.out _).trans (hHeld.2.2.2.2.2.2.1)))))))), ((cell_far (p := ⟨gb104, _, none⟩) NB101_104.out _).trans (((cell_far (p := ⟨gb104, _, none⟩) NB101_104.out _).trans (((cell_far (p := ⟨gb104, _, none⟩) NB101_104.out _).trans (((cell_far (p := ⟨gb104, _, none⟩) NB101_104.out _).trans (hHeld.2.2.2.2.2.2.2.1)))))))), ((cell_far (p := ⟨gb104, _, none⟩) NB101_104.out _).trans (((cell_far (p := ⟨gb104, _, none⟩) NB101_104.out _).trans (((cell_far (p := ⟨gb104, _, none⟩) NB101_104.out _).trans (((cell_far (p := ⟨gb104, _, none⟩) NB101_104.out _).trans (hHeld.2.2.2.2.2.2.2.2.1)))))))), ((cell_far (p := ⟨gb104, _, none⟩) NB101_104.out _).trans (((cell_far (p := ⟨gb104, _, none⟩) NB101_104.out _).trans (((cell_far (p := ⟨gb104, _, none⟩) NB101_104.out _).trans (((cell_far (p := ⟨gb104, _, none⟩) NB101_104.out _).trans (hHeld.2.2.2.2.2.2.2.2.2.1)))))))), ((cell_far (p := ⟨gb104, _, none⟩) NB101_104.out _).trans (((cell_far (p := ⟨gb104, _, none⟩) NB101_104.out _).trans (((cell_far (p := ⟨gb104, _, none⟩) NB101_104.out _).trans (((cell_far (p := ⟨gb104, _, none⟩) NB101_104.out _).trans (hHeld.2.2.2.2.2.2.2.2.2.2.1)))))))), ((cell_far (p := ⟨gb104, _, none⟩) NB101_104.out _).trans (((cell_far (p := ⟨gb104, _, none⟩) NB101_104.out _).trans (((cell_far (p := ⟨gb104, _, none⟩) NB101_104.out _).trans (((cell_far (p := ⟨gb104, _, none⟩) NB101_104.out _).trans (hHeld.2.2.2.2.2.2.2.2.2.2.2.1)))))))), ((cell_far (p := ⟨gb104, _, none⟩) NB101_104.out _).trans (((cell_far (p := ⟨gb104, _, none⟩) NB101_104.out _).trans (((cell_far (p := ⟨gb104, _, none⟩) NB101_104.out _).trans (((cell_far (p := ⟨gb104, _, none⟩) NB101_104.out _).trans (hHeld.2.2.2.2.2.2.2.2.2.2.2.2.1)))))))), ((cell_far (p := ⟨gb104, _, none⟩) NB101_104.out _).trans (((cell_far (p := ⟨gb104, _, none⟩) NB101_104.out _).trans (((cell_far (p := ⟨gb104, _, none⟩) NB101_104.out _).trans (((cell_far (p := ⟨gb104, _, none⟩) NB101_104.out _).trans (hHeld.2.2.2.2.2.2.2.2.2.2.2.2.2.1)))))))), ((cell_far (p := ⟨gb104, _, none⟩) NB102_104.out _).trans (((cell_far (p := ⟨gb104, _, none⟩) NB102_104.out _).trans (((cell_far (p := ⟨gb104, _, none⟩) NB102_104.out _).trans (((cell_far (p := ⟨gb104, _, none⟩) NB102_104.out _).trans (hHeld.2.2.2.2.2.2.2.2.2.2.2.2.2.2.1)))))))), ((cell_far (p := ⟨gb104, _, none⟩) NB102_104.out _).trans (((cell_far (p := ⟨gb104, _, none⟩) NB102_104.out _).trans (((cell_far (p := ⟨gb104, _, none⟩) NB102_104.out _).trans (((cell_far (p := ⟨gb104, _, none⟩) NB102_104.out _).trans (hHeld.2.2.2.2.2.2.2.2.2.2.2.2.2.2.2.1)))))))), ((cell_far (p := ⟨gb104, _, none⟩) NB102_104.out _).trans (((cell_far (p := ⟨gb104, _, none⟩) NB102_104.out _).trans (((cell_far (p := ⟨gb104, _, none⟩) NB102_104.out _).trans (((cell_far (p := ⟨gb104, _, none⟩) NB102_104.out _).trans (hHeld.2.2.2.2.2.2.2.2.2.2.2.2.2.2.2.2.1)))))))), ((cell_far (p := ⟨gb104, _, none⟩) NB102_104.out _).trans (((cell_far (p := ⟨gb104, _, none⟩) NB102_104.out _).trans (((cell_far (p := ⟨gb104, _, none⟩) NB102_104.out _).trans (((cell_far (p := ⟨gb104, _, none⟩) NB102_104.out _).trans (hHeld.2.2.2.2.2.2.2.2.2.2.2.2.2.2.2.2.2.1)))))))), ((cell_far (p := ⟨gb104, _, none⟩) NB102_104.out _).trans (((cell_far (p := ⟨gb104, _, none⟩) NB102_104.out _).trans (((cell_far (p := ⟨gb104, _, none⟩) NB102_104.out _).trans (((cell_far (p := ⟨gb104, _, none⟩) NB102_104.out _).trans (hHeld.2.2.2.2.2.2.2.2.2.2.2.2.2.2.2.2.2.2.1)))))))), ((cell_far (p := ⟨gb104, _, none⟩) NB102_104.out _).trans (((cell_far (p := ⟨gb104, _, none⟩) NB102_104.out _).trans (((cell_far (p := ⟨gb104, _, none⟩) NB102_104.out _).trans (((cell_far (p := ⟨gb104, _, none⟩) NB102_104.out _).trans (hHeld.2.2.2.2.2.2.2.2.2.2.2.2.2.2.2.2.2.2.2.1)))))))), ((cell_far (p := ⟨gb104, _, none⟩) NB102_104.out _).trans (((cell_far (p := ⟨gb104, _, none⟩) NB102_104.out _).trans (((cell_far (p := ⟨gb104, _, none⟩) NB102_104.out _).trans (((cell_far (p := ⟨gb104, _, none⟩) NB102_104.out _).trans (hHeld.2.2.2.2.2.2.2.2.2.2.2.2.2.2.2.2.2.2.2.2.1)))))))), ((cell_far (p := ⟨gb104, _, none⟩) NB102_104.out _).trans (((cell_far (p := ⟨gb104, _, none⟩) NB102_104.out _).trans (((cell_far (p := ⟨gb104, _, none⟩) NB102_104.out _).trans (((cell_far (p := ⟨gb104, _, none⟩) NB102_104.out _).trans (hHeld.2.2.2.2.2.2.2.2.2.2.2.2.2.2.2.2.2.2.2.2.2.1)))))))), ((cell_far (p := ⟨gb104, _, none⟩) NB102_104.out _).trans (((cell_far (p := ⟨gb104, _, none⟩) NB102_104.out _).trans (((cell_far (p := ⟨gb104, _, none⟩) NB102_104.out _).trans (((cell_far (p := ⟨gb104, _, none⟩) NB102_104.out _).trans (hHeld.2.2.2.2.2.2.2.2.2.2.2.2.2.2.2.2.2.2.2.2.2.2.1)))))))), ((cell_far (p := ⟨gb104, _, none⟩) NB102_104.out _).trans (((cell_far (p := ⟨gb104, _, none⟩) NB102_104.out _).trans (((cell_far (p := ⟨gb104, _, none⟩) NB102_104.out _).trans (((cell_far (p := ⟨gb104, _, none⟩) NB102_104.out _).trans (hHeld.2.2.2.2.2.2.2.2.2.2.2.2.2.2.2.2.2.2.2.2.2.2.2.1)))))))), ((cell_far (p := ⟨gb104, _, none⟩) NB102_104.out _).trans (((cell_far (p := ⟨gb104, _, none⟩) NB102_104.out _).trans (((cell_far (p := ⟨gb104, _, none⟩) NB102_104.out _).trans (((cell_far (p := ⟨gb104, _, none⟩) NB102_104.out _).trans (hHeld.2.2.2.2.2.2.2.2.2.2.2.2.2.2.2.2.2.2.2.2.2.2.2.2.1)))))))), ((cell_far (p := ⟨gb104, _, none⟩) NB102_104.out _).trans (((cell_far (p := ⟨gb104, _, none⟩) NB102_104.out _).trans (((cell_far (p := ⟨gb104, _, none⟩) NB102_104.out _).trans (((cell_far (p := ⟨gb104, _, none⟩) NB102_104.out _).trans (hHeld.2.2.2.2.2.2.2.2.2.2.2.2.2.2.2.2.2.2.2.2.2.2.2.2.2.1)))))))), ((cell_far (p := ⟨gb104, _, none⟩) NB102_104.out _).trans (((cell_far (p := ⟨gb104, _, none⟩) NB102_104.out _).trans (((cell_far (p := ⟨gb104, _, none⟩) NB102_104.out _).trans (((cell_far (p := ⟨gb104, _, none⟩) NB102_104.out _).trans (hHeld.2.2.2.2.2.2.2.2.2.2.2.2.2.2.2.2.2.2.2.2.2.2.2.2.2.2.1)))))))), ((cell_far (p := ⟨gb104, _, none⟩) NB102_104.out _).trans (((cell_far (p := ⟨gb104, _, none⟩) NB102_104.out _).trans (((cell_far (p := ⟨gb104, _, none⟩) NB102_104.out _).trans (((cell_far (p := ⟨gb104, _, none⟩) NB102_104.out _).trans (hHeld.2.2.2.2.2.2.2.2.2.2.2.2.2.2.2.2.2.2.2.2.2.2.2.2.2.2.2))))))))⟩ (fun hHeld => ?_)
  clear hK K
  refine done_ (done_of HT_.out (by kernel_rfl)) ?_
  go_upto_region 2 with (fail)
  go_cut [39] (fun v39 wc => ∃ (kq : Nat) (x39_2 : Bool), v39 = .bool x39_2 ∧ Aside0 (decorumref18_Same.j0 kq x39_2 a0_0 a0_1 a0_2 a0_3 a0_4 a0_5 a0_6 a0_7 a0_8 a0_9 a0_10 a0_11 l0_12 a0_13 a1_0 a1_1 a1_2 a1_3 a1_4 a1_5 a1_6 a1_7 a1_8 a1_9 a1_10 a1_11 l1_12 a1_13 a0_10 a0_11 l0_12 a0_13 a1_10 a1_11 l1_12 a1_13 = some r) ∧ Aside0 (kq ≤ k) ∧ Aside0 (wc.heap[gb101]? = some (.cells #[.int .i64 a0_0, .int .i64 a0_1, .int .i64 a0_2, .int .i64 a0_3, .int .i64 a0_4, .int .i64 a0_5, .int .i64 a0_6, .int .i64 a0_7, .int .i64 a0_8, .int .i64 a0_9, .bool a0_10, .bool a0_11, (.slice A0_12 l0_12.length c0_12), .int .i64 a0_13] 28 (0, 0))) ∧ Aside0 (wc.heap[gb102]? = some (.cells #[.int .i64 a1_0, .int .i64 a1_1, .int .i64 a1_2, .int .i64 a1_3, .int .i64 a1_4, .int .i64 a1_5, .int .i64 a1_6, .int .i64 a1_7, .int .i64 a1_8, .int .i64 a1_9, .bool a1_10, .bool a1_11, (.slice A1_12 l1_12.length c1_12), .int .i64 a1_13] 28 (0, 0))) ∧ Aside0 (wc.heap[gb103]? = some (.cells #[.bool a0_10, .bool a0_11, (.slice A0_12 l0_12.length c0_12), .int .i64 a0_13] 26 (0, 0))) ∧ Aside0 (wc.heap[gb104]? = some (.cells #[.bool a1_10, .bool a1_11, (.slice A1_12 l1_12.length c1_12), .int .i64 a1_13] 26 (0, 0))) ∧ Aside0 (Below w.heap.size w wc))
  case first =>
    have H := HC3.out
    clear HC3
    by_cases c18 : (a0_10 != a1_10) = true
    · rw [if_pos c18] at H
      have c18b0 : (a0_10 != a1_10) = true := c18
      (try (have c18b1 : decide (a0_10 = a1_10) = false := by simpa using c18))
      (try (have c18b2 : (a0_10 == a1_10) = false := by simpa using c18))
      (try (have c18b3 : ¬ (a0_10 = a1_10) := by simpa using c18))
      clear c18
      (first | rw [c18b0] | (simp only [i64_w, i32_w]; rw [c18b0]) | skip)
      have H' := Aside0.mk H
      clear H
      have hnb19 := NB103_101.out
      have hnc19 := NB101_103.out
      have hnb20 := NB103_102.out
      have hnc20 := NB102_103.out
      have hnb21 := NB103_104.out
      have hnc21 := NB104_103.out
      have hcz22_0 : w9.cell? ⟨gb103, 0, none⟩ = some (.bool false) := (blk_cell BK103.out 0).trans rfl
      have hcz22_1 : w9.cell? ⟨gb103, 1, none⟩ = some (.bool false) := (blk_cell BK103.out 1).trans rfl
      have hcz22_2 : w9.cell? ⟨gb103, 2, none⟩ = some (.slice none 0 0) := (blk_cell BK103.out 2).trans rfl
      have hcz22_3 : w9.cell? ⟨gb103, 3, none⟩ = some (.int .i64 0) := (blk_cell BK103.out 3).trans rfl
      have hfz22_0 := blk_frozen BK103.out 0
      have hfz22_1 := blk_frozen BK103.out 1
      have hfz22_2 := blk_frozen BK103.out 2
      have hfz22_3 := blk_frozen BK103.out 3
      have hnb23 := NB104_101.out
      have hnc23 := NB101_104.out
      have hnb24 := NB104_102.out
      have hnc24 := NB102_104.out
      have hcz25_0 : w9.cell? ⟨gb104, 0, none⟩ = some (.bool false) := (blk_cell BK104.out 0).trans rfl
      have hcz25_1 : w9.cell? ⟨gb104, 1, none⟩ = some (.bool false) := (blk_cell BK104.out 1).trans rfl
      have hcz25_2 : w9.cell? ⟨gb104, 2, none⟩ = some (.slice none 0 0) := (blk_cell BK104.out 2).trans rfl
      have hcz25_3 : w9.cell? ⟨gb104, 3, none⟩ = some (.int .i64 0) := (blk_cell BK104.out 3).trans rfl
      have hfz25_0 := blk_frozen BK104.out 0
      have hfz25_1 := blk_frozen BK104.out 1
      have hfz25_2 := blk_frozen BK104.out 2
      have hfz25_3 := blk_frozen BK104.out 3
      go_wp2
      go_meet
      case rel => exact ⟨_, (true), (by first | rfl | (simp; done) | (simp [*]; done)), H', ⟨by first | omega | exact Nat.le_refl _⟩, ⟨by (with_reducible repeat (first | refine blk_drewN ?_ _ | refine blk_drew ?_ | refine blk_alloc ?_ _)); refine blk_far ?_ NB101_104.out _; (with_reducible repeat (first | refine blk_drewN ?_ _ | refine blk_drew ?_ | refine blk_alloc ?_ _)); refine blk_far ?_ NB101_104.out _; (with_reducible repeat (first | refine blk_drewN ?_ _ | refine blk_drew ?_ | refine blk_alloc ?_ _)); refine blk_far ?_ NB101_104.out _; (with_reducible repeat (first | refine blk_drewN ?_ _ | refine blk_drew ?_ | refine blk_alloc ?_ _)); refine blk_far ?_ NB101_104.out _; (with_reducible repeat (first | refine blk_drewN ?_ _ | refine blk_drew ?_ | refine blk_alloc ?_ _)); refine blk_far ?_ NB101_103.out _; (with_reducible repeat (first | refine blk_drewN ?_ _ | refine blk_drew ?_ | refine blk_alloc ?_ _)); refine blk_far ?_ NB101_103.out _; (with_reducible repeat (first | refine blk_drewN ?_ _ | refine blk_drew ?_ | refine blk_alloc ?_ _)); refine blk_far ?_ NB101_103.out _; (with_reducible repeat (first | refine blk_drewN ?_ _ | refine blk_drew ?_ | refine blk_alloc ?_ _)); refine blk_far ?_ NB101_103.out _; (with_reducible repeat (first | refine blk_drewN ?_ _ | refine blk_drew ?_ | refine blk_alloc ?_ _)); exact BK101.out⟩, ⟨by (with_reducible repeat (first | refine blk_drewN ?_ _ | refine blk_drew ?_ | refine blk_alloc ?_ _)); refine blk_far ?_ NB102_104.out _; (with_reducible repeat (first | refine blk_drewN ?_ _ | refine blk_drew ?_ | refine blk_alloc ?_ _)); refine blk_far ?_ NB102_104.out _; (with_reducible repeat (first | refine blk_drewN ?_ _ | refine blk_drew ?_ | refine blk_alloc ?_ _)); refine blk_far ?_ NB102_104.out _; (with_reducible repeat (first | refine blk_drewN ?_ _ | refine blk_drew ?_ | refine blk_alloc ?_ _)); refine blk_far ?_ NB102_104.out _; (with_reducible repeat (first | refine blk_drewN ?_ _ | refine blk_drew ?_ | refine blk_alloc ?_ _)); refine blk_far ?_ NB102_103.out _; (with_reducible repeat (first | refine blk_drewN ?_ _ | refine blk_drew ?_ | refine blk_alloc ?_ _)); refine blk_far ?_ NB102_103.out _; (with_reducible repeat (first | refine blk_drewN ?_ _ | refine blk_drew ?_ | refine blk_alloc ?_ _)); refine blk_far ?_ NB102_103.out _; (with_reducible repeat (first | refine blk_drewN ?_ _ | refine blk_drew ?_ | refine blk_alloc ?_ _)); refine blk_far ?_ NB102_103.out _; (with_reducible repeat (first | refine blk_drewN ?_ _ | refine blk_drew ?_ | refine blk_alloc ?_ _)); exact BK102.out⟩, ⟨by (with_reducible repeat (first | refine blk_drewN ?_ _ | refine blk_drew ?_ | refine blk_alloc ?_ _)); refine blk_far ?_ NB103_104.out _; (with_reducible repeat (first | refine blk_drewN ?_ _ | refine blk_drew ?_ | refine blk_alloc ?_ _)); refine blk_far ?_ NB103_104.out _; (with_reducible repeat (first | refine blk_drewN ?_ _ | refine blk_drew ?_ | refine blk_alloc ?_ _)); refine blk_far ?_ NB103_104.out _; (with_reducible repeat (first | refine blk_drewN ?_ _ | refine blk_drew ?_ | refine blk_alloc ?_ _)); refine blk_far ?_ NB103_104.out _; (with_reducible repeat (first | refine blk_drewN ?_ _ | refine blk_drew ?_ | refine blk_alloc ?_ _)); refine blk_put (cs := #[.bool a0_10, .bool a0_11, .slice A0_12 l0_12.length c0_12, .int .i64 0]) ?_ 3 _ rfl; (with_reducible repeat (first | refine blk_drewN ?_ _ | refine blk_drew ?_ | refine blk_alloc ?_ _)); refine blk_put (cs := #[.bool a0_10, .bool a0_11, .slice none 0 0, .int .i64 0]) ?_ 2 _ rfl; (with_reducible repeat (first | refine blk_drewN ?_ _ | refine blk_drew ?_ | refine blk_alloc ?_ _)); refine blk_put (cs := #[.bool a0_10, .bool false, .slice none 0 0, .int .i64 0]) ?_ 1 _ rfl; (with_reducible repeat (first | refine blk_drewN ?_ _ | refine blk_drew ?_ | refine blk_alloc ?_ _)); refine blk_put (cs := #[.bool false, .bool false, .slice none 0 0, .int .i64 0]) ?_ 0 _ rfl; (with_reducible repeat (first | refine blk_drewN ?_ _ | refine blk_drew ?_ | refine blk_alloc ?_ _)); exact BK103.out⟩, ⟨by (with_reducible repeat (first | refine blk_drewN ?_ _ | refine blk_drew ?_ | refine blk_alloc ?_ _)); refine blk_put (cs := #[.bool a1_10, .bool a1_11, .slice A1_12 l1_12.length c1_12, .int .i64 0]) ?_ 3 _ rfl; (with_reducible repeat (first | refine blk_drewN ?_ _ | refine blk_drew ?_ | refine blk_alloc ?_ _)); refine blk_put (cs := #[.bool a1_10, .bool a1_11, .slice none 0 0, .int .i64 0]) ?_ 2 _ rfl; (with_reducible repeat (first | refine blk_drewN ?_ _ | refine blk_drew ?_ | refine blk_alloc ?_ _)); refine blk_put (cs := #[.bool a1_10, .bool false, .slice none 0 0, .int .i64 0]) ?_ 1 _ rfl; (with_reducible repeat (first | refine blk_drewN ?_ _ | refine blk_drew ?_ | refine blk_alloc ?_ _)); refine blk_put (cs := #[.bool false, .bool false, .slice none 0 0, .int .i64 0]) ?_ 0 _ rfl; (with_reducible repeat (first | refine blk_drewN ?_ _ | refine blk_drew ?_ | refine blk_alloc ?_ _)); refine blk_far ?_ NB104_103.out _; (with_reducible repeat (first | refine blk_drewN ?_ _ | refine blk_drew ?_ | refine blk_alloc ?_ _)); refine blk_far ?_ NB104_103.out _; (with_reducible repeat (first | refine blk_drewN ?_ _ | refine blk_drew ?_ | refine blk_alloc ?_ _)); refine blk_far ?_ NB104_103.out _; (with_reducible repeat (first | refine blk_drewN ?_ _ | refine blk_drew ?_ | refine blk_alloc ?_ _)); refine blk_far ?_ NB104_103.out _; (with_reducible repeat (first | refine blk_drewN ?_ _ | refine blk_drew ?_ | refine blk_alloc ?_ _)); exact BK104.out⟩, ⟨by repeat (first | (with_reducible first | exact HB.out | apply below_alloc | apply pw_below_drewN | apply below_drew1 | refine below_set ?_ GE101.out | refine below_set ?_ GE102.out | refine below_set ?_ GE103.out | refine below_set ?_ GE104.out) | exact HB.out)⟩⟩
    · rw [if_neg c18] at H
      have c18b0 : (a0_10 != a1_10) = false := by simpa using c18
      (try (have c18b1 : decide (a0_10 = a1_10) = true := by simpa using c18))
      (try (have c18b2 : (a0_10 == a1_10) = true := by simpa using c18))
      clear c18
      (first | rw [c18b0] | (simp only [i64_w, i32_w]; rw [c18b0]) | skip)
      by_cases c26 : (a0_11 != a1_11) = true
      · rw [if_pos c26] at H
        have c26b0 : (a0_11 != a1_11) = true := c26
        (try (have c26b1 : decide (a0_11 = a1_11) = false := by simpa using c26))
        (try (have c26b2 : (a0_11 == a1_11) = false := by simpa using c26))
        (try (have c26b3 : ¬ (a0_11 = a1_11) := by simpa using c26))
        clear c26
        have H' := Aside0.mk H
        clear H
        have hnb27 := NB103_101.out
        have hnc27 := NB101_103.out
        have hnb28 := NB103_102.out
        have hnc28 := NB102_103.out
        have hnb29 := NB103_104.out
        have hnc29 := NB104_103.out
        have hcz30_0 : w9.cell? ⟨gb103, 0, none⟩ = some (.bool false) := (blk_cell BK103.out 0).trans rfl
        have hcz30_1 : w9.cell? ⟨gb103, 1, none⟩ = some (.bool false) := (blk_cell BK103.out 1).trans rfl
        have hcz30_2 : w9.cell? ⟨gb103, 2, none⟩ = some (.slice none 0 0) := (blk_cell BK103.out 2).trans rfl
        have hcz30_3 : w9.cell? ⟨gb103, 3, none⟩ = some (.int .i64 0) := (blk_cell BK103.out 3).trans rfl
        have hfz30_0 := blk_frozen BK103.out 0
        have hfz30_1 := blk_frozen BK103.out 1
        have hfz30_2 := blk_frozen BK103.out 2
        have hfz30_3 := blk_frozen BK103.out 3
        have hnb31 := NB104_101.out
        have hnc31 := NB101_104.out
        have hnb32 := NB104_102.out
        have hnc32 := NB102_104.out
        have hcz33_0 : w9.cell? ⟨gb104, 0, none⟩ = some (.bool false) := (blk_cell BK104.out 0).trans rfl
        have hcz33_1 : w9.cell? ⟨gb104, 1, none⟩ = some (.bool false) := (blk_cell BK104.out 1).trans rfl
        have hcz33_2 : w9.cell? ⟨gb104, 2, none⟩ = some (.slice none 0 0) := (blk_cell BK104.out 2).trans rfl
        have hcz33_3 : w9.cell? ⟨gb104, 3, none⟩ = some (.int .i64 0) := (blk_cell BK104.out 3).trans rfl
        have hfz33_0 := blk_frozen BK104.out 0
        have hfz33_1 := blk_frozen BK104.out 1
        have hfz33_2 := blk_frozen BK104.out 2
        have hfz33_3 := blk_frozen BK104.out 3
        go_wp2
        go_meet
        case rel => exact ⟨_, (true), (by first | rfl | (simp; done) | (simp [*]; done)), H', ⟨by first | omega | exact Nat.le_refl _⟩, ⟨by (with_reducible repeat (first | refine blk_drewN ?_ _ | refine blk_drew ?_ | refine blk_alloc ?_ _)); refine blk_far ?_ NB101_104.out _; (with_reducible repeat (first | refine blk_drewN ?_ _ | refine blk_drew ?_ | refine blk_alloc ?_ _)); refine blk_far ?_ NB101_104.out _; (with_reducible repeat (first | refine blk_drewN ?_ _ | refine blk_drew ?_ | refine blk_alloc ?_ _)); refine blk_far ?_ NB101_104.out _; (with_reducible repeat (first | refine blk_drewN ?_ _ | refine blk_drew ?_ | refine blk_alloc ?_ _)); refine blk_far ?_ NB101_104.out _; (with_reducible repeat (first | refine blk_drewN ?_ _ | refine blk_drew ?_ | refine blk_alloc ?_ _)); refine blk_far ?_ NB101_103.out _; (with_reducible repeat (first | refine blk_drewN ?_ _ | refine blk_drew ?_ | refine blk_alloc ?_ _)); refine blk_far ?_ NB101_103.out _; (with_reducible repeat (first | refine blk_drewN ?_ _ | refine blk_drew ?_ | refine blk_alloc ?_ _)); refine blk_far ?_ NB101_103.out _; (with_reducible repeat (first | refine blk_drewN ?_ _ | refine blk_drew ?_ | refine blk_alloc ?_ _)); refine blk_far ?_ NB101_103.out _; (with_reducible repeat (first | refine blk_drewN ?_ _ | refine blk_drew ?_ | refine blk_alloc ?_ _)); exact BK101.out⟩, ⟨by (with_reducible repeat (first | refine blk_drewN ?_ _ | refine blk_drew ?_ | refine blk_alloc ?_ _)); refine blk_far ?_ NB102_104.out _; (with_reducible repeat (first | refine blk_drewN ?_ _ | refine blk_drew ?_ | refine blk_alloc ?_ _)); refine blk_far ?_ NB102_104.out _; (with_reducible repeat (first | refine blk_drewN ?_ _ | refine blk_drew ?_ | refine blk_alloc ?_ _)); refine blk_far ?_ NB102_104.out _; (with_reducible repeat (first | refine blk_drewN ?_ _ | refine blk_drew ?_ | refine blk_alloc ?_ _)); refine blk_far ?_ NB102_104.out _; (with_reducible repeat (first | refine blk_drewN ?_ _ | refine blk_drew ?_ | refine blk_alloc ?_ _)); refine blk_far ?_ NB102_103.out _; (with_reducible repeat (first | refine blk_drewN ?_ _ | refine blk_drew ?_ | refine blk_alloc ?_ _)); refine blk_far ?_ NB102_103.out _; (with_reducible repeat (first | refine blk_drewN ?_ _ | refine blk_drew ?_ | refine blk_alloc ?_ _)); refine blk_far ?_ NB102_103.out _; (with_reducible repeat (first | refine blk_drewN ?_ _ | refine blk_drew ?_ | refine blk_alloc ?_ _)); refine blk_far ?_ NB102_103.out _; (with_reducible repeat (first | refine blk_drewN ?_ _ | refine blk_drew ?_ | refine blk_alloc ?_ _)); exact BK102.out⟩, ⟨by (with_reducible repeat (first | refine blk_drewN ?_ _ | refine blk_drew ?_ | refine blk_alloc ?_ _)); refine blk_far ?_ NB103_104.out _; (with_reducible repeat (first | refine blk_drewN ?_ _ | refine blk_drew ?_ | refine blk_alloc ?_ _)); refine blk_far ?_ NB103_104.out _; (with_reducible repeat (first | refine blk_drewN ?_ _ | refine blk_drew ?_ | refine blk_alloc ?_ _)); refine blk_far ?_ NB103_104.out _; (with_reducible repeat (first | refine blk_drewN ?_ _ | refine blk_drew ?_ | refine blk_alloc ?_ _)); refine blk_far ?_ NB103_104.out _; (with_reducible repeat (first | refine blk_drewN ?_ _ | refine blk_drew ?_ | refine blk_alloc ?_ _)); refine blk_put (cs := #[.bool a0_10, .bool a0_11, .slice A0_12 l0_12.length c0_12, .int .i64 0]) ?_ 3 _ rfl; (with_reducible repeat (first | refine blk_drewN ?_ _ | refine blk_drew ?_ | refine blk_alloc ?_ _)); refine blk_put (cs := #[.bool a0_10, .bool a0_11, .slice none 0 0, .int .i64 0]) ?_ 2 _ rfl; (with_reducible repeat (first | refine blk_drewN ?_ _ | refine blk_drew ?_ | refine blk_alloc ?_ _)); refine blk_put (cs := #[.bool a0_10, .bool false, .slice none 0 0, .int .i64 0]) ?_ 1 _ rfl; (with_reducible repeat (first | refine blk_drewN ?_ _ | refine blk_drew ?_ | refine blk_alloc ?_ _)); refine blk_put (cs := #[.bool false, .bool false, .slice none 0 0, .int .i64 0]) ?_ 0 _ rfl; (with_reducible repeat (first | refine blk_drewN ?_ _ | refine blk_drew ?_ | refine blk_alloc ?_ _)); exact BK103.out⟩, ⟨by (with_reducible repeat (first | refine blk_drewN ?_ _ | refine blk_drew ?_ | refine blk_alloc ?_ _)); refine blk_put (cs := #[.bool a1_10, .bool a1_11, .slice A1_12 l1_12.length c1_12, .int .i64 0]) ?_ 3 _ rfl; (with_reducible repeat (first | refine blk_drewN ?_ _ | refine blk_drew ?_ | refine blk_alloc ?_ _)); refine blk_put (cs := #[.bool a1_10, .bool a1_11, .slice none 0 0, .int .i64 0]) ?_ 2 _ rfl; (with_reducible repeat (first | refine blk_drewN ?_ _ | refine blk_drew ?_ | refine blk_alloc ?_ _)); refine blk_put (cs := #[.bool a1_10, .bool false, .slice none 0 0, .int .i64 0]) ?_ 1 _ rfl; (with_reducible repeat (first | refine blk_drewN ?_ _ | refine blk_drew ?_ | refine blk_alloc ?_ _)); refine blk_put (cs := #[.bool false, .bool false, .slice none 0 0, .int .i64 0]) ?_ 0 _ rfl; (with_reducible repeat (first | refine blk_drewN ?_ _ | refine blk_drew ?_ | refine blk_alloc ?_ _)); refine blk_far ?_ NB104_103.out _; (with_reducible repeat (first | refine blk_drewN ?_ _ | refine blk_drew ?_ | refine blk_alloc ?_ _)); refine blk_far ?_ NB104_103.out _; (with_reducible repeat (first | refine blk_drewN ?_ _ | refine blk_drew ?_ | refine blk_alloc ?_ _)); refine blk_far ?_ NB104_103.out _; (with_reducible repeat (first | refine blk_drewN ?_ _ | refine blk_drew ?_ | refine blk_alloc ?_ _)); refine blk_far ?_ NB104_103.out _; (with_reducible repeat (first | refine blk_drewN ?_ _ | refine blk_drew ?_ | refine blk_alloc ?_ _)); exact BK104.out⟩, ⟨by repeat (first | (with_reducible first | exact HB.out | apply below_alloc | apply pw_below_drewN | apply below_drew1 | refine below_set ?_ GE101.out | refine below_set ?_ GE102.out | refine below_set ?_ GE103.out | refine below_set ?_ GE104.out) | exact HB.out)⟩⟩
      · rw [if_neg c26] at H
        have c26b0 : (a0_11 != a1_11) = false := by simpa using c26
        (try (have c26b1 : decide (a0_11 = a1_11) = true := by simpa using c26))
        (try (have c26b2 : (a0_11 == a1_11) = true := by simpa using c26))
        clear c26
        by_cases c34 : a0_13 = a1_13
        · rw [if_pos c34] at H
          have c34b0 : (a0_13 == a1_13) = true := beq_iff_eq.mpr c34
          have c34b1 : (a0_13 != a1_13) = false := bne_eq_false_iff_eq.mpr c34
          clear c34
          have H' := Aside0.mk H
          clear H
          have hnb35 := NB103_101.out
          have hnc35 := NB101_103.out
          have hnb36 := NB103_102.out
          have hnc36 := NB102_103.out
          have hnb37 := NB103_104.out
          have hnc37 := NB104_103.out
          have hcz38_0 : w9.cell? ⟨gb103, 0, none⟩ = some (.bool false) := (blk_cell BK103.out 0).trans rfl
          have hcz38_1 : w9.cell? ⟨gb103, 1, none⟩ = some (.bool false) := (blk_cell BK103.out 1).trans rfl
          have hcz38_2 : w9.cell? ⟨gb103, 2, none⟩ = some (.slice none 0 0) := (blk_cell BK103.out 2).trans rfl
          have hcz38_3 : w9.cell? ⟨gb103, 3, none⟩ = some (.int .i64 0) := (blk_cell BK103.out 3).trans rfl
          have hfz38_0 := blk_frozen BK103.out 0
          have hfz38_1 := blk_frozen BK103.out 1
          have hfz38_2 := blk_frozen BK103.out 2
          have hfz38_3 := blk_frozen BK103.out 3
          have hnb39 := NB104_101.out
          have hnc39 := NB101_104.out
          have hnb40 := NB104_102.out
          have hnc40 := NB102_104.out
          have hcz41_0 : w9.cell? ⟨gb104, 0, none⟩ = some (.bool false) := (blk_cell BK104.out 0).trans rfl
          have hcz41_1 : w9.cell? ⟨gb104, 1, none⟩ = some (.bool false) := (blk_cell BK104.out 1).trans rfl
          have hcz41_2 : w9.cell? ⟨gb104, 2, none⟩ = some (.slice none 0 0) := (blk_cell BK104.out 2).trans rfl
          have hcz41_3 : w9.cell? ⟨gb104, 3, none⟩ = some (.int .i64 0) := (blk_cell BK104.out 3).trans rfl
          have hfz41_0 := blk_frozen BK104.out 0
          have hfz41_1 := blk_frozen BK104.out 1
          have hfz41_2 := blk_frozen BK104.out 2
          have hfz41_3 := blk_frozen BK104.out 3
          go_wp2
          go_meet
          case rel => exact ⟨_, (((l0_12.length : Int) != (l1_12.length : Int))), (by first | rfl | (simp; done) | (simp [*]; done)), H', ⟨by first | omega | exact Nat.le_refl _⟩, ⟨by (with_reducible repeat (first | refine blk_drewN ?_ _ | refine blk_drew ?_ | refine blk_alloc ?_ _)); refine blk_far ?_ NB101_104.out _; (with_reducible repeat (first | refine blk_drewN ?_ _ | refine blk_drew ?_ | refine blk_alloc ?_ _)); refine blk_far ?_ NB101_104.out _; (with_reducible repeat (first | refine blk_drewN ?_ _ | refine blk_drew ?_ | refine blk_alloc ?_ _)); refine blk_far ?_ NB101_104.out _; (with_reducible repeat (first | refine blk_drewN ?_ _ | refine blk_drew ?_ | refine blk_alloc ?_ _)); refine blk_far ?_ NB101_104.out _; (with_reducible repeat (first | refine blk_drewN ?_ _ | refine blk_drew ?_ | refine blk_alloc ?_ _)); refine blk_far ?_ NB101_103.out _; (with_reducible repeat (first | refine blk_drewN ?_ _ | refine blk_drew ?_ | refine blk_alloc ?_ _)); refine blk_far ?_ NB101_103.out _; (with_reducible repeat (first | refine blk_drewN ?_ _ | refine blk_drew ?_ | refine blk_alloc ?_ _)); refine blk_far ?_ NB101_103.out _; (with_reducible repeat (first | refine blk_drewN ?_ _ | refine blk_drew ?_ | refine blk_alloc ?_ _)); refine blk_far ?_ NB101_103.out _; (with_reducible repeat (first | refine blk_drewN ?_ _ | refine blk_drew ?_ | refine blk_alloc ?_ _)); exact BK101.out⟩, ⟨by (with_reducible repeat (first | refine blk_drewN ?_ _ | refine blk_drew ?_ | refine blk_alloc ?_ _)); refine blk_far ?_ NB102_104.out _; (with_reducible repeat (first | refine blk_drewN ?_ _ | refine blk_drew ?_ | refine blk_alloc ?_ _)); refine blk_far ?_ NB102_104.out _; (with_reducible repeat (first | refine blk_drewN ?_ _ | refine blk_drew ?_ | refine blk_alloc ?_ _)); refine blk_far ?_ NB102_104.out _; (with_reducible repeat (first | refine blk_drewN ?_ _ | refine blk_drew ?_ | refine blk_alloc ?_ _)); refine blk_far ?_ NB102_104.out _; (with_reducible repeat (first | refine blk_drewN ?_ _ | refine blk_drew ?_ | refine blk_alloc ?_ _)); refine blk_far ?_ NB102_103.out _; (with_reducible repeat (first | refine blk_drewN ?_ _ | refine blk_drew ?_ | refine blk_alloc ?_ _)); refine blk_far ?_ NB102_103.out _; (with_reducible repeat (first | refine blk_drewN ?_ _ | refine blk_drew ?_ | refine blk_alloc ?_ _)); refine blk_far ?_ NB102_103.out _; (with_reducible repeat (first | refine blk_drewN ?_ _ | refine blk_drew ?_ | refine blk_alloc ?_ _)); refine blk_far ?_ NB102_103.out _; (with_reducible repeat (first | refine blk_drewN ?_ _ | refine blk_drew ?_ | refine blk_alloc ?_ _)); exact BK102.out⟩, ⟨by (with_reducible repeat (first | refine blk_drewN ?_ _ | refine blk_drew ?_ | refine blk_alloc ?_ _)); refine blk_far ?_ NB103_104.out _; (with_reducible repeat (first | refine blk_drewN ?_ _ | refine blk_drew ?_ | refine blk_alloc ?_ _)); refine blk_far ?_ NB103_104.out _; (with_reducible repeat (first | refine blk_drewN ?_ _ | refine blk_drew ?_ | refine blk_alloc ?_ _)); refine blk_far ?_ NB103_104.out _; (with_reducible repeat (first | refine blk_drewN ?_ _ | refine blk_drew ?_ | refine blk_alloc ?_ _)); refine blk_far ?_ NB103_104.out _; (with_reducible repeat (first | refine blk_drewN ?_ _ | refine blk_drew ?_ | refine blk_alloc ?_ _)); refine blk_put (cs := #[.bool a0_10, .bool a0_11, .slice A0_12 l0_12.length c0_12, .int .i64 0]) ?_ 3 _ rfl; (with_reducible repeat (first | refine blk_drewN ?_ _ | refine blk_drew ?_ | refine blk_alloc ?_ _)); refine blk_put (cs := #[.bool a0_10, .bool a0_11, .slice none 0 0, .int .i64 0]) ?_ 2 _ rfl; (with_reducible repeat (first | refine blk_drewN ?_ _ | refine blk_drew ?_ | refine blk_alloc ?_ _)); refine blk_put (cs := #[.bool a0_10, .bool false, .slice none 0 0, .int .i64 0]) ?_ 1 _ rfl; (with_reducible repeat (first | refine blk_drewN ?_ _ | refine blk_drew ?_ | refine blk_alloc ?_ _)); refine blk_put (cs := #[.bool false, .bool false, .slice none 0 0, .int .i64 0]) ?_ 0 _ rfl; (with_reducible repeat (first | refine blk_drewN ?_ _ | refine blk_drew ?_ | refine blk_alloc ?_ _)); exact BK103.out⟩, ⟨by (with_reducible repeat (first | refine blk_drewN ?_ _ | refine blk_drew ?_ | refine blk_alloc ?_ _)); refine blk_put (cs := #[.bool a1_10, .bool a1_11, .slice A1_12 l1_12.length c1_12, .int .i64 0]) ?_ 3 _ rfl; (with_reducible repeat (first | refine blk_drewN ?_ _ | refine blk_drew ?_ | refine blk_alloc ?_ _)); refine blk_put (cs := #[.bool a1_10, .bool a1_11, .slice none 0 0, .int .i64 0]) ?_ 2 _ rfl; (with_reducible repeat (first | refine blk_drewN ?_ _ | refine blk_drew ?_ | refine blk_alloc ?_ _)); refine blk_put (cs := #[.bool a1_10, .bool false, .slice none 0 0, .int .i64 0]) ?_ 1 _ rfl; (with_reducible repeat (first | refine blk_drewN ?_ _ | refine blk_drew ?_ | refine blk_alloc ?_ _)); refine blk_put (cs := #[.bool false, .bool false, .slice none 0 0, .int .i64 0]) ?_ 0 _ rfl; (with_reducible repeat (first | refine blk_drewN ?_ _ | refine blk_drew ?_ | refine blk_alloc ?_ _)); refine blk_far ?_ NB104_103.out _; (with_reducible repeat (first | refine blk_drewN ?_ _ | refine blk_drew ?_ | refine blk_alloc ?_ _)); refine blk_far ?_ NB104_103.out _; (with_reducible repeat (first | refine blk_drewN ?_ _ | refine blk_drew ?_ | refine blk_alloc ?_ _)); refine blk_far ?_ NB104_103.out _; (with_reducible repeat (first | refine blk_drewN ?_ _ | refine blk_drew ?_ | refine blk_alloc ?_ _)); refine blk_far ?_ NB104_103.out _; (with_reducible repeat (first | refine blk_drewN ?_ _ | refine blk_drew ?_ | refine blk_alloc ?_ _)); exact BK104.out⟩, ⟨by repeat (first | (with_reducible first | exact HB.out | apply below_alloc | apply pw_below_drewN | apply below_drew1 | refine below_set ?_ GE101.out | refine below_set ?_ GE102.out | refine below_set ?_ GE103.out | refine below_set ?_ GE104.out) | exact HB.out)⟩⟩
        · rw [if_neg c34] at H
          have c34b0 : (a0_13 == a1_13) = false := beq_eq_false_iff_ne.mpr c34
          have c34b1 : (a0_13 != a1_13) = true := bne_iff_ne.mpr c34
          have H' := Aside0.mk H
          clear H
          have hnb42 := NB103_101.out
          have hnc42 := NB101_103.out
          have hnb43 := NB103_102.out
          have hnc43 := NB102_103.out
          have hnb44 := NB103_104.out
          have hnc44 := NB104_103.out
          have hcz45_0 : w9.cell? ⟨gb103, 0, none⟩ = some (.bool false) := (blk_cell BK103.out 0).trans rfl
          have hcz45_1 : w9.cell? ⟨gb103, 1, none⟩ = some (.bool false) := (blk_cell BK103.out 1).trans rfl
          have hcz45_2 : w9.cell? ⟨gb103, 2, none⟩ = some (.slice none 0 0) := (blk_cell BK103.out 2).trans rfl
          have hcz45_3 : w9.cell? ⟨gb103, 3, none⟩ = some (.int .i64 0) := (blk_cell BK103.out 3).trans rfl
          have hfz45_0 := blk_frozen BK103.out 0
          have hfz45_1 := blk_frozen BK103.out 1
          have hfz45_2 := blk_frozen BK103.out 2
          have hfz45_3 := blk_frozen BK103.out 3
          have hnb46 := NB104_101.out
          have hnc46 := NB101_104.out
          have hnb47 := NB104_102.out
          have hnc47 := NB102_104.out
          have hcz48_0 : w9.cell? ⟨gb104, 0, none⟩ = some (.bool false) := (blk_cell BK104.out 0).trans rfl
          have hcz48_1 : w9.cell? ⟨gb104, 1, none⟩ = some (.bool false) := (blk_cell BK104.out 1).trans rfl
          have hcz48_2 : w9.cell? ⟨gb104, 2, none⟩ = some (.slice none 0 0) := (blk_cell BK104.out 2).trans rfl
          have hcz48_3 : w9.cell? ⟨gb104, 3, none⟩ = some (.int .i64 0) := (blk_cell BK104.out 3).trans rfl
          have hfz48_0 := blk_frozen BK104.out 0
          have hfz48_1 := blk_frozen BK104.out 1
          have hfz48_2 := blk_frozen BK104.out 2
          have hfz48_3 := blk_frozen BK104.out 3
          go_wp2
          go_meet
          case rel => exact ⟨_, (true), (by first | rfl | (simp; done) | (simp [*]; done)), H', ⟨by first | omega | exact Nat.le_refl _⟩, ⟨by (with_reducible repeat (first | refine blk_drewN ?_ _ | refine blk_drew ?_ | refine blk_alloc ?_ _)); refine blk_far ?_ NB101_104.out _; (with_reducible repeat (first | refine blk_drewN ?_ _ | refine blk_drew ?_ | refine blk_alloc ?_ _)); refine blk_far ?_ NB101_104.out _; (with_reducible repeat (first | refine blk_drewN ?_ _ | refine blk_drew ?_ | refine blk_alloc ?_ _)); refine blk_far ?_ NB101_104.out _; (with_reducible repeat (first | refine blk_drewN ?_ _ | refine blk_drew ?_ | refine blk_alloc ?_ _)); refine blk_far ?_ NB101_104.out _; (with_reducible repeat (first | refine blk_drewN ?_ _ | refine blk_drew ?_ | refine blk_alloc ?_ _)); refine blk_far ?_ NB101_103.out _; (with_reducible repeat (first | refine blk_drewN ?_ _ | refine blk_drew ?_ | refine blk_alloc ?_ _)); refine blk_far ?_ NB101_103.out _; (with_reducible repeat (first | refine blk_drewN ?_ _ | refine blk_drew ?_ | refine blk_alloc ?_ _)); refine blk_far ?_ NB101_103.out _; (with_reducible repeat (first | refine blk_drewN ?_ _ | refine blk_drew ?_ | refine blk_alloc ?_ _)); refine blk_far ?_ NB101_103.out _; (with_reducible repeat (first | refine blk_drewN ?_ _ | refine blk_drew ?_ | refine blk_alloc ?_ _)); exact BK101.out⟩, ⟨by (with_reducible repeat (first | refine blk_drewN ?_ _ | refine blk_drew ?_ | refine blk_alloc ?_ _)); refine blk_far ?_ NB102_104.out _; (with_reducible repeat (first | refine blk_drewN ?_ _ | refine blk_drew ?_ | refine blk_alloc ?_ _)); refine blk_far ?_ NB102_104.out _; (with_reducible repeat (first | refine blk_drewN ?_ _ | refine blk_drew ?_ | refine blk_alloc ?_ _)); refine blk_far ?_ NB102_104.out _; (with_reducible repeat (first | refine blk_drewN ?_ _ | refine blk_drew ?_ | refine blk_alloc ?_ _)); refine blk_far ?_ NB102_104.out _; (with_reducible repeat (first | refine blk_drewN ?_ _ | refine blk_drew ?_ | refine blk_alloc ?_ _)); refine blk_far ?_ NB102_103.out _; (with_reducible repeat (first | refine blk_drewN ?_ _ | refine blk_drew ?_ | refine blk_alloc ?_ _)); refine blk_far ?_ NB102_103.out _; (with_reducible repeat (first | refine blk_drewN ?_ _ | refine blk_drew ?_ | refine blk_alloc ?_ _)); refine blk_far ?_ NB102_103.out _; (with_reducible repeat (first | refine blk_drewN ?_ _ | refine blk_drew ?_ | refine blk_alloc ?_ _)); refine blk_far ?_ NB102_103.out _; (with_reducible repeat (first | refine blk_drewN ?_ _ | refine blk_drew ?_ | refine blk_alloc ?_ _)); exact BK102.out⟩, ⟨by (with_reducible repeat (first | refine blk_drewN ?_ _ | refine blk_drew ?_ | refine blk_alloc ?_ _)); refine blk_far ?_ NB103_104.out _; (with_reducible repeat (first | refine blk_drewN ?_ _ | refine blk_drew ?_ | refine blk_alloc ?_ _)); refine blk_far ?_ NB103_104.out _; (with_reducible repeat (first | refine blk_drewN ?_ _ | refine blk_drew ?_ | refine blk_alloc ?_ _)); refine blk_far ?_ NB103_104.out _; (with_reducible repeat (first | refine blk_drewN ?_ _ | refine blk_drew ?_ | refine blk_alloc ?_ _)); refine blk_far ?_ NB103_104.out _; (with_reducible repeat (first | refine blk_drewN ?_ _ | refine blk_drew ?_ | refine blk_alloc ?_ _)); refine blk_put (cs := #[.bool a0_10, .bool a0_11, .slice A0_12 l0_12.length c0_12, .int .i64 0]) ?_ 3 _ rfl; (with_reducible repeat (first | refine blk_drewN ?_ _ | refine blk_drew ?_ | refine blk_alloc ?_ _)); refine blk_put (cs := #[.bool a0_10, .bool a0_11, .slice none 0 0, .int .i64 0]) ?_ 2 _ rfl; (with_reducible repeat (first | refine blk_drewN ?_ _ | refine blk_drew ?_ | refine blk_alloc ?_ _)); refine blk_put (cs := #[.bool a0_10, .bool false, .slice none 0 0, .int .i64 0]) ?_ 1 _ rfl; (with_reducible repeat (first | refine blk_drewN ?_ _ | refine blk_drew ?_ | refine blk_alloc ?_ _)); refine blk_put (cs := #[.bool false, .bool false, .slice none 0 0, .int .i64 0]) ?_ 0 _ rfl; (with_reducible repeat (first | refine blk_drewN ?_ _ | refine blk_drew ?_ | refine blk_alloc ?_ _)); exact BK103.out⟩, ⟨by (with_reducible repeat (first | refine blk_drewN ?_ _ | refine blk_drew ?_ | refine blk_alloc ?_ _)); refine blk_put (cs := #[.bool a1_10, .bool a1_11, .slice A1_12 l1_12.length c1_12, .int .i64 0]) ?_ 3 _ rfl; (with_reducible repeat (first | refine blk_drewN ?_ _ | refine blk_drew ?_ | refine blk_alloc ?_ _)); refine blk_put (cs := #[.bool a1_10, .bool a1_11, .slice none 0 0, .int .i64 0]) ?_ 2 _ rfl; (with_reducible repeat (first | refine blk_drewN ?_ _ | refine blk_drew ?_ | refine blk_alloc ?_ _)); refine blk_put (cs := #[.bool a1_10, .bool false, .slice none 0 0, .int .i64 0]) ?_ 1 _ rfl; (with_reducible repeat (first | refine blk_drewN ?_ _ | refine blk_drew ?_ | refine blk_alloc ?_ _)); refine blk_put (cs := #[.bool false, .bool false, .slice none 0 0, .int .i64 0]) ?_ 0 _ rfl; (with_reducible repeat (first | refine blk_drewN ?_ _ | refine blk_drew ?_ | refine blk_alloc ?_ _)); refine blk_far ?_ NB104_103.out _; (with_reducible repeat (first | refine blk_drewN ?_ _ | refine blk_drew ?_ | refine blk_alloc ?_ _)); refine blk_far ?_ NB104_103.out _; (with_reducible repeat (first | refine blk_drewN ?_ _ | refine blk_drew ?_ | refine blk_alloc ?_ _)); refine blk_far ?_ NB104_103.out _; (with_reducible repeat (first | refine blk_drewN ?_ _ | refine blk_drew ?_ | refine blk_alloc ?_ _)); refine blk_far ?_ NB104_103.out _; (with_reducible repeat (first | refine blk_drewN ?_ _ | refine blk_drew ?_ | refine blk_alloc ?_ _)); exact BK104.out⟩, ⟨by repeat (first | (with_reducible first | exact HB.out | apply below_alloc | apply pw_below_drewN | apply below_drew1 | refine below_set ?_ GE101.out | refine below_set ?_ GE102.out | refine below_set ?_ GE103.out | refine below_set ?_ GE104.out) | exact HB.out)⟩⟩
  case rest =>
    clear HC3
    try clear c1
    try clear c2
    try clear p2
    try clear c3
    try clear c4
    try clear c14
    try clear c18
    try clear c18b0
    try clear c18b1
    try clear c18b2
    try clear c19
    try clear c20
    try clear c21
    try clear c23
    try clear c24
    try clear c26
    try clear c26b0
    try clear c26b1
    try clear c26b2
    try clear c27
    try clear c28
    try clear c29
    try clear c31
    try clear c32
    try clear c34
    try clear c34b0
    try clear c34b1
    try clear c35
    try clear c36
    try clear c37
    try clear c39
    try clear c40
    try clear c42
    try clear c43
    try clear c44
    try clear c46
    try clear c47
    try clear hcz22_0
    try clear hcz22_1
    try clear hcz22_2
    try clear hcz22_3
    try clear hcz25_0
    try clear hcz25_1
    try clear hcz25_2
    try clear hcz25_3
    try clear hcz30_0
    try clear hcz30_1
    try clear hcz30_2
    try clear hcz30_3
    try clear hcz33_0
    try clear hcz33_1
    try clear hcz33_2
    try clear hcz33_3
    try clear hcz38_0
    try clear hcz38_1
    try clear hcz38_2
    try clear hcz38_3
    try clear hcz41_0
    try clear hcz41_1
    try clear hcz41_2
    try clear hcz41_3
    try clear hcz45_0
    try clear hcz45_1
    try clear hcz45_2
    try clear hcz45_3
    try clear hcz48_0
    try clear hcz48_1
    try clear hcz48_2
    try clear hcz48_3
    try clear hfz22_0
    try clear hfz22_1
    try clear hfz22_2
    try clear hfz22_3
    try clear hfz25_0
    try clear hfz25_1
    try clear hfz25_2
    try clear hfz25_3
    try clear hfz30_0
    try clear hfz30_1
    try clear hfz30_2
    try clear hfz30_3
    try clear hfz33_0
    try clear hfz33_1
    try clear hfz33_2
    try clear hfz33_3
    try clear hfz38_0
    try clear hfz38_1
    try clear hfz38_2
    try clear hfz38_3
    try clear hfz41_0
    try clear hfz41_1
    try clear hfz41_2
    try clear hfz41_3
    try clear hfz45_0
    try clear hfz45_1
    try clear hfz45_2
    try clear hfz45_3
    try clear hfz48_0
    try clear hfz48_1
    try clear hfz48_2
    try clear hfz48_3
    obtain ⟨kq, x39_2, rfl, HA, HJ2, BK101, BK102, BK103, BK104, HB⟩ := hcut
    cases kq with
    | zero => exact absurd HA.out (by simp [decorumref18_Same.j0])
    | succ kj2 =>
      have H := HA.out
      clear HA
      simp only [decorumref18_Same.j0] at H
      by_cases c49 : x39_2 = true
      · subst c49
        have H1 : (some false) = some r := by rw [if_pos rfl] at H; exact H
        clear H
        have H := H1
        clear H1
        obtain rfl := Option.some.inj H
        go_wp2
        go_ret
        exact ⟨by first | rfl | (simp [errW_none, errW_some] <;> rfl) | (simp [*, errW_none, errW_some] <;> rfl) | (simp [wrap64]; done), by repeat (first | (with_reducible first | exact HB.out | apply below_alloc | apply pw_below_drewN | apply below_drew1 | refine below_set ?_ GE101.out | refine below_set ?_ GE102.out | refine below_set ?_ GE103.out | refine below_set ?_ GE104.out) | exact HB.out)⟩
      · replace c49 := Bool.eq_false_iff.mpr c49
        subst c49
        have H1 : (decorumref18_Same.l0 kj2 0 a0_0 a0_1 a0_2 a0_3 a0_4 a0_5 a0_6 a0_7 a0_8 a0_9 a0_10 a0_11 l0_12 a0_13 a1_0 a1_1 a1_2 a1_3 a1_4 a1_5 a1_6 a1_7 a1_8 a1_9 a1_10 a1_11 l1_12 a1_13 a0_10 a0_11 l0_12 a0_13 a1_10 a1_11 l1_12 a1_13) = some r := by rw [if_neg (show ¬ (false = true) by decide)] at H; exact H
        clear H
        have H := H1
        clear H1
        have H' := Aside0.mk H
        clear H
        go_wp2
        go_loopg [7] kj2 (fun kq v7 w' => ∃ (x7_2 : Int), v7 = .int .i64 x7_2 ∧ Aside0 (decorumref18_Same.l0 kq x7_2 a0_0 a0_1 a0_2 a0_3 a0_4 a0_5 a0_6 a0_7 a0_8 a0_9 a0_10 a0_11 l0_12 a0_13 a1_0 a1_1 a1_2 a1_3 a1_4 a1_5 a1_6 a1_7 a1_8 a1_9 a1_10 a1_11 l1_12 a1_13 a0_10 a0_11 l0_12 a0_13 a1_10 a1_11 l1_12 a1_13 = some r) ∧ Aside0 (kq ≤ kj2) ∧ Aside0 (w'.heap[gb101]? = some (.cells #[.int .i64 a0_0, .int .i64 a0_1, .int .i64 a0_2, .int .i64 a0_3, .int .i64 a0_4, .int .i64 a0_5, .int .i64 a0_6, .int .i64 a0_7, .int .i64 a0_8, .int .i64 a0_9, .bool a0_10, .bool a0_11, (.slice A0_12 l0_12.length c0_12), .int .i64 a0_13] 28 (0, 0))) ∧ Aside0 (w'.heap[gb102]? = some (.cells #[.int .i64 a1_0, .int .i64 a1_1, .int .i64 a1_2, .int .i64 a1_3, .int .i64 a1_4, .int .i64 a1_5, .int .i64 a1_6, .int .i64 a1_7, .int .i64 a1_8, .int .i64 a1_9, .bool a1_10, .bool a1_11, (.slice A1_12 l1_12.length c1_12), .int .i64 a1_13] 28 (0, 0))) ∧ Aside0 (w'.heap[gb103]? = some (.cells #[.bool a0_10, .bool a0_11, (.slice A0_12 l0_12.length c0_12), .int .i64 a0_13] 26 (0, 0))) ∧ Aside0 (w'.heap[gb104]? = some (.cells #[.bool a1_10, .bool a1_11, (.slice A1_12 l1_12.length c1_12), .int .i64 a1_13] 26 (0, 0))) ∧ Aside0 (Below w.heap.size w w'))
        case atStart => exact ⟨(0), (by first | rfl | (simp; done) | (simp [*]; done)), H', ⟨Nat.le_refl _⟩, ⟨by (with_reducible repeat (first | refine blk_drewN ?_ _ | refine blk_drew ?_ | refine blk_alloc ?_ _)); exact BK101.out⟩, ⟨by (with_reducible repeat (first | refine blk_drewN ?_ _ | refine blk_drew ?_ | refine blk_alloc ?_ _)); exact BK102.out⟩, ⟨by (with_reducible repeat (first | refine blk_drewN ?_ _ | refine blk_drew ?_ | refine blk_alloc ?_ _)); exact BK103.out⟩, ⟨by (with_reducible repeat (first | refine blk_drewN ?_ _ | refine blk_drew ?_ | refine blk_alloc ?_ _)); exact BK104.out⟩, ⟨by repeat (first | (with_reducible first | exact HB.out | apply below_alloc | apply pw_below_drewN | apply below_drew1 | refine below_set ?_ GE101.out | refine below_set ?_ GE102.out | refine below_set ?_ GE103.out | refine below_set ?_ GE104.out) | exact HB.out)⟩⟩
        case round =>
          clear H'
          try clear c1
          try clear c2
          try clear p2
          try clear c3
          try clear c4
          try clear p6
          try clear c14
          try clear c18
          try clear c18b0
          try clear c18b1
          try clear c18b2
          try clear c19
          try clear c20
          try clear c21
          try clear c23
          try clear c24
          try clear c26
          try clear c26b0
          try clear c26b1
          try clear c26b2
          try clear c27
          try clear c28
          try clear c29
          try clear c31
          try clear c32
          try clear c34
          try clear c34b0
          try clear c34b1
          try clear c35
          try clear c36
          try clear c37
          try clear c39
          try clear c40
          try clear c42
          try clear c43
          try clear c44
          try clear c46
          try clear c47
          try clear c49
          try clear hcz22_0
          try clear hcz22_1
          try clear hcz22_2
          try clear hcz22_3
          try clear hcz25_0
          try clear hcz25_1
          try clear hcz25_2
          try clear hcz25_3
          try clear hcz30_0
          try clear hcz30_1
          try clear hcz30_2
          try clear hcz30_3
          try clear hcz33_0
          try clear hcz33_1
          try clear hcz33_2
          try clear hcz33_3
          try clear hcz38_0
          try clear hcz38_1
          try clear hcz38_2
          try clear hcz38_3
          try clear hcz41_0
          try clear hcz41_1
          try clear hcz41_2
          try clear hcz41_3
          try clear hcz45_0
          try clear hcz45_1
          try clear hcz45_2
          try clear hcz45_3
          try clear hcz48_0
          try clear hcz48_1
          try clear hcz48_2
          try clear hcz48_3
          try clear hfz22_0
          try clear hfz22_1
          try clear hfz22_2
          try clear hfz22_3
          try clear hfz25_0
          try clear hfz25_1
          try clear hfz25_2
          try clear hfz25_3
          try clear hfz30_0
          try clear hfz30_1
          try clear hfz30_2
          try clear hfz30_3
          try clear hfz33_0
          try clear hfz33_1
          try clear hfz33_2
          try clear hfz33_3
          try clear hfz38_0
          try clear hfz38_1
          try clear hfz38_2
          try clear hfz38_3
          try clear hfz41_0
          try clear hfz41_1
          try clear hfz41_2
          try clear hfz41_3
          try clear hfz45_0
          try clear hfz45_1
          try clear hfz45_2
          try clear hfz45_3
          try clear hfz48_0
          try clear hfz48_1
          try clear hfz48_2
          try clear hfz48_3
          try clear p2
          obtain ⟨x7_2, rfl, HA, HK2, BK101, BK102, BK103, BK104, HB⟩ := hrel
          cases gk with
          | zero => exact absurd HA.out (by simp [decorumref18_Same.l0])
          | succ k2 =>
            have H := HA.out
            clear HA
            simp only [decorumref18_Same.l0] at H
            by_cases c50 : x7_2 < (l0_12.length : Int)
            · rw [if_pos c50] at H
              have c50b0 : decide (x7_2 < (l0_12.length : Int)) = true := decide_eq_true c50
              clear c50
              by_cases c51 : 0 ≤ x7_2
              · rw [if_pos c51] at H
                have c51b0 : decide (0 ≤ x7_2) = true := decide_eq_true c51
                clear c51
                by_cases c52 : x7_2 < (l1_12.length : Int)
                · rw [if_pos c52] at H
                  have c52b0 : decide (x7_2 < (l1_12.length : Int)) = true := decide_eq_true c52
                  clear c52
                  by_cases c53 : (!(((rd_T55 l0_12 x7_2).f0) == ((rd_T55 l1_12 x7_2).f0)) || (!((((rd_T55 l0_12 x7_2).f1).toList) == (((rd_T55 l1_12 x7_2).f1).toList)))) = true
                  · rw [if_pos c53] at H
                    have c53b0 : (!(((rd_T55 l0_12 x7_2).f0) == ((rd_T55 l1_12 x7_2).f0)) || (!((((rd_T55 l0_12 x7_2).f1).toList) == (((rd_T55 l1_12 x7_2).f1).toList)))) = true := c53
                    clear c53
                    obtain rfl := Option.some.inj H
                    have hnb54 := NB103_101.out
                    have hnc54 := NB101_103.out
                    have hnb55 := NB103_102.out
                    have hnc55 := NB102_103.out
                    have hnb56 := NB103_104.out
                    have hnc56 := NB104_103.out
                    have hcz57_0 : wr.cell? ⟨gb103, 0, none⟩ = some (.bool a0_10) := (blk_cell BK103.out 0).trans rfl
                    have hcz57_1 : wr.cell? ⟨gb103, 1, none⟩ = some (.bool a0_11) := (blk_cell BK103.out 1).trans rfl
                    have hcz57_2 : wr.cell? ⟨gb103, 2, none⟩ = some (.slice A0_12 l0_12.length c0_12) := (blk_cell BK103.out 2).trans rfl
                    have hcz57_3 : wr.cell? ⟨gb103, 3, none⟩ = some (.int .i64 a0_13) := (blk_cell BK103.out 3).trans rfl
                    have hfz57_0 := blk_frozen BK103.out 0
                    have hfz57_1 := blk_frozen BK103.out 1
                    have hfz57_2 := blk_frozen BK103.out 2
                    have hfz57_3 := blk_frozen BK103.out 3
                    try go_wp2
                    have n0_ := Aside0.mk (blk_drew BK101.out)
                    have n1_ := Aside0.mk (blk_drew BK102.out)
                    have n2_ := Aside0.mk (blk_drew BK103.out)
                    have n3_ := Aside0.mk (blk_drew BK104.out)
                    have n4_ := Aside0.mk (below_drew1 HB.out)
                    clear BK101
                    clear BK102
                    clear BK103
                    clear BK104
                    clear HB
                    have BK101 := n0_
                    have BK102 := n1_
                    have BK103 := n2_
                    have BK104 := n3_
                    have HB := n4_
                    clear n0_ n1_ n2_ n3_ n4_
                    have p105 : 0 ≤ (x7_2 : Int) := of_decide_eq_true (by first | (with_reducible assumption) | assumption)
                    have q105 : x7_2 < (l0_12.length : Int) := of_decide_eq_true (by first | (with_reducible assumption) | assumption)
                    obtain ⟨ad105, e105, hx105_0, hx105_1⟩ := at_T55 HR0_12.out x7_2 p105 q105
                    have hw105_1 := hx105_1
                    have hw105_0 := hx105_0
                    cases e105
                    replace hx105_0 := (HB.out.cell (World.block_lt_of_cell? w _ hx105_0)).trans hx105_0
                    replace hx105_1 := (HB.out.cell (World.block_lt_of_cell? w _ hx105_1)).trans hx105_1
                    replace p105 := eq_true p105
                    replace q105 := eq_true q105
                    have p106 : 0 ≤ (x7_2 : Int) := of_decide_eq_true (by first | (with_reducible assumption) | assumption)
                    have q106 : x7_2 < (l1_12.length : Int) := of_decide_eq_true (by first | (with_reducible assumption) | assumption)
                    obtain ⟨ad106, e106, hx106_0, hx106_1⟩ := at_T55 HR1_12.out x7_2 p106 q106
                    have hw106_1 := hx106_1
                    have hw106_0 := hx106_0
                    cases e106
                    replace hx106_0 := (HB.out.cell (World.block_lt_of_cell? w _ hx106_0)).trans hx106_0
                    replace hx106_1 := (HB.out.cell (World.block_lt_of_cell? w _ hx106_1)).trans hx106_1
                    replace p106 := eq_true p106
                    replace q106 := eq_true q106
                    refine start_ (n := 11) (S := fun w' => w'.cell? ⟨gb103, 0, none⟩ = some (.bool a0_10) ∧ w'.cell? ⟨gb103, 1, none⟩ = some (.bool a0_11) ∧ w'.cell? ⟨gb103, 2, none⟩ = some (.slice (some ad105) l0_12.length c0_12) ∧ w'.cell? ⟨gb103, 3, none⟩ = some (.int .i64 a0_13) ∧ w'.cell? ⟨gb104, 0, none⟩ = some (.bool a1_10) ∧ w'.cell? ⟨gb104, 1, none⟩ = some (.bool a1_11) ∧ w'.cell? ⟨gb104, 2, none⟩ = some (.slice (some ad106) l1_12.length c1_12) ∧ w'.cell? ⟨gb104, 3, none⟩ = some (.int .i64 a1_13) ∧ w'.cell? (ad105.add ((x7_2).toNat * 2)) = some (.bool ((rd_T55 l0_12 x7_2).f0)) ∧ w'.cell? ⟨(ad105.add ((x7_2).toNat * 2)).block, (ad105.add ((x7_2).toNat * 2)).off + 1, none⟩ = some (.string ((rd_T55 l0_12 x7_2).f1)) ∧ w'.cell? (ad106.add ((x7_2).toNat * 2)) = some (.bool ((rd_T55 l1_12 x7_2).f0)) ∧ w'.cell? ⟨(ad106.add ((x7_2).toNat * 2)).block, (ad106.add ((x7_2).toNat * 2)).off + 1, none⟩ = some (.string ((rd_T55 l1_12 x7_2).f1))) (ds := []) #[false, false, false, false, false, false, false, false, false, false, false] (by kernel_rfl) rfl rfl ⟨(blk_cell BK103.out 0).trans rfl, (blk_cell BK103.out 1).trans rfl, (blk_cell BK103.out 2).trans rfl, (blk_cell BK103.out 3).trans rfl, (blk_cell BK104.out 0).trans rfl, (blk_cell BK104.out 1).trans rfl, (blk_cell BK104.out 2).trans rfl, (blk_cell BK104.out 3).trans rfl, ((HB.out.cell (World.block_lt_of_cell? w _ hw105_0)).trans hw105_0), ((HB.out.cell (World.block_lt_of_cell? w _ hw105_1)).trans hw105_1), ((HB.out.cell (World.block_lt_of_cell? w _ hw106_0)).trans hw106_0), ((HB.out.cell (World.block_lt_of_cell? w _ hw106_1)).trans hw106_1)⟩ (fun hHeld => ?_); refine with_tabW decorumref18_Same.tab7 decorumref18_Same.bits7 (fun HT_ HW_ => ?_)
                    generalize wr.drew = w58 at BK101 BK102 BK103 BK104 HB hx105_0 hx105_1 hx106_0 hx106_1 hHeld ⊢
                    refine pure_ (i := 0) (N := some 47) (v := ?_) (a' := ?_) #[true, false, false, false, false, false, false, false, false, false, false] rfl rfl (any_of HT_.out (by kernel_rfl)) (fun _ _ _ h => h) (Or.inl ⟨by rfl, ?_⟩) ?_ ?_
                    rotate_left
                    · intro w'
                      go_simp
                      with_reducible rfl
                    rotate_left
                    · simp only [Act.put, List.setIfInBounds_toArray, List.set_cons_zero, List.set_cons_succ, i64_w, i32_w]
                      rfl
                    refine pure_ (i := 2) (N := some 49) (v := ?_) (a' := ?_) #[true, false, true, false, false, false, false, false, false, false, false] rfl rfl (any_of HT_.out (by kernel_rfl)) (fun _ _ _ h => h) (Or.inl ⟨by rfl, ?_⟩) ?_ ?_
                    rotate_left
                    · intro w'
                      go_simp
                      with_reducible rfl
                    rotate_left
                    · simp only [Act.put, List.setIfInBounds_toArray, List.set_cons_zero, List.set_cons_succ, i64_w, i32_w]
                      rfl
                    refine pure_ (i := 5) (N := some 52) (v := ?_) (a' := ?_) #[true, false, true, false, false, true, false, false, false, false, false] rfl rfl (any_of HT_.out (by kernel_rfl)) (fun _ _ _ h => h) (Or.inl ⟨by rfl, ?_⟩) ?_ ?_
                    rotate_left
                    · intro w'
                      go_simp
                      with_reducible rfl
                    rotate_left
                    · simp only [Act.put, List.setIfInBounds_toArray, List.set_cons_zero, List.set_cons_succ, i64_w, i32_w]
                      rfl
                    refine pure_ (i := 7) (N := some 54) (v := ?_) (a' := ?_) #[true, false, true, false, false, true, false, true, false, false, false] rfl rfl (any_of HT_.out (by kernel_rfl)) (fun _ _ _ h => h) (Or.inl ⟨by rfl, ?_⟩) ?_ ?_
                    rotate_left
                    · intro w'
                      go_simp
                      with_reducible rfl
                    rotate_left
                    · simp only [Act.put, List.setIfInBounds_toArray, List.set_cons_zero, List.set_cons_succ, i64_w, i32_w]
                      rfl
                    refine take_ (i := 1) (N := some 48) (v := ?_) (a' := ?_) #[true, true, true, false, false, true, false, true, false, false, false] rfl rfl (take_ofW HT_.out HW_.out (by kernel_rfl)) (fun _ _ _ h => h) (Or.inl ⟨by rfl, ?_⟩) hHeld ?_ ?_
                    rotate_left
                    · rintro w' ⟨s0, s1, s2, s3, s4, s5, s6, s7, s8, s9, s10, s11⟩
                      go_simp
                      with_reducible rfl
                    rotate_left
                    · simp only [Act.put, List.setIfInBounds_toArray, List.set_cons_zero, List.set_cons_succ, i64_w, i32_w]
                      rfl
                    refine pure_ (i := 3) (N := some 50) (v := ?_) (a' := ?_) #[true, true, true, true, false, true, false, true, false, false, false] rfl rfl (any_of HT_.out (by kernel_rfl)) (fun _ _ _ h => h) (Or.inl ⟨by rfl, ?_⟩) ?_ ?_
                    rotate_left
                    · intro w'
                      go_simp
                      with_reducible rfl
                    rotate_left
                    · simp only [Act.put, List.setIfInBounds_toArray, List.set_cons_zero, List.set_cons_succ, i64_w, i32_w]
                      rfl
                    refine take_ (i := 4) (N := some 51) (v := ?_) (a' := ?_) #[true, true, true, true, true, true, false, true, false, false, false] rfl rfl (take_ofW HT_.out HW_.out (by kernel_rfl)) (fun _ _ _ h => h) (Or.inl ⟨by rfl, ?_⟩) hHeld ?_ ?_
                    rotate_left
                    · rintro w' ⟨s0, s1, s2, s3, s4, s5, s6, s7, s8, s9, s10, s11⟩
                      go_simp
                      with_reducible rfl
                    rotate_left
                    · simp only [Act.put, List.setIfInBounds_toArray, List.set_cons_zero, List.set_cons_succ, i64_w, i32_w]
                      rfl
                    refine take_ (i := 6) (N := some 53) (v := ?_) (a' := ?_) #[true, true, true, true, true, true, true, true, false, false, false] rfl rfl (take_ofW HT_.out HW_.out (by kernel_rfl)) (fun _ _ _ h => h) (Or.inl ⟨by rfl, ?_⟩) hHeld ?_ ?_
                    rotate_left
                    · rintro w' ⟨s0, s1, s2, s3, s4, s5, s6, s7, s8, s9, s10, s11⟩
                      go_simp
                      with_reducible rfl
                    rotate_left
                    · simp only [Act.put, List.setIfInBounds_toArray, List.set_cons_zero, List.set_cons_succ, i64_w, i32_w]
                      rfl
                    refine pure_ (i := 8) (N := some 55) (v := ?_) (a' := ?_) #[true, true, true, true, true, true, true, true, true, false, false] rfl rfl (any_of HT_.out (by kernel_rfl)) (fun _ _ _ h => h) (Or.inl ⟨by rfl, ?_⟩) ?_ ?_
                    rotate_left
                    · intro w'
                      go_simp
                      with_reducible rfl
                    rotate_left
                    · simp only [Act.put, List.setIfInBounds_toArray, List.set_cons_zero, List.set_cons_succ, i64_w, i32_w]
                      rfl
                    refine take_ (i := 9) (N := some 56) (v := ?_) (a' := ?_) #[true, true, true, true, true, true, true, true, true, true, false] rfl rfl (take_ofW HT_.out HW_.out (by kernel_rfl)) (fun _ _ _ h => h) (Or.inl ⟨by rfl, ?_⟩) hHeld ?_ ?_
                    rotate_left
                    · rintro w' ⟨s0, s1, s2, s3, s4, s5, s6, s7, s8, s9, s10, s11⟩
                      go_simp
                      with_reducible rfl
                    rotate_left
                    · simp only [Act.put, List.setIfInBounds_toArray, List.set_cons_zero, List.set_cons_succ, i64_w, i32_w]
                      rfl
                    refine pure_ (i := 10) (N := some 57) (v := ?_) (a' := ?_) #[true, true, true, true, true, true, true, true, true, true, true] rfl rfl (any_of HT_.out (by kernel_rfl)) (fun _ _ _ h => h) (Or.inl ⟨by rfl, ?_⟩) ?_ ?_
                    rotate_left
                    · intro w'
                      go_simp
                      with_reducible rfl
                    rotate_left
                    · simp only [Act.put, List.setIfInBounds_toArray, List.set_cons_zero, List.set_cons_succ, i64_w, i32_w]
                      rfl
                    refine done_ (done_of HT_.out (by kernel_rfl)) ?_
                    try go_wp2
                    go_ret
                    exact ⟨by first | rfl | (simp [errW_none, errW_some] <;> rfl) | (simp [*, errW_none, errW_some] <;> rfl) | (simp [wrap64]; done), by repeat (first | (with_reducible first | exact HB.out | apply below_alloc | apply pw_below_drewN | apply below_drew1 | refine below_set ?_ GE101.out | refine below_set ?_ GE102.out | refine below_set ?_ GE103.out | refine below_set ?_ GE104.out) | exact HB.out)⟩
                  · rw [if_neg c53] at H
                    have c53b0 : (!(((rd_T55 l0_12 x7_2).f0) == ((rd_T55 l1_12 x7_2).f0)) || (!((((rd_T55 l0_12 x7_2).f1).toList) == (((rd_T55 l1_12 x7_2).f1).toList)))) = false := by simpa using c53
                    clear c53
                    have H' := Aside0.mk H
                    clear H
                    have hnb59 := NB103_101.out
                    have hnc59 := NB101_103.out
                    have hnb60 := NB103_102.out
                    have hnc60 := NB102_103.out
                    have hnb61 := NB103_104.out
                    have hnc61 := NB104_103.out
                    have hcz62_0 : wr.cell? ⟨gb103, 0, none⟩ = some (.bool a0_10) := (blk_cell BK103.out 0).trans rfl
                    have hcz62_1 : wr.cell? ⟨gb103, 1, none⟩ = some (.bool a0_11) := (blk_cell BK103.out 1).trans rfl
                    have hcz62_2 : wr.cell? ⟨gb103, 2, none⟩ = some (.slice A0_12 l0_12.length c0_12) := (blk_cell BK103.out 2).trans rfl
                    have hcz62_3 : wr.cell? ⟨gb103, 3, none⟩ = some (.int .i64 a0_13) := (blk_cell BK103.out 3).trans rfl
                    have hfz62_0 := blk_frozen BK103.out 0
                    have hfz62_1 := blk_frozen BK103.out 1
                    have hfz62_2 := blk_frozen BK103.out 2
                    have hfz62_3 := blk_frozen BK103.out 3
                    try go_wp2
                    have n0_ := Aside0.mk (blk_drew BK101.out)
                    have n1_ := Aside0.mk (blk_drew BK102.out)
                    have n2_ := Aside0.mk (blk_drew BK103.out)
                    have n3_ := Aside0.mk (blk_drew BK104.out)
                    have n4_ := Aside0.mk (below_drew1 HB.out)
                    clear BK101
                    clear BK102
                    clear BK103
                    clear BK104
                    clear HB
                    have BK101 := n0_
                    have BK102 := n1_
                    have BK103 := n2_
                    have BK104 := n3_
                    have HB := n4_
                    clear n0_ n1_ n2_ n3_ n4_
                    have p105 : 0 ≤ (x7_2 : Int) := of_decide_eq_true (by first | (with_reducible assumption) | assumption)
                    have q105 : x7_2 < (l0_12.length : Int) := of_decide_eq_true (by first | (with_reducible assumption) | assumption)
                    obtain ⟨ad105, e105, hx105_0, hx105_1⟩ := at_T55 HR0_12.out x7_2 p105 q105
                    have hw105_1 := hx105_1
                    have hw105_0 := hx105_0
                    cases e105
                    replace hx105_0 := (HB.out.cell (World.block_lt_of_cell? w _ hx105_0)).trans hx105_0
                    replace hx105_1 := (HB.out.cell (World.block_lt_of_cell? w _ hx105_1)).trans hx105_1
                    replace p105 := eq_true p105
                    replace q105 := eq_true q105
                    have p106 : 0 ≤ (x7_2 : Int) := of_decide_eq_true (by first | (with_reducible assumption) | assumption)
                    have q106 : x7_2 < (l1_12.length : Int) := of_decide_eq_true (by first | (with_reducible assumption) | assumption)
                    obtain ⟨ad106, e106, hx106_0, hx106_1⟩ := at_T55 HR1_12.out x7_2 p106 q106
                    have hw106_1 := hx106_1
                    have hw106_0 := hx106_0
                    cases e106
                    replace hx106_0 := (HB.out.cell (World.block_lt_of_cell? w _ hx106_0)).trans hx106_0
                    replace hx106_1 := (HB.out.cell (World.block_lt_of_cell? w _ hx106_1)).trans hx106_1
                    replace p106 := eq_true p106
                    replace q106 := eq_true q106
                    refine start_ (n := 11) (S := fun w' => w'.cell? ⟨gb103, 0, none⟩ = some (.bool a0_10) ∧ w'.cell? ⟨gb103, 1, none⟩ = some (.bool a0_11) ∧ w'.cell? ⟨gb103, 2, none⟩ = some (.slice (some ad105) l0_12.length c0_12) ∧ w'.cell? ⟨gb103, 3, none⟩ = some (.int .i64 a0_13) ∧ w'.cell? ⟨gb104, 0, none⟩ = some (.bool a1_10) ∧ w'.cell? ⟨gb104, 1, none⟩ = some (.bool a1_11) ∧ w'.cell? ⟨gb104, 2, none⟩ = some (.slice (some ad106) l1_12.length c1_12) ∧ w'.cell? ⟨gb104, 3, none⟩ = some (.int .i64 a1_13) ∧ w'.cell? (ad105.add ((x7_2).toNat * 2)) = some (.bool ((rd_T55 l0_12 x7_2).f0)) ∧ w'.cell? ⟨(ad105.add ((x7_2).toNat * 2)).block, (ad105.add ((x7_2).toNat * 2)).off + 1, none⟩ = some (.string ((rd_T55 l0_12 x7_2).f1)) ∧ w'.cell? (ad106.add ((x7_2).toNat * 2)) = some (.bool ((rd_T55 l1_12 x7_2).f0)) ∧ w'.cell? ⟨(ad106.add ((x7_2).toNat * 2)).block, (ad106.add ((x7_2).toNat * 2)).off + 1, none⟩ = some (.string ((rd_T55 l1_12 x7_2).f1))) (ds := []) #[false, false, false, false, false, false, false, false, false, false, false] (by kernel_rfl) rfl rfl ⟨(blk_cell BK103.out 0).trans rfl, (blk_cell BK103.out 1).trans rfl, (blk_cell BK103.out 2).trans rfl, (blk_cell BK103.out 3).trans rfl, (blk_cell BK104.out 0).trans rfl, (blk_cell BK104.out 1).trans rfl, (blk_cell BK104.out 2).trans rfl, (blk_cell BK104.out 3).trans rfl, ((HB.out.cell (World.block_lt_of_cell? w _ hw105_0)).trans hw105_0), ((HB.out.cell (World.block_lt_of_cell? w _ hw105_1)).trans hw105_1), ((HB.out.cell (World.block_lt_of_cell? w _ hw106_0)).trans hw106_0), ((HB.out.cell (World.block_lt_of_cell? w _ hw106_1)).trans hw106_1)⟩ (fun hHeld => ?_); refine with_tabW decorumref18_Same.tab7 decorumref18_Same.bits7 (fun HT_ HW_ => ?_)
                    generalize wr.drew = w63 at BK101 BK102 BK103 BK104 HB hx105_0 hx105_1 hx106_0 hx106_1 hHeld ⊢
                    refine pure_ (i := 0) (N := some 47) (v := ?_) (a' := ?_) #[true, false, false, false, false, false, false, false, false, false, false] rfl rfl (any_of HT_.out (by kernel_rfl)) (fun _ _ _ h => h) (Or.inl ⟨by rfl, ?_⟩) ?_ ?_
                    rotate_left
                    · intro w'
                      go_simp
                      with_reducible rfl
                    rotate_left
                    · simp only [Act.put, List.setIfInBounds_toArray, List.set_cons_zero, List.set_cons_succ, i64_w, i32_w]
                      rfl
                    refine pure_ (i := 2) (N := some 49) (v := ?_) (a' := ?_) #[true, false, true, false, false, false, false, false, false, false, false] rfl rfl (any_of HT_.out (by kernel_rfl)) (fun _ _ _ h => h) (Or.inl ⟨by rfl, ?_⟩) ?_ ?_
                    rotate_left
                    · intro w'
                      go_simp
                      with_reducible rfl
                    rotate_left
                    · simp only [Act.put, List.setIfInBounds_toArray, List.set_cons_zero, List.set_cons_succ, i64_w, i32_w]
                      rfl
                    refine pure_ (i := 5) (N := some 52) (v := ?_) (a' := ?_) #[true, false, true, false, false, true, false, false, false, false, false] rfl rfl (any_of HT_.out (by kernel_rfl)) (fun _ _ _ h => h) (Or.inl ⟨by rfl, ?_⟩) ?_ ?_
                    rotate_left
                    · intro w'
                      go_simp
                      with_reducible rfl
                    rotate_left
                    · simp only [Act.put, List.setIfInBounds_toArray, List.set_cons_zero, List.set_cons_succ, i64_w, i32_w]
                      rfl
                    refine pure_ (i := 7) (N := some 54) (v := ?_) (a' := ?_) #[true, false, true, false, false, true, false, true, false, false, false] rfl rfl (any_of HT_.out (by kernel_rfl)) (fun _ _ _ h => h) (Or.inl ⟨by rfl, ?_⟩) ?_ ?_
                    rotate_left
                    · intro w'
                      go_simp
                      with_reducible rfl
                    rotate_left
                    · simp only [Act.put, List.setIfInBounds_toArray, List.set_cons_zero, List.set_cons_succ, i64_w, i32_w]
                      rfl
                    refine take_ (i := 1) (N := some 48) (v := ?_) (a' := ?_) #[true, true, true, false, false, true, false, true, false, false, false] rfl rfl (take_ofW HT_.out HW_.out (by kernel_rfl)) (fun _ _ _ h => h) (Or.inl ⟨by rfl, ?_⟩) hHeld ?_ ?_
                    rotate_left
                    · rintro w' ⟨s0, s1, s2, s3, s4, s5, s6, s7, s8, s9, s10, s11⟩
                      go_simp
                      with_reducible rfl
                    rotate_left
                    · simp only [Act.put, List.setIfInBounds_toArray, List.set_cons_zero, List.set_cons_succ, i64_w, i32_w]
                      rfl
                    refine pure_ (i := 3) (N := some 50) (v := ?_) (a' := ?_) #[true, true, true, true, false, true, false, true, false, false, false] rfl rfl (any_of HT_.out (by kernel_rfl)) (fun _ _ _ h => h) (Or.inl ⟨by rfl, ?_⟩) ?_ ?_
                    rotate_left
                    · intro w'
                      go_simp
                      with_reducible rfl
                    rotate_left
                    · simp only [Act.put, List.setIfInBounds_toArray, List.set_cons_zero, List.set_cons_succ, i64_w, i32_w]
                      rfl
                    refine take_ (i := 4) (N := some 51) (v := ?_) (a' := ?_) #[true, true, true, true, true, true, false, true, false, false, false] rfl rfl (take_ofW HT_.out HW_.out (by kernel_rfl)) (fun _ _ _ h => h) (Or.inl ⟨by rfl, ?_⟩) hHeld ?_ ?_
                    rotate_left
                    · rintro w' ⟨s0, s1, s2, s3, s4, s5, s6, s7, s8, s9, s10, s11⟩
                      go_simp
                      with_reducible rfl
                    rotate_left
                    · simp only [Act.put, List.setIfInBounds_toArray, List.set_cons_zero, List.set_cons_succ, i64_w, i32_w]
                      rfl
                    refine take_ (i := 6) (N := some 53) (v := ?_) (a' := ?_) #[true, true, true, true, true, true, true, true, false, false, false] rfl rfl (take_ofW HT_.out HW_.out (by kernel_rfl)) (fun _ _ _ h => h) (Or.inl ⟨by rfl, ?_⟩) hHeld ?_ ?_
                    rotate_left
                    · rintro w' ⟨s0, s1, s2, s3, s4, s5, s6, s7, s8, s9, s10, s11⟩
                      go_simp
                      with_reducible rfl
                    rotate_left
                    · simp only [Act.put, List.setIfInBounds_toArray, List.set_cons_zero, List.set_cons_succ, i64_w, i32_w]
                      rfl
                    refine pure_ (i := 8) (N := some 55) (v := ?_) (a' := ?_) #[true, true, true, true, true, true, true, true, true, false, false] rfl rfl (any_of HT_.out (by kernel_rfl)) (fun _ _ _ h => h) (Or.inl ⟨by rfl, ?_⟩) ?_ ?_
                    rotate_left
                    · intro w'
                      go_simp
                      with_reducible rfl
                    rotate_left
                    · simp only [Act.put, List.setIfInBounds_toArray, List.set_cons_zero, List.set_cons_succ, i64_w, i32_w]
                      rfl
                    refine take_ (i := 9) (N := some 56) (v := ?_) (a' := ?_) #[true, true, true, true, true, true, true, true, true, true, false] rfl rfl (take_ofW HT_.out HW_.out (by kernel_rfl)) (fun _ _ _ h => h) (Or.inl ⟨by rfl, ?_⟩) hHeld ?_ ?_
                    rotate_left
                    · rintro w' ⟨s0, s1, s2, s3, s4, s5, s6, s7, s8, s9, s10, s11⟩
                      go_simp
                      with_reducible rfl
                    rotate_left
                    · simp only [Act.put, List.setIfInBounds_toArray, List.set_cons_zero, List.set_cons_succ, i64_w, i32_w]
                      rfl
                    refine pure_ (i := 10) (N := some 57) (v := ?_) (a' := ?_) #[true, true, true, true, true, true, true, true, true, true, true] rfl rfl (any_of HT_.out (by kernel_rfl)) (fun _ _ _ h => h) (Or.inl ⟨by rfl, ?_⟩) ?_ ?_
                    rotate_left
                    · intro w'
                      go_simp
                      with_reducible rfl
                    rotate_left
                    · simp only [Act.put, List.setIfInBounds_toArray, List.set_cons_zero, List.set_cons_succ, i64_w, i32_w]
                      rfl
                    refine done_ (done_of HT_.out (by kernel_rfl)) ?_
                    try go_wp2
                    go_roundg k2
                    case measure => have := HJ2.out; have := HK2.out; omega
                    case rel => exact ⟨(wrap64 (x7_2 + 1)), (by first | rfl | (simp; done) | (simp [*]; done)), H', ⟨by have := HJ2.out; have := HK2.out; omega⟩, ⟨by (with_reducible repeat (first | refine blk_drewN ?_ _ | refine blk_drew ?_ | refine blk_alloc ?_ _)); exact BK101.out⟩, ⟨by (with_reducible repeat (first | refine blk_drewN ?_ _ | refine blk_drew ?_ | refine blk_alloc ?_ _)); exact BK102.out⟩, ⟨by (with_reducible repeat (first | refine blk_drewN ?_ _ | refine blk_drew ?_ | refine blk_alloc ?_ _)); exact BK103.out⟩, ⟨by (with_reducible repeat (first | refine blk_drewN ?_ _ | refine blk_drew ?_ | refine blk_alloc ?_ _)); exact BK104.out⟩, ⟨by repeat (first | (with_reducible first | exact HB.out | apply below_alloc | apply pw_below_drewN | apply below_drew1 | refine below_set ?_ GE101.out | refine below_set ?_ GE102.out | refine below_set ?_ GE103.out | refine below_set ?_ GE104.out) | exact HB.out)⟩⟩
                · rw [if_neg c52] at H
                  exact absurd H (by simp)
              · rw [if_neg c51] at H
                exact absurd H (by simp)
            · rw [if_neg c50] at H
              have c50b0 : decide (x7_2 < (l0_12.length : Int)) = false := decide_eq_false c50
              clear c50
              by_cases c64 : a0_0 = a1_0
              · rw [if_pos c64] at H
                have c64b0 : (a0_0 == a1_0) = true := beq_iff_eq.mpr c64
                have c64b1 : (a0_0 != a1_0) = false := bne_eq_false_iff_eq.mpr c64
                clear c64
                by_cases c65 : a0_1 = a1_1
                · rw [if_pos c65] at H
                  have c65b0 : (a0_1 == a1_1) = true := beq_iff_eq.mpr c65
                  have c65b1 : (a0_1 != a1_1) = false := bne_eq_false_iff_eq.mpr c65
                  clear c65
                  by_cases c66 : a0_2 = a1_2
                  · rw [if_pos c66] at H
                    have c66b0 : (a0_2 == a1_2) = true := beq_iff_eq.mpr c66
                    have c66b1 : (a0_2 != a1_2) = false := bne_eq_false_iff_eq.mpr c66
                    clear c66
                    by_cases c67 : a0_3 = a1_3
                    · rw [if_pos c67] at H
                      have c67b0 : (a0_3 == a1_3) = true := beq_iff_eq.mpr c67
                      have c67b1 : (a0_3 != a1_3) = false := bne_eq_false_iff_eq.mpr c67
                      clear c67
                      by_cases c68 : a0_4 = a1_4
                      · rw [if_pos c68] at H
                        have c68b0 : (a0_4 == a1_4) = true := beq_iff_eq.mpr c68
                        have c68b1 : (a0_4 != a1_4) = false := bne_eq_false_iff_eq.mpr c68
                        clear c68
                        by_cases c69 : a0_5 = a1_5
                        · rw [if_pos c69] at H
                          have c69b0 : (a0_5 == a1_5) = true := beq_iff_eq.mpr c69
                          have c69b1 : (a0_5 != a1_5) = false := bne_eq_false_iff_eq.mpr c69
                          clear c69
                          by_cases c70 : a0_6 = a1_6
                          · rw [if_pos c70] at H
                            have c70b0 : (a0_6 == a1_6) = true := beq_iff_eq.mpr c70
                            have c70b1 : (a0_6 != a1_6) = false := bne_eq_false_iff_eq.mpr c70
                            clear c70
                            by_cases c71 : a0_7 = a1_7
                            · rw [if_pos c71] at H
                              have c71b0 : (a0_7 == a1_7) = true := beq_iff_eq.mpr c71
                              have c71b1 : (a0_7 != a1_7) = false := bne_eq_false_iff_eq.mpr c71
                              clear c71
                              by_cases c72 : a0_8 = a1_8
                              · rw [if_pos c72] at H
                                have c72b0 : (a0_8 == a1_8) = true := beq_iff_eq.mpr c72
                                have c72b1 : (a0_8 != a1_8) = false := bne_eq_false_iff_eq.mpr c72
                                clear c72
                                obtain rfl := Option.some.inj H
                                have hnb73 := NB103_101.out
                                have hnc73 := NB101_103.out
                                have hnb74 := NB103_102.out
                                have hnc74 := NB102_103.out
                                have hnb75 := NB103_104.out
                                have hnc75 := NB104_103.out
                                have hcz76_0 : wr.cell? ⟨gb103, 0, none⟩ = some (.bool a0_10) := (blk_cell BK103.out 0).trans rfl
                                have hcz76_1 : wr.cell? ⟨gb103, 1, none⟩ = some (.bool a0_11) := (blk_cell BK103.out 1).trans rfl
                                have hcz76_2 : wr.cell? ⟨gb103, 2, none⟩ = some (.slice A0_12 l0_12.length c0_12) := (blk_cell BK103.out 2).trans rfl
                                have hcz76_3 : wr.cell? ⟨gb103, 3, none⟩ = some (.int .i64 a0_13) := (blk_cell BK103.out 3).trans rfl
                                have hfz76_0 := blk_frozen BK103.out 0
                                have hfz76_1 := blk_frozen BK103.out 1
                                have hfz76_2 := blk_frozen BK103.out 2
                                have hfz76_3 := blk_frozen BK103.out 3
                                have hnb77 := NB101_102.out
                                have hnc77 := NB102_101.out
                                have hnb78 := NB101_104.out
                                have hnc78 := NB104_101.out
                                have hcz79_0 : wr.cell? ⟨gb101, 0, none⟩ = some (.int .i64 a0_0) := (blk_cell BK101.out 0).trans rfl
                                have hcz79_1 : wr.cell? ⟨gb101, 1, none⟩ = some (.int .i64 a0_1) := (blk_cell BK101.out 1).trans rfl
                                have hcz79_2 : wr.cell? ⟨gb101, 2, none⟩ = some (.int .i64 a0_2) := (blk_cell BK101.out 2).trans rfl
                                have hcz79_3 : wr.cell? ⟨gb101, 3, none⟩ = some (.int .i64 a0_3) := (blk_cell BK101.out 3).trans rfl
                                have hcz79_4 : wr.cell? ⟨gb101, 4, none⟩ = some (.int .i64 a0_4) := (blk_cell BK101.out 4).trans rfl
                                have hcz79_5 : wr.cell? ⟨gb101, 5, none⟩ = some (.int .i64 a0_5) := (blk_cell BK101.out 5).trans rfl
                                have hcz79_6 : wr.cell? ⟨gb101, 6, none⟩ = some (.int .i64 a0_6) := (blk_cell BK101.out 6).trans rfl
                                have hcz79_7 : wr.cell? ⟨gb101, 7, none⟩ = some (.int .i64 a0_7) := (blk_cell BK101.out 7).trans rfl
                                have hcz79_8 : wr.cell? ⟨gb101, 8, none⟩ = some (.int .i64 a0_8) := (blk_cell BK101.out 8).trans rfl
                                have hcz79_9 : wr.cell? ⟨gb101, 9, none⟩ = some (.int .i64 a0_9) := (blk_cell BK101.out 9).trans rfl
                                have hcz79_10 : wr.cell? ⟨gb101, 10, none⟩ = some (.bool a0_10) := (blk_cell BK101.out 10).trans rfl
                                have hcz79_11 : wr.cell? ⟨gb101, 11, none⟩ = some (.bool a0_11) := (blk_cell BK101.out 11).trans rfl
                                have hcz79_12 : wr.cell? ⟨gb101, 12, none⟩ = some (.slice A0_12 l0_12.length c0_12) := (blk_cell BK101.out 12).trans rfl
                                have hcz79_13 : wr.cell? ⟨gb101, 13, none⟩ = some (.int .i64 a0_13) := (blk_cell BK101.out 13).trans rfl
                                have hfz79_0 := blk_frozen BK101.out 0
                                have hfz79_1 := blk_frozen BK101.out 1
                                have hfz79_2 := blk_frozen BK101.out 2
                                have hfz79_3 := blk_frozen BK101.out 3
                                have hfz79_4 := blk_frozen BK101.out 4
                                have hfz79_5 := blk_frozen BK101.out 5
                                have hfz79_6 := blk_frozen BK101.out 6
                                have hfz79_7 := blk_frozen BK101.out 7
                                have hfz79_8 := blk_frozen BK101.out 8
                                have hfz79_9 := blk_frozen BK101.out 9
                                have hfz79_10 := blk_frozen BK101.out 10
                                have hfz79_11 := blk_frozen BK101.out 11
                                have hfz79_12 := blk_frozen BK101.out 12
                                have hfz79_13 := blk_frozen BK101.out 13
                                have hnb80 := NB102_104.out
                                have hnc80 := NB104_102.out
                                have hcz81_0 : wr.cell? ⟨gb102, 0, none⟩ = some (.int .i64 a1_0) := (blk_cell BK102.out 0).trans rfl
                                have hcz81_1 : wr.cell? ⟨gb102, 1, none⟩ = some (.int .i64 a1_1) := (blk_cell BK102.out 1).trans rfl
                                have hcz81_2 : wr.cell? ⟨gb102, 2, none⟩ = some (.int .i64 a1_2) := (blk_cell BK102.out 2).trans rfl
                                have hcz81_3 : wr.cell? ⟨gb102, 3, none⟩ = some (.int .i64 a1_3) := (blk_cell BK102.out 3).trans rfl
                                have hcz81_4 : wr.cell? ⟨gb102, 4, none⟩ = some (.int .i64 a1_4) := (blk_cell BK102.out 4).trans rfl
                                have hcz81_5 : wr.cell? ⟨gb102, 5, none⟩ = some (.int .i64 a1_5) := (blk_cell BK102.out 5).trans rfl
                                have hcz81_6 : wr.cell? ⟨gb102, 6, none⟩ = some (.int .i64 a1_6) := (blk_cell BK102.out 6).trans rfl
                                have hcz81_7 : wr.cell? ⟨gb102, 7, none⟩ = some (.int .i64 a1_7) := (blk_cell BK102.out 7).trans rfl
                                have hcz81_8 : wr.cell? ⟨gb102, 8, none⟩ = some (.int .i64 a1_8) := (blk_cell BK102.out 8).trans rfl
                                have hcz81_9 : wr.cell? ⟨gb102, 9, none⟩ = some (.int .i64 a1_9) := (blk_cell BK102.out 9).trans rfl
                                have hcz81_10 : wr.cell? ⟨gb102, 10, none⟩ = some (.bool a1_10) := (blk_cell BK102.out 10).trans rfl
                                have hcz81_11 : wr.cell? ⟨gb102, 11, none⟩ = some (.bool a1_11) := (blk_cell BK102.out 11).trans rfl
                                have hcz81_12 : wr.cell? ⟨gb102, 12, none⟩ = some (.slice A1_12 l1_12.length c1_12) := (blk_cell BK102.out 12).trans rfl
                                have hcz81_13 : wr.cell? ⟨gb102, 13, none⟩ = some (.int .i64 a1_13) := (blk_cell BK102.out 13).trans rfl
                                have hfz81_0 := blk_frozen BK102.out 0
                                have hfz81_1 := blk_frozen BK102.out 1
                                have hfz81_2 := blk_frozen BK102.out 2
                                have hfz81_3 := blk_frozen BK102.out 3
                                have hfz81_4 := blk_frozen BK102.out 4
                                have hfz81_5 := blk_frozen BK102.out 5
                                have hfz81_6 := blk_frozen BK102.out 6
                                have hfz81_7 := blk_frozen BK102.out 7
                                have hfz81_8 := blk_frozen BK102.out 8
                                have hfz81_9 := blk_frozen BK102.out 9
                                have hfz81_10 := blk_frozen BK102.out 10
                                have hfz81_11 := blk_frozen BK102.out 11
                                have hfz81_12 := blk_frozen BK102.out 12
                                have hfz81_13 := blk_frozen BK102.out 13
                                go_wp2
                                go_ret
                                exact ⟨by first | rfl | (simp [errW_none, errW_some] <;> rfl) | (simp [*, errW_none, errW_some] <;> rfl) | (simp [wrap64]; done), by repeat (first | (with_reducible first | exact HB.out | apply below_alloc | apply pw_below_drewN | apply below_drew1 | refine below_set ?_ GE101.out | refine below_set ?_ GE102.out | refine below_set ?_ GE103.out | refine below_set ?_ GE104.out) | exact HB.out)⟩
                              · rw [if_neg c72] at H
                                have c72b0 : (a0_8 == a1_8) = false := beq_eq_false_iff_ne.mpr c72
                                have c72b1 : (a0_8 != a1_8) = true := bne_iff_ne.mpr c72
                                obtain rfl := Option.some.inj H
                                have hnb82 := NB103_101.out
                                have hnc82 := NB101_103.out
                                have hnb83 := NB103_102.out
                                have hnc83 := NB102_103.out
                                have hnb84 := NB103_104.out
                                have hnc84 := NB104_103.out
                                have hcz85_0 : wr.cell? ⟨gb103, 0, none⟩ = some (.bool a0_10) := (blk_cell BK103.out 0).trans rfl
                                have hcz85_1 : wr.cell? ⟨gb103, 1, none⟩ = some (.bool a0_11) := (blk_cell BK103.out 1).trans rfl
                                have hcz85_2 : wr.cell? ⟨gb103, 2, none⟩ = some (.slice A0_12 l0_12.length c0_12) := (blk_cell BK103.out 2).trans rfl
                                have hcz85_3 : wr.cell? ⟨gb103, 3, none⟩ = some (.int .i64 a0_13) := (blk_cell BK103.out 3).trans rfl
                                have hfz85_0 := blk_frozen BK103.out 0
                                have hfz85_1 := blk_frozen BK103.out 1
                                have hfz85_2 := blk_frozen BK103.out 2
                                have hfz85_3 := blk_frozen BK103.out 3
                                have hnb86 := NB101_102.out
                                have hnc86 := NB102_101.out
                                have hnb87 := NB101_104.out
                                have hnc87 := NB104_101.out
                                have hcz88_0 : wr.cell? ⟨gb101, 0, none⟩ = some (.int .i64 a0_0) := (blk_cell BK101.out 0).trans rfl
                                have hcz88_1 : wr.cell? ⟨gb101, 1, none⟩ = some (.int .i64 a0_1) := (blk_cell BK101.out 1).trans rfl
                                have hcz88_2 : wr.cell? ⟨gb101, 2, none⟩ = some (.int .i64 a0_2) := (blk_cell BK101.out 2).trans rfl
                                have hcz88_3 : wr.cell? ⟨gb101, 3, none⟩ = some (.int .i64 a0_3) := (blk_cell BK101.out 3).trans rfl
                                have hcz88_4 : wr.cell? ⟨gb101, 4, none⟩ = some (.int .i64 a0_4) := (blk_cell BK101.out 4).trans rfl
                                have hcz88_5 : wr.cell? ⟨gb101, 5, none⟩ = some (.int .i64 a0_5) := (blk_cell BK101.out 5).trans rfl
                                have hcz88_6 : wr.cell? ⟨gb101, 6, none⟩ = some (.int .i64 a0_6) := (blk_cell BK101.out 6).trans rfl
                                have hcz88_7 : wr.cell? ⟨gb101, 7, none⟩ = some (.int .i64 a0_7) := (blk_cell BK101.out 7).trans rfl
                                have hcz88_8 : wr.cell? ⟨gb101, 8, none⟩ = some (.int .i64 a0_8) := (blk_cell BK101.out 8).trans rfl
                                have hcz88_9 : wr.cell? ⟨gb101, 9, none⟩ = some (.int .i64 a0_9) := (blk_cell BK101.out 9).trans rfl
                                have hcz88_10 : wr.cell? ⟨gb101, 10, none⟩ = some (.bool a0_10) := (blk_cell BK101.out 10).trans rfl
                                have hcz88_11 : wr.cell? ⟨gb101, 11, none⟩ = some (.bool a0_11) := (blk_cell BK101.out 11).trans rfl
                                have hcz88_12 : wr.cell? ⟨gb101, 12, none⟩ = some (.slice A0_12 l0_12.length c0_12) := (blk_cell BK101.out 12).trans rfl
                                have hcz88_13 : wr.cell? ⟨gb101, 13, none⟩ = some (.int .i64 a0_13) := (blk_cell BK101.out 13).trans rfl
                                have hfz88_0 := blk_frozen BK101.out 0
                                have hfz88_1 := blk_frozen BK101.out 1
                                have hfz88_2 := blk_frozen BK101.out 2
                                have hfz88_3 := blk_frozen BK101.out 3
                                have hfz88_4 := blk_frozen BK101.out 4
                                have hfz88_5 := blk_frozen BK101.out 5
                                have hfz88_6 := blk_frozen BK101.out 6
                                have hfz88_7 := blk_frozen BK101.out 7
                                have hfz88_8 := blk_frozen BK101.out 8
                                have hfz88_9 := blk_frozen BK101.out 9
                                have hfz88_10 := blk_frozen BK101.out 10
                                have hfz88_11 := blk_frozen BK101.out 11
                                have hfz88_12 := blk_frozen BK101.out 12
                                have hfz88_13 := blk_frozen BK101.out 13
                                have hnb89 := NB102_104.out
                                have hnc89 := NB104_102.out
                                have hcz90_0 : wr.cell? ⟨gb102, 0, none⟩ = some (.int .i64 a1_0) := (blk_cell BK102.out 0).trans rfl
                                have hcz90_1 : wr.cell? ⟨gb102, 1, none⟩ = some (.int .i64 a1_1) := (blk_cell BK102.out 1).trans rfl
                                have hcz90_2 : wr.cell? ⟨gb102, 2, none⟩ = some (.int .i64 a1_2) := (blk_cell BK102.out 2).trans rfl
                                have hcz90_3 : wr.cell? ⟨gb102, 3, none⟩ = some (.int .i64 a1_3) := (blk_cell BK102.out 3).trans rfl
                                have hcz90_4 : wr.cell? ⟨gb102, 4, none⟩ = some (.int .i64 a1_4) := (blk_cell BK102.out 4).trans rfl
                                have hcz90_5 : wr.cell? ⟨gb102, 5, none⟩ = some (.int .i64 a1_5) := (blk_cell BK102.out 5).trans rfl
                                have hcz90_6 : wr.cell? ⟨gb102, 6, none⟩ = some (.int .i64 a1_6) := (blk_cell BK102.out 6).trans rfl
                                have hcz90_7 : wr.cell? ⟨gb102, 7, none⟩ = some (.int .i64 a1_7) := (blk_cell BK102.out 7).trans rfl
                                have hcz90_8 : wr.cell? ⟨gb102, 8, none⟩ = some (.int .i64 a1_8) := (blk_cell BK102.out 8).trans rfl
                                have hcz90_9 : wr.cell? ⟨gb102, 9, none⟩ = some (.int .i64 a1_9) := (blk_cell BK102.out 9).trans rfl
                                have hcz90_10 : wr.cell? ⟨gb102, 10, none⟩ = some (.bool a1_10) := (blk_cell BK102.out 10).trans rfl
                                have hcz90_11 : wr.cell? ⟨gb102, 11, none⟩ = some (.bool a1_11) := (blk_cell BK102.out 11).trans rfl
                                have hcz90_12 : wr.cell? ⟨gb102, 12, none⟩ = some (.slice A1_12 l1_12.length c1_12) := (blk_cell BK102.out 12).trans rfl
                                have hcz90_13 : wr.cell? ⟨gb102, 13, none⟩ = some (.int .i64 a1_13) := (blk_cell BK102.out 13).trans rfl
                                have hfz90_0 := blk_frozen BK102.out 0
                                have hfz90_1 := blk_frozen BK102.out 1
                                have hfz90_2 := blk_frozen BK102.out 2
                                have hfz90_3 := blk_frozen BK102.out 3
                                have hfz90_4 := blk_frozen BK102.out 4
                                have hfz90_5 := blk_frozen BK102.out 5
                                have hfz90_6 := blk_frozen BK102.out 6
                                have hfz90_7 := blk_frozen BK102.out 7
                                have hfz90_8 := blk_frozen BK102.out 8
                                have hfz90_9 := blk_frozen BK102.out 9
                                have hfz90_10 := blk_frozen BK102.out 10
                                have hfz90_11 := blk_frozen BK102.out 11
                                have hfz90_12 := blk_frozen BK102.out 12
                                have hfz90_13 := blk_frozen BK102.out 13
                                go_wp2
                                go_ret
                                exact ⟨by first | rfl | (simp [errW_none, errW_some] <;> rfl) | (simp [*, errW_none, errW_some] <;> rfl) | (simp [wrap64]; done), by repeat (first | (with_reducible first | exact HB.out | apply below_alloc | apply pw_below_drewN | apply below_drew1 | refine below_set ?_ GE101.out | refine below_set ?_ GE102.out | refine below_set ?_ GE103.out | refine below_set ?_ GE104.out) | exact HB.out)⟩
                            · rw [if_neg c71] at H
                              have c71b0 : (a0_7 == a1_7) = false := beq_eq_false_iff_ne.mpr c71
                              have c71b1 : (a0_7 != a1_7) = true := bne_iff_ne.mpr c71
                              obtain rfl := Option.some.inj H
                              have hnb91 := NB103_101.out
                              have hnc91 := NB101_103.out
                              have hnb92 := NB103_102.out
                              have hnc92 := NB102_103.out
                              have hnb93 := NB103_104.out
                              have hnc93 := NB104_103.out
                              have hcz94_0 : wr.cell? ⟨gb103, 0, none⟩ = some (.bool a0_10) := (blk_cell BK103.out 0).trans rfl
                              have hcz94_1 : wr.cell? ⟨gb103, 1, none⟩ = some (.bool a0_11) := (blk_cell BK103.out 1).trans rfl
                              have hcz94_2 : wr.cell? ⟨gb103, 2, none⟩ = some (.slice A0_12 l0_12.length c0_12) := (blk_cell BK103.out 2).trans rfl
                              have hcz94_3 : wr.cell? ⟨gb103, 3, none⟩ = some (.int .i64 a0_13) := (blk_cell BK103.out 3).trans rfl
                              have hfz94_0 := blk_frozen BK103.out 0
                              have hfz94_1 := blk_frozen BK103.out 1
                              have hfz94_2 := blk_frozen BK103.out 2
                              have hfz94_3 := blk_frozen BK103.out 3
                              have hnb95 := NB101_102.out
                              have hnc95 := NB102_101.out
                              have hnb96 := NB101_104.out
                              have hnc96 := NB104_101.out
                              have hcz97_0 : wr.cell? ⟨gb101, 0, none⟩ = some (.int .i64 a0_0) := (blk_cell BK101.out 0).trans rfl
                              have hcz97_1 : wr.cell? ⟨gb101, 1, none⟩ = some (.int .i64 a0_1) := (blk_cell BK101.out 1).trans rfl
                              have hcz97_2 : wr.cell? ⟨gb101, 2, none⟩ = some (.int .i64 a0_2) := (blk_cell BK101.out 2).trans rfl
                              have hcz97_3 : wr.cell? ⟨gb101, 3, none⟩ = some (.int .i64 a0_3) := (blk_cell BK101.out 3).trans rfl
                              have hcz97_4 : wr.cell? ⟨gb101, 4, none⟩ = some (.int .i64 a0_4) := (blk_cell BK101.out 4).trans rfl
                              have hcz97_5 : wr.cell? ⟨gb101, 5, none⟩ = some (.int .i64 a0_5) := (blk_cell BK101.out 5).trans rfl
                              have hcz97_6 : wr.cell? ⟨gb101, 6, none⟩ = some (.int .i64 a0_6) := (blk_cell BK101.out 6).trans rfl
                              have hcz97_7 : wr.cell? ⟨gb101, 7, none⟩ = some (.int .i64 a0_7) := (blk_cell BK101.out 7).trans rfl
                              have hcz97_8 : wr.cell? ⟨gb101, 8, none⟩ = some (.int .i64 a0_8) := (blk_cell BK101.out 8).trans rfl
                              have hcz97_9 : wr.cell? ⟨gb101, 9, none⟩ = some (.int .i64 a0_9) := (blk_cell BK101.out 9).trans rfl
                              have hcz97_10 : wr.cell? ⟨gb101, 10, none⟩ = some (.bool a0_10) := (blk_cell BK101.out 10).trans rfl
                              have hcz97_11 : wr.cell? ⟨gb101, 11, none⟩ = some (.bool a0_11) := (blk_cell BK101.out 11).trans rfl
                              have hcz97_12 : wr.cell? ⟨gb101, 12, none⟩ = some (.slice A0_12 l0_12.length c0_12) := (blk_cell BK101.out 12).trans rfl
                              have hcz97_13 : wr.cell? ⟨gb101, 13, none⟩ = some (.int .i64 a0_13) := (blk_cell BK101.out 13).trans rfl
                              have hfz97_0 := blk_frozen BK101.out 0
                              have hfz97_1 := blk_frozen BK101.out 1
                              have hfz97_2 := blk_frozen BK101.out 2
                              have hfz97_3 := blk_frozen BK101.out 3
                              have hfz97_4 := blk_frozen BK101.out 4
                              have hfz97_5 := blk_frozen BK101.out 5
                              have hfz97_6 := blk_frozen BK101.out 6
                              have hfz97_7 := blk_frozen BK101.out 7
                              have hfz97_8 := blk_frozen BK101.out 8
                              have hfz97_9 := blk_frozen BK101.out 9
                              have hfz97_10 := blk_frozen BK101.out 10
                              have hfz97_11 := blk_frozen BK101.out 11
                              have hfz97_12 := blk_frozen BK101.out 12
                              have hfz97_13 := blk_frozen BK101.out 13
                              have hnb98 := NB102_104.out
                              have hnc98 := NB104_102.out
                              have hcz99_0 : wr.cell? ⟨gb102, 0, none⟩ = some (.int .i64 a1_0) := (blk_cell BK102.out 0).trans rfl
                              have hcz99_1 : wr.cell? ⟨gb102, 1, none⟩ = some (.int .i64 a1_1) := (blk_cell BK102.out 1).trans rfl
                              have hcz99_2 : wr.cell? ⟨gb102, 2, none⟩ = some (.int .i64 a1_2) := (blk_cell BK102.out 2).trans rfl
                              have hcz99_3 : wr.cell? ⟨gb102, 3, none⟩ = some (.int .i64 a1_3) := (blk_cell BK102.out 3).trans rfl
                              have hcz99_4 : wr.cell? ⟨gb102, 4, none⟩ = some (.int .i64 a1_4) := (blk_cell BK102.out 4).trans rfl
                              have hcz99_5 : wr.cell? ⟨gb102, 5, none⟩ = some (.int .i64 a1_5) := (blk_cell BK102.out 5).trans rfl
                              have hcz99_6 : wr.cell? ⟨gb102, 6, none⟩ = some (.int .i64 a1_6) := (blk_cell BK102.out 6).trans rfl
                              have hcz99_7 : wr.cell? ⟨gb102, 7, none⟩ = some (.int .i64 a1_7) := (blk_cell BK102.out 7).trans rfl
                              have hcz99_8 : wr.cell? ⟨gb102, 8, none⟩ = some (.int .i64 a1_8) := (blk_cell BK102.out 8).trans rfl
                              have hcz99_9 : wr.cell? ⟨gb102, 9, none⟩ = some (.int .i64 a1_9) := (blk_cell BK102.out 9).trans rfl
                              have hcz99_10 : wr.cell? ⟨gb102, 10, none⟩ = some (.bool a1_10) := (blk_cell BK102.out 10).trans rfl
                              have hcz99_11 : wr.cell? ⟨gb102, 11, none⟩ = some (.bool a1_11) := (blk_cell BK102.out 11).trans rfl
                              have hcz99_12 : wr.cell? ⟨gb102, 12, none⟩ = some (.slice A1_12 l1_12.length c1_12) := (blk_cell BK102.out 12).trans rfl
                              have hcz99_13 : wr.cell? ⟨gb102, 13, none⟩ = some (.int .i64 a1_13) := (blk_cell BK102.out 13).trans rfl
                              have hfz99_0 := blk_frozen BK102.out 0
                              have hfz99_1 := blk_frozen BK102.out 1
                              have hfz99_2 := blk_frozen BK102.out 2
                              have hfz99_3 := blk_frozen BK102.out 3
                              have hfz99_4 := blk_frozen BK102.out 4
                              have hfz99_5 := blk_frozen BK102.out 5
                              have hfz99_6 := blk_frozen BK102.out 6
                              have hfz99_7 := blk_frozen BK102.out 7
                              have hfz99_8 := blk_frozen BK102.out 8
                              have hfz99_9 := blk_frozen BK102.out 9
                              have hfz99_10 := blk_frozen BK102.out 10
                              have hfz99_11 := blk_frozen BK102.out 11
                              have hfz99_12 := blk_frozen BK102.out 12
                              have hfz99_13 := blk_frozen BK102.out 13
                              go_wp2
                              go_ret
                              exact ⟨by first | rfl | (simp [errW_none, errW_some] <;> rfl) | (simp [*, errW_none, errW_some] <;> rfl) | (simp [wrap64]; done), by repeat (first | (with_reducible first | exact HB.out | apply below_alloc | apply pw_below_drewN | apply below_drew1 | refine below_set ?_ GE101.out | refine below_set ?_ GE102.out | refine below_set ?_ GE103.out | refine below_set ?_ GE104.out) | exact HB.out)⟩
                          · rw [if_neg c70] at H
                            have c70b0 : (a0_6 == a1_6) = false := beq_eq_false_iff_ne.mpr c70
                            have c70b1 : (a0_6 != a1_6) = true := bne_iff_ne.mpr c70
                            obtain rfl := Option.some.inj H
                            have hnb100 := NB103_101.out
                            have hnc100 := NB101_103.out
                            have hnb101 := NB103_102.out
                            have hnc101 := NB102_103.out
                            have hnb102 := NB103_104.out
                            have hnc102 := NB104_103.out
                            have hcz103_0 : wr.cell? ⟨gb103, 0, none⟩ = some (.bool a0_10) := (blk_cell BK103.out 0).trans rfl
                            have hcz103_1 : wr.cell? ⟨gb103, 1, none⟩ = some (.bool a0_11) := (blk_cell BK103.out 1).trans rfl
                            have hcz103_2 : wr.cell? ⟨gb103, 2, none⟩ = some (.slice A0_12 l0_12.length c0_12) := (blk_cell BK103.out 2).trans rfl
                            have hcz103_3 : wr.cell? ⟨gb103, 3, none⟩ = some (.int .i64 a0_13) := (blk_cell BK103.out 3).trans rfl
                            have hfz103_0 := blk_frozen BK103.out 0
                            have hfz103_1 := blk_frozen BK103.out 1
                            have hfz103_2 := blk_frozen BK103.out 2
                            have hfz103_3 := blk_frozen BK103.out 3
                            have hnb104 := NB101_102.out
                            have hnc104 := NB102_101.out
                            have hnb105 := NB101_104.out
                            have hnc105 := NB104_101.out
                            have hcz106_0 : wr.cell? ⟨gb101, 0, none⟩ = some (.int .i64 a0_0) := (blk_cell BK101.out 0).trans rfl
                            have hcz106_1 : wr.cell? ⟨gb101, 1, none⟩ = some (.int .i64 a0_1) := (blk_cell BK101.out 1).trans rfl
                            have hcz106_2 : wr.cell? ⟨gb101, 2, none⟩ = some (.int .i64 a0_2) := (blk_cell BK101.out 2).trans rfl
                            have hcz106_3 : wr.cell? ⟨gb101, 3, none⟩ = some (.int .i64 a0_3) := (blk_cell BK101.out 3).trans rfl
                            have hcz106_4 : wr.cell? ⟨gb101, 4, none⟩ = some (.int .i64 a0_4) := (blk_cell BK101.out 4).trans rfl
                            have hcz106_5 : wr.cell? ⟨gb101, 5, none⟩ = some (.int .i64 a0_5) := (blk_cell BK101.out 5).trans rfl
                            have hcz106_6 : wr.cell? ⟨gb101, 6, none⟩ = some (.int .i64 a0_6) := (blk_cell BK101.out 6).trans rfl
                            have hcz106_7 : wr.cell? ⟨gb101, 7, none⟩ = some (.int .i64 a0_7) := (blk_cell BK101.out 7).trans rfl
                            have hcz106_8 : wr.cell? ⟨gb101, 8, none⟩ = some (.int .i64 a0_8) := (blk_cell BK101.out 8).trans rfl
                            have hcz106_9 : wr.cell? ⟨gb101, 9, none⟩ = some (.int .i64 a0_9) := (blk_cell BK101.out 9).trans rfl
                            have hcz106_10 : wr.cell? ⟨gb101, 10, none⟩ = some (.bool a0_10) := (blk_cell BK101.out 10).trans rfl
                            have hcz106_11 : wr.cell? ⟨gb101, 11, none⟩ = some (.bool a0_11) := (blk_cell BK101.out 11).trans rfl
                            have hcz106_12 : wr.cell? ⟨gb101, 12, none⟩ = some (.slice A0_12 l0_12.length c0_12) := (blk_cell BK101.out 12).trans rfl
                            have hcz106_13 : wr.cell? ⟨gb101, 13, none⟩ = some (.int .i64 a0_13) := (blk_cell BK101.out 13).trans rfl
                            have hfz106_0 := blk_frozen BK101.out 0
                            have hfz106_1 := blk_frozen BK101.out 1
                            have hfz106_2 := blk_frozen BK101.out 2
                            have hfz106_3 := blk_frozen BK101.out 3
                            have hfz106_4 := blk_frozen BK101.out 4
                            have hfz106_5 := blk_frozen BK101.out 5
                            have hfz106_6 := blk_frozen BK101.out 6
                            have hfz106_7 := blk_frozen BK101.out 7
                            have hfz106_8 := blk_frozen BK101.out 8
                            have hfz106_9 := blk_frozen BK101.out 9
                            have hfz106_10 := blk_frozen BK101.out 10
                            have hfz106_11 := blk_frozen BK101.out 11
                            have hfz106_12 := blk_frozen BK101.out 12
                            have hfz106_13 := blk_frozen BK101.out 13
                            have hnb107 := NB102_104.out
                            have hnc107 := NB104_102.out
                            have hcz108_0 : wr.cell? ⟨gb102, 0, none⟩ = some (.int .i64 a1_0) := (blk_cell BK102.out 0).trans rfl
                            have hcz108_1 : wr.cell? ⟨gb102, 1, none⟩ = some (.int .i64 a1_1) := (blk_cell BK102.out 1).trans rfl
                            have hcz108_2 : wr.cell? ⟨gb102, 2, none⟩ = some (.int .i64 a1_2) := (blk_cell BK102.out 2).trans rfl
                            have hcz108_3 : wr.cell? ⟨gb102, 3, none⟩ = some (.int .i64 a1_3) := (blk_cell BK102.out 3).trans rfl
                            have hcz108_4 : wr.cell? ⟨gb102, 4, none⟩ = some (.int .i64 a1_4) := (blk_cell BK102.out 4).trans rfl
                            have hcz108_5 : wr.cell? ⟨gb102, 5, none⟩ = some (.int .i64 a1_5) := (blk_cell BK102.out 5).trans rfl
                            have hcz108_6 : wr.cell? ⟨gb102, 6, none⟩ = some (.int .i64 a1_6) := (blk_cell BK102.out 6).trans rfl
                            have hcz108_7 : wr.cell? ⟨gb102, 7, none⟩ = some (.int .i64 a1_7) := (blk_cell BK102.out 7).trans rfl
                            have hcz108_8 : wr.cell? ⟨gb102, 8, none⟩ = some (.int .i64 a1_8) := (blk_cell BK102.out 8).trans rfl
                            have hcz108_9 : wr.cell? ⟨gb102, 9, none⟩ = some (.int .i64 a1_9) := (blk_cell BK102.out 9).trans rfl
                            have hcz108_10 : wr.cell? ⟨gb102, 10, none⟩ = some (.bool a1_10) := (blk_cell BK102.out 10).trans rfl
                            have hcz108_11 : wr.cell? ⟨gb102, 11, none⟩ = some (.bool a1_11) := (blk_cell BK102.out 11).trans rfl
                            have hcz108_12 : wr.cell? ⟨gb102, 12, none⟩ = some (.slice A1_12 l1_12.length c1_12) := (blk_cell BK102.out 12).trans rfl
                            have hcz108_13 : wr.cell? ⟨gb102, 13, none⟩ = some (.int .i64 a1_13) := (blk_cell BK102.out 13).trans rfl
                            have hfz108_0 := blk_frozen BK102.out 0
                            have hfz108_1 := blk_frozen BK102.out 1
                            have hfz108_2 := blk_frozen BK102.out 2
                            have hfz108_3 := blk_frozen BK102.out 3
                            have hfz108_4 := blk_frozen BK102.out 4
                            have hfz108_5 := blk_frozen BK102.out 5
                            have hfz108_6 := blk_frozen BK102.out 6
                            have hfz108_7 := blk_frozen BK102.out 7
                            have hfz108_8 := blk_frozen BK102.out 8
                            have hfz108_9 := blk_frozen BK102.out 9
                            have hfz108_10 := blk_frozen BK102.out 10
                            have hfz108_11 := blk_frozen BK102.out 11
                            have hfz108_12 := blk_frozen BK102.out 12
                            have hfz108_13 := blk_frozen BK102.out 13
                            go_wp2
                            go_ret
                            exact ⟨by first | rfl | (simp [errW_none, errW_some] <;> rfl) | (simp [*, errW_none, errW_some] <;> rfl) | (simp [wrap64]; done), by repeat (first | (with_reducible first | exact HB.out | apply below_alloc | apply pw_below_drewN | apply below_drew1 | refine below_set ?_ GE101.out | refine below_set ?_ GE102.out | refine below_set ?_ GE103.out | refine below_set ?_ GE104.out) | exact HB.out)⟩
                        · rw [if_neg c69] at H
                          have c69b0 : (a0_5 == a1_5) = false := beq_eq_false_iff_ne.mpr c69
                          have c69b1 : (a0_5 != a1_5) = true := bne_iff_ne.mpr c69
                          obtain rfl := Option.some.inj H
                          have hnb109 := NB103_101.out
                          have hnc109 := NB101_103.out
                          have hnb110 := NB103_102.out
                          have hnc110 := NB102_103.out
                          have hnb111 := NB103_104.out
                          have hnc111 := NB104_103.out
                          have hcz112_0 : wr.cell? ⟨gb103, 0, none⟩ = some (.bool a0_10) := (blk_cell BK103.out 0).trans rfl
                          have hcz112_1 : wr.cell? ⟨gb103, 1, none⟩ = some (.bool a0_11) := (blk_cell BK103.out 1).trans rfl
                          have hcz112_2 : wr.cell? ⟨gb103, 2, none⟩ = some (.slice A0_12 l0_12.length c0_12) := (blk_cell BK103.out 2).trans rfl
                          have hcz112_3 : wr.cell? ⟨gb103, 3, none⟩ = some (.int .i64 a0_13) := (blk_cell BK103.out 3).trans rfl
                          have hfz112_0 := blk_frozen BK103.out 0
                          have hfz112_1 := blk_frozen BK103.out 1
                          have hfz112_2 := blk_frozen BK103.out 2
                          have hfz112_3 := blk_frozen BK103.out 3
                          have hnb113 := NB101_102.out
                          have hnc113 := NB102_101.out
                          have hnb114 := NB101_104.out
                          have hnc114 := NB104_101.out
                          have hcz115_0 : wr.cell? ⟨gb101, 0, none⟩ = some (.int .i64 a0_0) := (blk_cell BK101.out 0).trans rfl
                          have hcz115_1 : wr.cell? ⟨gb101, 1, none⟩ = some (.int .i64 a0_1) := (blk_cell BK101.out 1).trans rfl
                          have hcz115_2 : wr.cell? ⟨gb101, 2, none⟩ = some (.int .i64 a0_2) := (blk_cell BK101.out 2).trans rfl
                          have hcz115_3 : wr.cell? ⟨gb101, 3, none⟩ = some (.int .i64 a0_3) := (blk_cell BK101.out 3).trans rfl
                          have hcz115_4 : wr.cell? ⟨gb101, 4, none⟩ = some (.int .i64 a0_4) := (blk_cell BK101.out 4).trans rfl
                          have hcz115_5 : wr.cell? ⟨gb101, 5, none⟩ = some (.int .i64 a0_5) := (blk_cell BK101.out 5).trans rfl
                          have hcz115_6 : wr.cell? ⟨gb101, 6, none⟩ = some (.int .i64 a0_6) := (blk_cell BK101.out 6).trans rfl
                          have hcz115_7 : wr.cell? ⟨gb101, 7, none⟩ = some (.int .i64 a0_7) := (blk_cell BK101.out 7).trans rfl
                          have hcz115_8 : wr.cell? ⟨gb101, 8, none⟩ = some (.int .i64 a0_8) := (blk_cell BK101.out 8).trans rfl
                          have hcz115_9 : wr.cell? ⟨gb101, 9, none⟩ = some (.int .i64 a0_9) := (blk_cell BK101.out 9).trans rfl
                          have hcz115_10 : wr.cell? ⟨gb101, 10, none⟩ = some (.bool a0_10) := (blk_cell BK101.out 10).trans rfl
                          have hcz115_11 : wr.cell? ⟨gb101, 11, none⟩ = some (.bool a0_11) := (blk_cell BK101.out 11).trans rfl
                          have hcz115_12 : wr.cell? ⟨gb101, 12, none⟩ = some (.slice A0_12 l0_12.length c0_12) := (blk_cell BK101.out 12).trans rfl
                          have hcz115_13 : wr.cell? ⟨gb101, 13, none⟩ = some (.int .i64 a0_13) := (blk_cell BK101.out 13).trans rfl
                          have hfz115_0 := blk_frozen BK101.out 0
                          have hfz115_1 := blk_frozen BK101.out 1
                          have hfz115_2 := blk_frozen BK101.out 2
                          have hfz115_3 := blk_frozen BK101.out 3
                          have hfz115_4 := blk_frozen BK101.out 4
                          have hfz115_5 := blk_frozen BK101.out 5
                          have hfz115_6 := blk_frozen BK101.out 6
                          have hfz115_7 := blk_frozen BK101.out 7
                          have hfz115_8 := blk_frozen BK101.out 8
                          have hfz115_9 := blk_frozen BK101.out 9
                          have hfz115_10 := blk_frozen BK101.out 10
                          have hfz115_11 := blk_frozen BK101.out 11
                          have hfz115_12 := blk_frozen BK101.out 12
                          have hfz115_13 := blk_frozen BK101.out 13
                          have hnb116 := NB102_104.out
                          have hnc116 := NB104_102.out
                          have hcz117_0 : wr.cell? ⟨gb102, 0, none⟩ = some (.int .i64 a1_0) := (blk_cell BK102.out 0).trans rfl
                          have hcz117_1 : wr.cell? ⟨gb102, 1, none⟩ = some (.int .i64 a1_1) := (blk_cell BK102.out 1).trans rfl
                          have hcz117_2 : wr.cell? ⟨gb102, 2, none⟩ = some (.int .i64 a1_2) := (blk_cell BK102.out 2).trans rfl
                          have hcz117_3 : wr.cell? ⟨gb102, 3, none⟩ = some (.int .i64 a1_3) := (blk_cell BK102.out 3).trans rfl
                          have hcz117_4 : wr.cell? ⟨gb102, 4, none⟩ = some (.int .i64 a1_4) := (blk_cell BK102.out 4).trans rfl
                          have hcz117_5 : wr.cell? ⟨gb102, 5, none⟩ = some (.int .i64 a1_5) := (blk_cell BK102.out 5).trans rfl
                          have hcz117_6 : wr.cell? ⟨gb102, 6, none⟩ = some (.int .i64 a1_6) := (blk_cell BK102.out 6).trans rfl
                          have hcz117_7 : wr.cell? ⟨gb102, 7, none⟩ = some (.int .i64 a1_7) := (blk_cell BK102.out 7).trans rfl
                          have hcz117_8 : wr.cell? ⟨gb102, 8, none⟩ = some (.int .i64 a1_8) := (blk_cell BK102.out 8).trans rfl
                          have hcz117_9 : wr.cell? ⟨gb102, 9, none⟩ = some (.int .i64 a1_9) := (blk_cell BK102.out 9).trans rfl
                          have hcz117_10 : wr.cell? ⟨gb102, 10, none⟩ = some (.bool a1_10) := (blk_cell BK102.out 10).trans rfl
                          have hcz117_11 : wr.cell? ⟨gb102, 11, none⟩ = some (.bool a1_11) := (blk_cell BK102.out 11).trans rfl
                          have hcz117_12 : wr.cell? ⟨gb102, 12, none⟩ = some (.slice A1_12 l1_12.length c1_12) := (blk_cell BK102.out 12).trans rfl
                          have hcz117_13 : wr.cell? ⟨gb102, 13, none⟩ = some (.int .i64 a1_13) := (blk_cell BK102.out 13).trans rfl
                          have hfz117_0 := blk_frozen BK102.out 0
                          have hfz117_1 := blk_frozen BK102.out 1
                          have hfz117_2 := blk_frozen BK102.out 2
                          have hfz117_3 := blk_frozen BK102.out 3
                          have hfz117_4 := blk_frozen BK102.out 4
                          have hfz117_5 := blk_frozen BK102.out 5
                          have hfz117_6 := blk_frozen BK102.out 6
                          have hfz117_7 := blk_frozen BK102.out 7
                          have hfz117_8 := blk_frozen BK102.out 8
                          have hfz117_9 := blk_frozen BK102.out 9
                          have hfz117_10 := blk_frozen BK102.out 10
                          have hfz117_11 := blk_frozen BK102.out 11
                          have hfz117_12 := blk_frozen BK102.out 12
                          have hfz117_13 := blk_frozen BK102.out 13
                          go_wp2
                          go_ret
                          exact ⟨by first | rfl | (simp [errW_none, errW_some] <;> rfl) | (simp [*, errW_none, errW_some] <;> rfl) | (simp [wrap64]; done), by repeat (first | (with_reducible first | exact HB.out | apply below_alloc | apply pw_below_drewN | apply below_drew1 | refine below_set ?_ GE101.out | refine below_set ?_ GE102.out | refine below_set ?_ GE103.out | refine below_set ?_ GE104.out) | exact HB.out)⟩
                      · rw [if_neg c68] at H
                        have c68b0 : (a0_4 == a1_4) = false := beq_eq_false_iff_ne.mpr c68
                        have c68b1 : (a0_4 != a1_4) = true := bne_iff_ne.mpr c68
                        obtain rfl := Option.some.inj H
                        have hnb118 := NB103_101.out
                        have hnc118 := NB101_103.out
                        have hnb119 := NB103_102.out
                        have hnc119 := NB102_103.out
                        have hnb120 := NB103_104.out
                        have hnc120 := NB104_103.out
                        have hcz121_0 : wr.cell? ⟨gb103, 0, none⟩ = some (.bool a0_10) := (blk_cell BK103.out 0).trans rfl
                        have hcz121_1 : wr.cell? ⟨gb103, 1, none⟩ = some (.bool a0_11) := (blk_cell BK103.out 1).trans rfl
                        have hcz121_2 : wr.cell? ⟨gb103, 2, none⟩ = some (.slice A0_12 l0_12.length c0_12) := (blk_cell BK103.out 2).trans rfl
                        have hcz121_3 : wr.cell? ⟨gb103, 3, none⟩ = some (.int .i64 a0_13) := (blk_cell BK103.out 3).trans rfl
                        have hfz121_0 := blk_frozen BK103.out 0
                        have hfz121_1 := blk_frozen BK103.out 1
                        have hfz121_2 := blk_frozen BK103.out 2
                        have hfz121_3 := blk_frozen BK103.out 3
                        have hnb122 := NB101_102.out
                        have hnc122 := NB102_101.out
                        have hnb123 := NB101_104.out
                        have hnc123 := NB104_101.out
                        have hcz124_0 : wr.cell? ⟨gb101, 0, none⟩ = some (.int .i64 a0_0) := (blk_cell BK101.out 0).trans rfl
                        have hcz124_1 : wr.cell? ⟨gb101, 1, none⟩ = some (.int .i64 a0_1) := (blk_cell BK101.out 1).trans rfl
                        have hcz124_2 : wr.cell? ⟨gb101, 2, none⟩ = some (.int .i64 a0_2) := (blk_cell BK101.out 2).trans rfl
                        have hcz124_3 : wr.cell? ⟨gb101, 3, none⟩ = some (.int .i64 a0_3) := (blk_cell BK101.out 3).trans rfl
                        have hcz124_4 : wr.cell? ⟨gb101, 4, none⟩ = some (.int .i64 a0_4) := (blk_cell BK101.out 4).trans rfl
                        have hcz124_5 : wr.cell? ⟨gb101, 5, none⟩ = some (.int .i64 a0_5) := (blk_cell BK101.out 5).trans rfl
                        have hcz124_6 : wr.cell? ⟨gb101, 6, none⟩ = some (.int .i64 a0_6) := (blk_cell BK101.out 6).trans rfl
                        have hcz124_7 : wr.cell? ⟨gb101, 7, none⟩ = some (.int .i64 a0_7) := (blk_cell BK101.out 7).trans rfl
                        have hcz124_8 : wr.cell? ⟨gb101, 8, none⟩ = some (.int .i64 a0_8) := (blk_cell BK101.out 8).trans rfl
                        have hcz124_9 : wr.cell? ⟨gb101, 9, none⟩ = some (.int .i64 a0_9) := (blk_cell BK101.out 9).trans rfl
                        have hcz124_10 : wr.cell? ⟨gb101, 10, none⟩ = some (.bool a0_10) := (blk_cell BK101.out 10).trans rfl
                        have hcz124_11 : wr.cell? ⟨gb101, 11, none⟩ = some (.bool a0_11) := (blk_cell BK101.out 11).trans rfl
                        have hcz124_12 : wr.cell? ⟨gb101, 12, none⟩ = some (.slice A0_12 l0_12.length c0_12) := (blk_cell BK101.out 12).trans rfl
                        have hcz124_13 : wr.cell? ⟨gb101, 13, none⟩ = some (.int .i64 a0_13) := (blk_cell BK101.out 13).trans rfl
                        have hfz124_0 := blk_frozen BK101.out 0
                        have hfz124_1 := blk_frozen BK101.out 1
                        have hfz124_2 := blk_frozen BK101.out 2
                        have hfz124_3 := blk_frozen BK101.out 3
                        have hfz124_4 := blk_frozen BK101.out 4
                        have hfz124_5 := blk_frozen BK101.out 5
                        have hfz124_6 := blk_frozen BK101.out 6
                        have hfz124_7 := blk_frozen BK101.out 7
                        have hfz124_8 := blk_frozen BK101.out 8
                        have hfz124_9 := blk_frozen BK101.out 9
                        have hfz124_10 := blk_frozen BK101.out 10
                        have hfz124_11 := blk_frozen BK101.out 11
                        have hfz124_12 := blk_frozen BK101.out 12
                        have hfz124_13 := blk_frozen BK101.out 13
                        have hnb125 := NB102_104.out
                        have hnc125 := NB104_102.out
                        have hcz126_0 : wr.cell? ⟨gb102, 0, none⟩ = some (.int .i64 a1_0) := (blk_cell BK102.out 0).trans rfl
                        have hcz126_1 : wr.cell? ⟨gb102, 1, none⟩ = some (.int .i64 a1_1) := (blk_cell BK102.out 1).trans rfl
                        have hcz126_2 : wr.cell? ⟨gb102, 2, none⟩ = some (.int .i64 a1_2) := (blk_cell BK102.out 2).trans rfl
                        have hcz126_3 : wr.cell? ⟨gb102, 3, none⟩ = some (.int .i64 a1_3) := (blk_cell BK102.out 3).trans rfl
                        have hcz126_4 : wr.cell? ⟨gb102, 4, none⟩ = some (.int .i64 a1_4) := (blk_cell BK102.out 4).trans rfl
                        have hcz126_5 : wr.cell? ⟨gb102, 5, none⟩ = some (.int .i64 a1_5) := (blk_cell BK102.out 5).trans rfl
                        have hcz126_6 : wr.cell? ⟨gb102, 6, none⟩ = some (.int .i64 a1_6) := (blk_cell BK102.out 6).trans rfl
                        have hcz126_7 : wr.cell? ⟨gb102, 7, none⟩ = some (.int .i64 a1_7) := (blk_cell BK102.out 7).trans rfl
                        have hcz126_8 : wr.cell? ⟨gb102, 8, none⟩ = some (.int .i64 a1_8) := (blk_cell BK102.out 8).trans rfl
                        have hcz126_9 : wr.cell? ⟨gb102, 9, none⟩ = some (.int .i64 a1_9) := (blk_cell BK102.out 9).trans rfl
                        have hcz126_10 : wr.cell? ⟨gb102, 10, none⟩ = some (.bool a1_10) := (blk_cell BK102.out 10).trans rfl
                        have hcz126_11 : wr.cell? ⟨gb102, 11, none⟩ = some (.bool a1_11) := (blk_cell BK102.out 11).trans rfl
                        have hcz126_12 : wr.cell? ⟨gb102, 12, none⟩ = some (.slice A1_12 l1_12.length c1_12) := (blk_cell BK102.out 12).trans rfl
                        have hcz126_13 : wr.cell? ⟨gb102, 13, none⟩ = some (.int .i64 a1_13) := (blk_cell BK102.out 13).trans rfl
                        have hfz126_0 := blk_frozen BK102.out 0
                        have hfz126_1 := blk_frozen BK102.out 1
                        have hfz126_2 := blk_frozen BK102.out 2
                        have hfz126_3 := blk_frozen BK102.out 3
                        have hfz126_4 := blk_frozen BK102.out 4
                        have hfz126_5 := blk_frozen BK102.out 5
                        have hfz126_6 := blk_frozen BK102.out 6
                        have hfz126_7 := blk_frozen BK102.out 7
                        have hfz126_8 := blk_frozen BK102.out 8
                        have hfz126_9 := blk_frozen BK102.out 9
                        have hfz126_10 := blk_frozen BK102.out 10
                        have hfz126_11 := blk_frozen BK102.out 11
                        have hfz126_12 := blk_frozen BK102.out 12
                        have hfz126_13 := blk_frozen BK102.out 13
                        go_wp2
                        go_ret
                        exact ⟨by first | rfl | (simp [errW_none, errW_some] <;> rfl) | (simp [*, errW_none, errW_some] <;> rfl) | (simp [wrap64]; done), by repeat (first | (with_reducible first | exact HB.out | apply below_alloc | apply pw_below_drewN | apply below_drew1 | refine below_set ?_ GE101.out | refine below_set ?_ GE102.out | refine below_set ?_ GE103.out | refine below_set ?_ GE104.out) | exact HB.out)⟩
                    · rw [if_neg c67] at H
                      have c67b0 : (a0_3 == a1_3) = false := beq_eq_false_iff_ne.mpr c67
                      have c67b1 : (a0_3 != a1_3) = true := bne_iff_ne.mpr c67
                      obtain rfl := Option.some.inj H
                      have hnb127 := NB103_101.out
                      have hnc127 := NB101_103.out
                      have hnb128 := NB103_102.out
                      have hnc128 := NB102_103.out
                      have hnb129 := NB103_104.out
                      have hnc129 := NB104_103.out
                      have hcz130_0 : wr.cell? ⟨gb103, 0, none⟩ = some (.bool a0_10) := (blk_cell BK103.out 0).trans rfl
                      have hcz130_1 : wr.cell? ⟨gb103, 1, none⟩ = some (.bool a0_11) := (blk_cell BK103.out 1).trans rfl
                      have hcz130_2 : wr.cell? ⟨gb103, 2, none⟩ = some (.slice A0_12 l0_12.length c0_12) := (blk_cell BK103.out 2).trans rfl
                      have hcz130_3 : wr.cell? ⟨gb103, 3, none⟩ = some (.int .i64 a0_13) := (blk_cell BK103.out 3).trans rfl
                      have hfz130_0 := blk_frozen BK103.out 0
                      have hfz130_1 := blk_frozen BK103.out 1
                      have hfz130_2 := blk_frozen BK103.out 2
                      have hfz130_3 := blk_frozen BK103.out 3
                      have hnb131 := NB101_102.out
                      have hnc131 := NB102_101.out
                      have hnb132 := NB101_104.out
                      have hnc132 := NB104_101.out
                      have hcz133_0 : wr.cell? ⟨gb101, 0, none⟩ = some (.int .i64 a0_0) := (blk_cell BK101.out 0).trans rfl
                      have hcz133_1 : wr.cell? ⟨gb101, 1, none⟩ = some (.int .i64 a0_1) := (blk_cell BK101.out 1).trans rfl
                      have hcz133_2 : wr.cell? ⟨gb101, 2, none⟩ = some (.int .i64 a0_2) := (blk_cell BK101.out 2).trans rfl
                      have hcz133_3 : wr.cell? ⟨gb101, 3, none⟩ = some (.int .i64 a0_3) := (blk_cell BK101.out 3).trans rfl
                      have hcz133_4 : wr.cell? ⟨gb101, 4, none⟩ = some (.int .i64 a0_4) := (blk_cell BK101.out 4).trans rfl
                      have hcz133_5 : wr.cell? ⟨gb101, 5, none⟩ = some (.int .i64 a0_5) := (blk_cell BK101.out 5).trans rfl
                      have hcz133_6 : wr.cell? ⟨gb101, 6, none⟩ = some (.int .i64 a0_6) := (blk_cell BK101.out 6).trans rfl
                      have hcz133_7 : wr.cell? ⟨gb101, 7, none⟩ = some (.int .i64 a0_7) := (blk_cell BK101.out 7).trans rfl
                      have hcz133_8 : wr.cell? ⟨gb101, 8, none⟩ = some (.int .i64 a0_8) := (blk_cell BK101.out 8).trans rfl
                      have hcz133_9 : wr.cell? ⟨gb101, 9, none⟩ = some (.int .i64 a0_9) := (blk_cell BK101.out 9).trans rfl
                      have hcz133_10 : wr.cell? ⟨gb101, 10, none⟩ = some (.bool a0_10) := (blk_cell BK101.out 10).trans rfl
                      have hcz133_11 : wr.cell? ⟨gb101, 11, none⟩ = some (.bool a0_11) := (blk_cell BK101.out 11).trans rfl
                      have hcz133_12 : wr.cell? ⟨gb101, 12, none⟩ = some (.slice A0_12 l0_12.length c0_12) := (blk_cell BK101.out 12).trans rfl
                      have hcz133_13 : wr.cell? ⟨gb101, 13, none⟩ = some (.int .i64 a0_13) := (blk_cell BK101.out 13).trans rfl
                      have hfz133_0 := blk_frozen BK101.out 0
                      have hfz133_1 := blk_frozen BK101.out 1
                      have hfz133_2 := blk_frozen BK101.out 2
                      have hfz133_3 := blk_frozen BK101.out 3
                      have hfz133_4 := blk_frozen BK101.out 4
                      have hfz133_5 := blk_frozen BK101.out 5
                      have hfz133_6 := blk_frozen BK101.out 6
                      have hfz133_7 := blk_frozen BK101.out 7
                      have hfz133_8 := blk_frozen BK101.out 8
                      have hfz133_9 := blk_frozen BK101.out 9
                      have hfz133_10 := blk_frozen BK101.out 10
                      have hfz133_11 := blk_frozen BK101.out 11
                      have hfz133_12 := blk_frozen BK101.out 12
                      have hfz133_13 := blk_frozen BK101.out 13
                      have hnb134 := NB102_104.out
                      have hnc134 := NB104_102.out
                      have hcz135_0 : wr.cell? ⟨gb102, 0, none⟩ = some (.int .i64 a1_0) := (blk_cell BK102.out 0).trans rfl
                      have hcz135_1 : wr.cell? ⟨gb102, 1, none⟩ = some (.int .i64 a1_1) := (blk_cell BK102.out 1).trans rfl
                      have hcz135_2 : wr.cell? ⟨gb102, 2, none⟩ = some (.int .i64 a1_2) := (blk_cell BK102.out 2).trans rfl
                      have hcz135_3 : wr.cell? ⟨gb102, 3, none⟩ = some (.int .i64 a1_3) := (blk_cell BK102.out 3).trans rfl
                      have hcz135_4 : wr.cell? ⟨gb102, 4, none⟩ = some (.int .i64 a1_4) := (blk_cell BK102.out 4).trans rfl
                      have hcz135_5 : wr.cell? ⟨gb102, 5, none⟩ = some (.int .i64 a1_5) := (blk_cell BK102.out 5).trans rfl
                      have hcz135_6 : wr.cell? ⟨gb102, 6, none⟩ = some (.int .i64 a1_6) := (blk_cell BK102.out 6).trans rfl
                      have hcz135_7 : wr.cell? ⟨gb102, 7, none⟩ = some (.int .i64 a1_7) := (blk_cell BK102.out 7).trans rfl
                      have hcz135_8 : wr.cell? ⟨gb102, 8, none⟩ = some (.int .i64 a1_8) := (blk_cell BK102.out 8).trans rfl
                      have hcz135_9 : wr.cell? ⟨gb102, 9, none⟩ = some (.int .i64 a1_9) := (blk_cell BK102.out 9).trans rfl
                      have hcz135_10 : wr.cell? ⟨gb102, 10, none⟩ = some (.bool a1_10) := (blk_cell BK102.out 10).trans rfl
                      have hcz135_11 : wr.cell? ⟨gb102, 11, none⟩ = some (.bool a1_11) := (blk_cell BK102.out 11).trans rfl
                      have hcz135_12 : wr.cell? ⟨gb102, 12, none⟩ = some (.slice A1_12 l1_12.length c1_12) := (blk_cell BK102.out 12).trans rfl
                      have hcz135_13 : wr.cell? ⟨gb102, 13, none⟩ = some (.int .i64 a1_13) := (blk_cell BK102.out 13).trans rfl
                      have hfz135_0 := blk_frozen BK102.out 0
                      have hfz135_1 := blk_frozen BK102.out 1
                      have hfz135_2 := blk_frozen BK102.out 2
                      have hfz135_3 := blk_frozen BK102.out 3
                      have hfz135_4 := blk_frozen BK102.out 4
                      have hfz135_5 := blk_frozen BK102.out 5
                      have hfz135_6 := blk_frozen BK102.out 6
                      have hfz135_7 := blk_frozen BK102.out 7
                      have hfz135_8 := blk_frozen BK102.out 8
                      have hfz135_9 := blk_frozen BK102.out 9
                      have hfz135_10 := blk_frozen BK102.out 10
                      have hfz135_11 := blk_frozen BK102.out 11
                      have hfz135_12 := blk_frozen BK102.out 12
                      have hfz135_13 := blk_frozen BK102.out 13
                      go_wp2
                      go_ret
                      exact ⟨by first | rfl | (simp [errW_none, errW_some] <;> rfl) | (simp [*, errW_none, errW_some] <;> rfl) | (simp [wrap64]; done), by repeat (first | (with_reducible first | exact HB.out | apply below_alloc | apply pw_below_drewN | apply below_drew1 | refine below_set ?_ GE101.out | refine below_set ?_ GE102.out | refine below_set ?_ GE103.out | refine below_set ?_ GE104.out) | exact HB.out)⟩
                  · rw [if_neg c66] at H
                    have c66b0 : (a0_2 == a1_2) = false := beq_eq_false_iff_ne.mpr c66
                    have c66b1 : (a0_2 != a1_2) = true := bne_iff_ne.mpr c66
                    obtain rfl := Option.some.inj H
                    have hnb136 := NB103_101.out
                    have hnc136 := NB101_103.out
                    have hnb137 := NB103_102.out
                    have hnc137 := NB102_103.out
                    have hnb138 := NB103_104.out
                    have hnc138 := NB104_103.out
                    have hcz139_0 : wr.cell? ⟨gb103, 0, none⟩ = some (.bool a0_10) := (blk_cell BK103.out 0).trans rfl
                    have hcz139_1 : wr.cell? ⟨gb103, 1, none⟩ = some (.bool a0_11) := (blk_cell BK103.out 1).trans rfl
                    have hcz139_2 : wr.cell? ⟨gb103, 2, none⟩ = some (.slice A0_12 l0_12.length c0_12) := (blk_cell BK103.out 2).trans rfl
                    have hcz139_3 : wr.cell? ⟨gb103, 3, none⟩ = some (.int .i64 a0_13) := (blk_cell BK103.out 3).trans rfl
                    have hfz139_0 := blk_frozen BK103.out 0
                    have hfz139_1 := blk_frozen BK103.out 1
                    have hfz139_2 := blk_frozen BK103.out 2
                    have hfz139_3 := blk_frozen BK103.out 3
                    have hnb140 := NB101_102.out
                    have hnc140 := NB102_101.out
                    have hnb141 := NB101_104.out
                    have hnc141 := NB104_101.out
                    have hcz142_0 : wr.cell? ⟨gb101, 0, none⟩ = some (.int .i64 a0_0) := (blk_cell BK101.out 0).trans rfl
                    have hcz142_1 : wr.cell? ⟨gb101, 1, none⟩ = some (.int .i64 a0_1) := (blk_cell BK101.out 1).trans rfl
                    have hcz142_2 : wr.cell? ⟨gb101, 2, none⟩ = some (.int .i64 a0_2) := (blk_cell BK101.out 2).trans rfl
                    have hcz142_3 : wr.cell? ⟨gb101, 3, none⟩ = some (.int .i64 a0_3) := (blk_cell BK101.out 3).trans rfl
                    have hcz142_4 : wr.cell? ⟨gb101, 4, none⟩ = some (.int .i64 a0_4) := (blk_cell BK101.out 4).trans rfl
                    have hcz142_5 : wr.cell? ⟨gb101, 5, none⟩ = some (.int .i64 a0_5) := (blk_cell BK101.out 5).trans rfl
                    have hcz142_6 : wr.cell? ⟨gb101, 6, none⟩ = some (.int .i64 a0_6) := (blk_cell BK101.out 6).trans rfl
                    have hcz142_7 : wr.cell? ⟨gb101, 7, none⟩ = some (.int .i64 a0_7) := (blk_cell BK101.out 7).trans rfl
                    have hcz142_8 : wr.cell? ⟨gb101, 8, none⟩ = some (.int .i64 a0_8) := (blk_cell BK101.out 8).trans rfl
                    have hcz142_9 : wr.cell? ⟨gb101, 9, none⟩ = some (.int .i64 a0_9) := (blk_cell BK101.out 9).trans rfl
                    have hcz142_10 : wr.cell? ⟨gb101, 10, none⟩ = some (.bool a0_10) := (blk_cell BK101.out 10).trans rfl
                    have hcz142_11 : wr.cell? ⟨gb101, 11, none⟩ = some (.bool a0_11) := (blk_cell BK101.out 11).trans rfl
                    have hcz142_12 : wr.cell? ⟨gb101, 12, none⟩ = some (.slice A0_12 l0_12.length c0_12) := (blk_cell BK101.out 12).trans rfl
                    have hcz142_13 : wr.cell? ⟨gb101, 13, none⟩ = some (.int .i64 a0_13) := (blk_cell BK101.out 13).trans rfl
                    have hfz142_0 := blk_frozen BK101.out 0
                    have hfz142_1 := blk_frozen BK101.out 1
                    have hfz142_2 := blk_frozen BK101.out 2
                    have hfz142_3 := blk_frozen BK101.out 3
                    have hfz142_4 := blk_frozen BK101.out 4
                    have hfz142_5 := blk_frozen BK101.out 5
                    have hfz142_6 := blk_frozen BK101.out 6
                    have hfz142_7 := blk_frozen BK101.out 7
                    have hfz142_8 := blk_frozen BK101.out 8
                    have hfz142_9 := blk_frozen BK101.out 9
                    have hfz142_10 := blk_frozen BK101.out 10
                    have hfz142_11 := blk_frozen BK101.out 11
                    have hfz142_12 := blk_frozen BK101.out 12
                    have hfz142_13 := blk_frozen BK101.out 13
                    have hnb143 := NB102_104.out
                    have hnc143 := NB104_102.out
                    have hcz144_0 : wr.cell? ⟨gb102, 0, none⟩ = some (.int .i64 a1_0) := (blk_cell BK102.out 0).trans rfl
                    have hcz144_1 : wr.cell? ⟨gb102, 1, none⟩ = some (.int .i64 a1_1) := (blk_cell BK102.out 1).trans rfl
                    have hcz144_2 : wr.cell? ⟨gb102, 2, none⟩ = some (.int .i64 a1_2) := (blk_cell BK102.out 2).trans rfl
                    have hcz144_3 : wr.cell? ⟨gb102, 3, none⟩ = some (.int .i64 a1_3) := (blk_cell BK102.out 3).trans rfl
                    have hcz144_4 : wr.cell? ⟨gb102, 4, none⟩ = some (.int .i64 a1_4) := (blk_cell BK102.out 4).trans rfl
                    have hcz144_5 : wr.cell? ⟨gb102, 5, none⟩ = some (.int .i64 a1_5) := (blk_cell BK102.out 5).trans rfl
                    have hcz144_6 : wr.cell? ⟨gb102, 6, none⟩ = some (.int .i64 a1_6) := (blk_cell BK102.out 6).trans rfl
                    have hcz144_7 : wr.cell? ⟨gb102, 7, none⟩ = some (.int .i64 a1_7) := (blk_cell BK102.out 7).trans rfl
                    have hcz144_8 : wr.cell? ⟨gb102, 8, none⟩ = some (.int .i64 a1_8) := (blk_cell BK102.out 8).trans rfl
                    have hcz144_9 : wr.cell? ⟨gb102, 9, none⟩ = some (.int .i64 a1_9) := (blk_cell BK102.out 9).trans rfl
                    have hcz144_10 : wr.cell? ⟨gb102, 10, none⟩ = some (.bool a1_10) := (blk_cell BK102.out 10).trans rfl
                    have hcz144_11 : wr.cell? ⟨gb102, 11, none⟩ = some (.bool a1_11) := (blk_cell BK102.out 11).trans rfl
                    have hcz144_12 : wr.cell? ⟨gb102, 12, none⟩ = some (.slice A1_12 l1_12.length c1_12) := (blk_cell BK102.out 12).trans rfl
                    have hcz144_13 : wr.cell? ⟨gb102, 13, none⟩ = some (.int .i64 a1_13) := (blk_cell BK102.out 13).trans rfl
                    have hfz144_0 := blk_frozen BK102.out 0
                    have hfz144_1 := blk_frozen BK102.out 1
                    have hfz144_2 := blk_frozen BK102.out 2
                    have hfz144_3 := blk_frozen BK102.out 3
                    have hfz144_4 := blk_frozen BK102.out 4
                    have hfz144_5 := blk_frozen BK102.out 5
                    have hfz144_6 := blk_frozen BK102.out 6
                    have hfz144_7 := blk_frozen BK102.out 7
                    have hfz144_8 := blk_frozen BK102.out 8
                    have hfz144_9 := blk_frozen BK102.out 9
                    have hfz144_10 := blk_frozen BK102.out 10
                    have hfz144_11 := blk_frozen BK102.out 11
                    have hfz144_12 := blk_frozen BK102.out 12
                    have hfz144_13 := blk_frozen BK102.out 13
                    go_wp2
                    go_ret
                    exact ⟨by first | rfl | (simp [errW_none, errW_some] <;> rfl) | (simp [*, errW_none, errW_some] <;> rfl) | (simp [wrap64]; done), by repeat (first | (with_reducible first | exact HB.out | apply below_alloc | apply pw_below_drewN | apply below_drew1 | refine below_set ?_ GE101.out | refine below_set ?_ GE102.out | refine below_set ?_ GE103.out | refine below_set ?_ GE104.out) | exact HB.out)⟩
                · rw [if_neg c65] at H
                  have c65b0 : (a0_1 == a1_1) = false := beq_eq_false_iff_ne.mpr c65
                  have c65b1 : (a0_1 != a1_1) = true := bne_iff_ne.mpr c65
                  obtain rfl := Option.some.inj H
                  have hnb145 := NB103_101.out
                  have hnc145 := NB101_103.out
                  have hnb146 := NB103_102.out
                  have hnc146 := NB102_103.out
                  have hnb147 := NB103_104.out
                  have hnc147 := NB104_103.out
                  have hcz148_0 : wr.cell? ⟨gb103, 0, none⟩ = some (.bool a0_10) := (blk_cell BK103.out 0).trans rfl
                  have hcz148_1 : wr.cell? ⟨gb103, 1, none⟩ = some (.bool a0_11) := (blk_cell BK103.out 1).trans rfl
                  have hcz148_2 : wr.cell? ⟨gb103, 2, none⟩ = some (.slice A0_12 l0_12.length c0_12) := (blk_cell BK103.out 2).trans rfl
                  have hcz148_3 : wr.cell? ⟨gb103, 3, none⟩ = some (.int .i64 a0_13) := (blk_cell BK103.out 3).trans rfl
                  have hfz148_0 := blk_frozen BK103.out 0
                  have hfz148_1 := blk_frozen BK103.out 1
                  have hfz148_2 := blk_frozen BK103.out 2
                  have hfz148_3 := blk_frozen BK103.out 3
                  have hnb149 := NB101_102.out
                  have hnc149 := NB102_101.out
                  have hnb150 := NB101_104.out
                  have hnc150 := NB104_101.out
                  have hcz151_0 : wr.cell? ⟨gb101, 0, none⟩ = some (.int .i64 a0_0) := (blk_cell BK101.out 0).trans rfl
                  have hcz151_1 : wr.cell? ⟨gb101, 1, none⟩ = some (.int .i64 a0_1) := (blk_cell BK101.out 1).trans rfl
                  have hcz151_2 : wr.cell? ⟨gb101, 2, none⟩ = some (.int .i64 a0_2) := (blk_cell BK101.out 2).trans rfl
                  have hcz151_3 : wr.cell? ⟨gb101, 3, none⟩ = some (.int .i64 a0_3) := (blk_cell BK101.out 3).trans rfl
                  have hcz151_4 : wr.cell? ⟨gb101, 4, none⟩ = some (.int .i64 a0_4) := (blk_cell BK101.out 4).trans rfl
                  have hcz151_5 : wr.cell? ⟨gb101, 5, none⟩ = some (.int .i64 a0_5) := (blk_cell BK101.out 5).trans rfl
                  have hcz151_6 : wr.cell? ⟨gb101, 6, none⟩ = some (.int .i64 a0_6) := (blk_cell BK101.out 6).trans rfl
                  have hcz151_7 : wr.cell? ⟨gb101, 7, none⟩ = some (.int .i64 a0_7) := (blk_cell BK101.out 7).trans rfl
                  have hcz151_8 : wr.cell? ⟨gb101, 8, none⟩ = some (.int .i64 a0_8) := (blk_cell BK101.out 8).trans rfl
                  have hcz151_9 : wr.cell? ⟨gb101, 9, none⟩ = some (.int .i64 a0_9) := (blk_cell BK101.out 9).trans rfl
                  have hcz151_10 : wr.cell? ⟨gb101, 10, none⟩ = some (.bool a0_10) := (blk_cell BK101.out 10).trans rfl
                  have hcz151_11 : wr.cell? ⟨gb101, 11, none⟩ = some (.bool a0_11) := (blk_cell BK101.out 11).trans rfl
                  have hcz151_12 : wr.cell? ⟨gb101, 12, none⟩ = some (.slice A0_12 l0_12.length c0_12) := (blk_cell BK101.out 12).trans rfl
                  have hcz151_13 : wr.cell? ⟨gb101, 13, none⟩ = some (.int .i64 a0_13) := (blk_cell BK101.out 13).trans rfl
                  have hfz151_0 := blk_frozen BK101.out 0
                  have hfz151_1 := blk_frozen BK101.out 1
                  have hfz151_2 := blk_frozen BK101.out 2
                  have hfz151_3 := blk_frozen BK101.out 3
                  have hfz151_4 := blk_frozen BK101.out 4
                  have hfz151_5 := blk_frozen BK101.out 5
                  have hfz151_6 := blk_frozen BK101.out 6
                  have hfz151_7 := blk_frozen BK101.out 7
                  have hfz151_8 := blk_frozen BK101.out 8
                  have hfz151_9 := blk_frozen BK101.out 9
                  have hfz151_10 := blk_frozen BK101.out 10
                  have hfz151_11 := blk_frozen BK101.out 11
                  have hfz151_12 := blk_frozen BK101.out 12
                  have hfz151_13 := blk_frozen BK101.out 13
                  have hnb152 := NB102_104.out
                  have hnc152 := NB104_102.out
                  have hcz153_0 : wr.cell? ⟨gb102, 0, none⟩ = some (.int .i64 a1_0) := (blk_cell BK102.out 0).trans rfl
                  have hcz153_1 : wr.cell? ⟨gb102, 1, none⟩ = some (.int .i64 a1_1) := (blk_cell BK102.out 1).trans rfl
                  have hcz153_2 : wr.cell? ⟨gb102, 2, none⟩ = some (.int .i64 a1_2) := (blk_cell BK102.out 2).trans rfl
                  have hcz153_3 : wr.cell? ⟨gb102, 3, none⟩ = some (.int .i64 a1_3) := (blk_cell BK102.out 3).trans rfl
                  have hcz153_4 : wr.cell? ⟨gb102, 4, none⟩ = some (.int .i64 a1_4) := (blk_cell BK102.out 4).trans rfl
                  have hcz153_5 : wr.cell? ⟨gb102, 5, none⟩ = some (.int .i64 a1_5) := (blk_cell BK102.out 5).trans rfl
                  have hcz153_6 : wr.cell? ⟨gb102, 6, none⟩ = some (.int .i64 a1_6) := (blk_cell BK102.out 6).trans rfl
                  have hcz153_7 : wr.cell? ⟨gb102, 7, none⟩ = some (.int .i64 a1_7) := (blk_cell BK102.out 7).trans rfl
                  have hcz153_8 : wr.cell? ⟨gb102, 8, none⟩ = some (.int .i64 a1_8) := (blk_cell BK102.out 8).trans rfl
                  have hcz153_9 : wr.cell? ⟨gb102, 9, none⟩ = some (.int .i64 a1_9) := (blk_cell BK102.out 9).trans rfl
                  have hcz153_10 : wr.cell? ⟨gb102, 10, none⟩ = some (.bool a1_10) := (blk_cell BK102.out 10).trans rfl
                  have hcz153_11 : wr.cell? ⟨gb102, 11, none⟩ = some (.bool a1_11) := (blk_cell BK102.out 11).trans rfl
                  have hcz153_12 : wr.cell? ⟨gb102, 12, none⟩ = some (.slice A1_12 l1_12.length c1_12) := (blk_cell BK102.out 12).trans rfl
                  have hcz153_13 : wr.cell? ⟨gb102, 13, none⟩ = some (.int .i64 a1_13) := (blk_cell BK102.out 13).trans rfl
                  have hfz153_0 := blk_frozen BK102.out 0
                  have hfz153_1 := blk_frozen BK102.out 1
                  have hfz153_2 := blk_frozen BK102.out 2
                  have hfz153_3 := blk_frozen BK102.out 3
                  have hfz153_4 := blk_frozen BK102.out 4
                  have hfz153_5 := blk_frozen BK102.out 5
                  have hfz153_6 := blk_frozen BK102.out 6
                  have hfz153_7 := blk_frozen BK102.out 7
                  have hfz153_8 := blk_frozen BK102.out 8
                  have hfz153_9 := blk_frozen BK102.out 9
                  have hfz153_10 := blk_frozen BK102.out 10
                  have hfz153_11 := blk_frozen BK102.out 11
                  have hfz153_12 := blk_frozen BK102.out 12
                  have hfz153_13 := blk_frozen BK102.out 13
                  go_wp2
                  go_ret
                  exact ⟨by first | rfl | (simp [errW_none, errW_some] <;> rfl) | (simp [*, errW_none, errW_some] <;> rfl) | (simp [wrap64]; done), by repeat (first | (with_reducible first | exact HB.out | apply below_alloc | apply pw_below_drewN | apply below_drew1 | refine below_set ?_ GE101.out | refine below_set ?_ GE102.out | refine below_set ?_ GE103.out | refine below_set ?_ GE104.out) | exact HB.out)⟩
              · rw [if_neg c64] at H
                have c64b0 : (a0_0 == a1_0) = false := beq_eq_false_iff_ne.mpr c64
                have c64b1 : (a0_0 != a1_0) = true := bne_iff_ne.mpr c64
                obtain rfl := Option.some.inj H
                have hnb154 := NB103_101.out
                have hnc154 := NB101_103.out
                have hnb155 := NB103_102.out
                have hnc155 := NB102_103.out
                have hnb156 := NB103_104.out
                have hnc156 := NB104_103.out
                have hcz157_0 : wr.cell? ⟨gb103, 0, none⟩ = some (.bool a0_10) := (blk_cell BK103.out 0).trans rfl
                have hcz157_1 : wr.cell? ⟨gb103, 1, none⟩ = some (.bool a0_11) := (blk_cell BK103.out 1).trans rfl
                have hcz157_2 : wr.cell? ⟨gb103, 2, none⟩ = some (.slice A0_12 l0_12.length c0_12) := (blk_cell BK103.out 2).trans rfl
                have hcz157_3 : wr.cell? ⟨gb103, 3, none⟩ = some (.int .i64 a0_13) := (blk_cell BK103.out 3).trans rfl
                have hfz157_0 := blk_frozen BK103.out 0
                have hfz157_1 := blk_frozen BK103.out 1
                have hfz157_2 := blk_frozen BK103.out 2
                have hfz157_3 := blk_frozen BK103.out 3
                have hnb158 := NB101_102.out
                have hnc158 := NB102_101.out
                have hnb159 := NB101_104.out
                have hnc159 := NB104_101.out
                have hcz160_0 : wr.cell? ⟨gb101, 0, none⟩ = some (.int .i64 a0_0) := (blk_cell BK101.out 0).trans rfl
                have hcz160_1 : wr.cell? ⟨gb101, 1, none⟩ = some (.int .i64 a0_1) := (blk_cell BK101.out 1).trans rfl
                have hcz160_2 : wr.cell? ⟨gb101, 2, none⟩ = some (.int .i64 a0_2) := (blk_cell BK101.out 2).trans rfl
                have hcz160_3 : wr.cell? ⟨gb101, 3, none⟩ = some (.int .i64 a0_3) := (blk_cell BK101.out 3).trans rfl
                have hcz160_4 : wr.cell? ⟨gb101, 4, none⟩ = some (.int .i64 a0_4) := (blk_cell BK101.out 4).trans rfl
                have hcz160_5 : wr.cell? ⟨gb101, 5, none⟩ = some (.int .i64 a0_5) := (blk_cell BK101.out 5).trans rfl
                have hcz160_6 : wr.cell? ⟨gb101, 6, none⟩ = some (.int .i64 a0_6) := (blk_cell BK101.out 6).trans rfl
                have hcz160_7 : wr.cell? ⟨gb101, 7, none⟩ = some (.int .i64 a0_7) := (blk_cell BK101.out 7).trans rfl
                have hcz160_8 : wr.cell? ⟨gb101, 8, none⟩ = some (.int .i64 a0_8) := (blk_cell BK101.out 8).trans rfl
                have hcz160_9 : wr.cell? ⟨gb101, 9, none⟩ = some (.int .i64 a0_9) := (blk_cell BK101.out 9).trans rfl
                have hcz160_10 : wr.cell? ⟨gb101, 10, none⟩ = some (.bool a0_10) := (blk_cell BK101.out 10).trans rfl
                have hcz160_11 : wr.cell? ⟨gb101, 11, none⟩ = some (.bool a0_11) := (blk_cell BK101.out 11).trans rfl
                have hcz160_12 : wr.cell? ⟨gb101, 12, none⟩ = some (.slice A0_12 l0_12.length c0_12) := (blk_cell BK101.out 12).trans rfl
                have hcz160_13 : wr.cell? ⟨gb101, 13, none⟩ = some (.int .i64 a0_13) := (blk_cell BK101.out 13).trans rfl
                have hfz160_0 := blk_frozen BK101.out 0
                have hfz160_1 := blk_frozen BK101.out 1
                have hfz160_2 := blk_frozen BK101.out 2
                have hfz160_3 := blk_frozen BK101.out 3
                have hfz160_4 := blk_frozen BK101.out 4
                have hfz160_5 := blk_frozen BK101.out 5
                have hfz160_6 := blk_frozen BK101.out 6
                have hfz160_7 := blk_frozen BK101.out 7
                have hfz160_8 := blk_frozen BK101.out 8
                have hfz160_9 := blk_frozen BK101.out 9
                have hfz160_10 := blk_frozen BK101.out 10
                have hfz160_11 := blk_frozen BK101.out 11
                have hfz160_12 := blk_frozen BK101.out 12
                have hfz160_13 := blk_frozen BK101.out 13
                have hnb161 := NB102_104.out
                have hnc161 := NB104_102.out
                have hcz162_0 : wr.cell? ⟨gb102, 0, none⟩ = some (.int .i64 a1_0) := (blk_cell BK102.out 0).trans rfl
                have hcz162_1 : wr.cell? ⟨gb102, 1, none⟩ = some (.int .i64 a1_1) := (blk_cell BK102.out 1).trans rfl
                have hcz162_2 : wr.cell? ⟨gb102, 2, none⟩ = some (.int .i64 a1_2) := (blk_cell BK102.out 2).trans rfl
                have hcz162_3 : wr.cell? ⟨gb102, 3, none⟩ = some (.int .i64 a1_3) := (blk_cell BK102.out 3).trans rfl
                have hcz162_4 : wr.cell? ⟨gb102, 4, none⟩ = some (.int .i64 a1_4) := (blk_cell BK102.out 4).trans rfl
                have hcz162_5 : wr.cell? ⟨gb102, 5, none⟩ = some (.int .i64 a1_5) := (blk_cell BK102.out 5).trans rfl
                have hcz162_6 : wr.cell? ⟨gb102, 6, none⟩ = some (.int .i64 a1_6) := (blk_cell BK102.out 6).trans rfl
                have hcz162_7 : wr.cell? ⟨gb102, 7, none⟩ = some (.int .i64 a1_7) := (blk_cell BK102.out 7).trans rfl
                have hcz162_8 : wr.cell? ⟨gb102, 8, none⟩ = some (.int .i64 a1_8) := (blk_cell BK102.out 8).trans rfl
                have hcz162_9 : wr.cell? ⟨gb102, 9, none⟩ = some (.int .i64 a1_9) := (blk_cell BK102.out 9).trans rfl
                have hcz162_10 : wr.cell? ⟨gb102, 10, none⟩ = some (.bool a1_10) := (blk_cell BK102.out 10).trans rfl
                have hcz162_11 : wr.cell? ⟨gb102, 11, none⟩ = some (.bool a1_11) := (blk_cell BK102.out 11).trans rfl
                have hcz162_12 : wr.cell? ⟨gb102, 12, none⟩ = some (.slice A1_12 l1_12.length c1_12) := (blk_cell BK102.out 12).trans rfl
                have hcz162_13 : wr.cell? ⟨gb102, 13, none⟩ = some (.int .i64 a1_13) := (blk_cell BK102.out 13).trans rfl
                have hfz162_0 := blk_frozen BK102.out 0
                have hfz162_1 := blk_frozen BK102.out 1
                have hfz162_2 := blk_frozen BK102.out 2
                have hfz162_3 := blk_frozen BK102.out 3
                have hfz162_4 := blk_frozen BK102.out 4
                have hfz162_5 := blk_frozen BK102.out 5
                have hfz162_6 := blk_frozen BK102.out 6
                have hfz162_7 := blk_frozen BK102.out 7
                have hfz162_8 := blk_frozen BK102.out 8
                have hfz162_9 := blk_frozen BK102.out 9
                have hfz162_10 := blk_frozen BK102.out 10
                have hfz162_11 := blk_frozen BK102.out 11
                have hfz162_12 := blk_frozen BK102.out 12
                have hfz162_13 := blk_frozen BK102.out 13
                go_wp2
                go_ret
                exact ⟨by first | rfl | (simp [errW_none, errW_some] <;> rfl) | (simp [*, errW_none, errW_some] <;> rfl) | (simp [wrap64]; done), by repeat (first | (with_reducible first | exact HB.out | apply below_alloc | apply pw_below_drewN | apply below_drew1 | refine below_set ?_ GE101.out | refine below_set ?_ GE102.out | refine below_set ?_ GE103.out | refine below_set ?_ GE104.out) | exact HB.out)⟩

end Go.Proofs.Ytdmebkdikminjaa.QMid
