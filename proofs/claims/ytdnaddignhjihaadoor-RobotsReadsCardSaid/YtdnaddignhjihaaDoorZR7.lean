/- robotsReads_holds: a part of its proof (the texts QBasex7, QUx0 without what this claim does not lean on). -/
import Derived.Test.YtdnaddignhjihaaDoorProg
import Derived.Below
import Derived.Deep.Draws
import Derived.Deep.AppendLies
import Derived.Maps.AppendAt
import Derived.OwnWalk
import Derived.Laws.BytesArg
import Derived.Laws.MakeOwn
import Derived.Laws.OwnMore
import Derived.Deep.OwnRows
import Derived.Tactics
import Derived.Lib.ConvBytes
import Derived.Laws.Slices
import Derived.WalkKit
import Derived.KernelRfl
import Derived.RowKit3
import Derived.Deep.LoopGhost
import Derived.Deep.QuietTactic
import Derived.BigQuiet
import Derived.WideLaws
import Derived.Deep.DeepCutAuto
import Derived.Deep.CutBlock
import Derived.Deep.RegionHeld3
import Derived.Laws.Rows
import Derived.Lib.AppendStr
import Derived.ArgAppend
import Derived.Laws.IdiomCopy
import Derived.OrdersHeld
import Derived.Laws.BitsLemmas
import Derived.RowKit
import Derived.Test.YtdnaddignhjihaaDoorZR6
namespace Go.Proofs.YtdnaddignhjihaaDoor.QBase
open Go.Proofs.YtdnaddignhjihaaDoor.Given
open Go.RowKit Go.Proofs.YtdnaddignhjihaaDoorW.PrintWords Go.Proofs.YtdnaddignhjihaaDoorW.PrintLast Go.Proofs.YtdnaddignhjihaaDoorW.PrintMore
attribute [local go_sem] max2_int min2_int max_two min_two max_three min_three max_four min_four   -- for this text's walks alone
set_option linter.unusedVariables false
set_option linter.unusedSimpArgs false
mutual
def decorumref09_Pick.l0 : Nat → List (S71) → ByteArray → Int → Option (Bool × Bool × (List (S30)) × Int)
  | 0, _, _, _ => none
  | k + 1, x0, x5, x6 => if x6 < 2 then (decorumref09_Pick.l1 k x0 x5 x6 false 0 false false ([] : List (S30)) 0) else (some (false, false, ([] : List (S30)), 0))
def decorumref09_Pick.l1 : Nat → List (S71) → ByteArray → Int → Bool → Int → Bool → Bool → List (S30) → Int → Option (Bool × Bool × (List (S30)) × Int)
  | 0, _, _, _, _, _, _, _, _, _ => none
  | k + 1, x0, x5, x6, x8, x9, x157000, x157001, x157002, x157003 => if x9 < (x0.length : Int) then (decorumref09_Pick.l2 k x0 x5 x6 x8 x9 false 0 x157000 x157001 x157002 x157003) else (if (x157002.length : Int) > 64 then (if 64 ≤ (x157002.length : Int) then ((some (x157002.take (64 : Int).toNat : List (S30))).bind fun y167 => (if x8 = true then (some (x157000, x157001, y167, x157003)) else (if x6 = 1 then (some (x157000, x157001, y167, x157003)) else (decorumref09_Pick.l0 k x0 x5 (wrap64 (x6 + 1)))))) else (none)) else (if x8 = true then (some (x157000, x157001, x157002, x157003)) else (if x6 = 1 then (some (x157000, x157001, x157002, x157003)) else (decorumref09_Pick.l0 k x0 x5 (wrap64 (x6 + 1))))))
def decorumref09_Pick.l2 : Nat → List (S71) → ByteArray → Int → Bool → Int → Bool → Int → Bool → Bool → List (S30) → Int → Option (Bool × Bool × (List (S30)) × Int)
  | 0, _, _, _, _, _, _, _, _, _, _, _ => none
  | k + 1, x0, x5, x6, x8, x9, x10, x11, x157000, x157001, x157002, x157003 => if 0 ≤ x9 then (if x9 < (x0.length : Int) then (if x11 < (((rd_T71 x0 x9).f0).length : Int) then (if 0 ≤ x11 then (if x10 = true then (decorumref09_Pick.l2 k x0 x5 x6 x8 x9 true (wrap64 (x11 + 1)) x157000 x157001 x157002 x157003) else (if x6 = 0 then (if x5.toList = ([] : List UInt8) then (if x6 = 1 then (decorumref09_Pick.l2 k x0 x5 x6 x8 x9 ((rdOf ByteArray.empty ((rd_T71 x0 x9).f0) x11).toList == ([42] : List UInt8)) (wrap64 (x11 + 1)) x157000 x157001 x157002 x157003) else (decorumref09_Pick.l2 k x0 x5 x6 x8 x9 false (wrap64 (x11 + 1)) x157000 x157001 x157002 x157003)) else ((decorumref09_Token.f k (rdOf ByteArray.empty ((rd_T71 x0 x9).f0) x11)).bind fun t160 => (if t160.toList = x5.toList then (decorumref09_Pick.l2 k x0 x5 x6 x8 x9 true (wrap64 (x11 + 1)) x157000 x157001 x157002 x157003) else (if x6 = 1 then (decorumref09_Pick.l2 k x0 x5 x6 x8 x9 ((rdOf ByteArray.empty ((rd_T71 x0 x9).f0) x11).toList == ([42] : List UInt8)) (wrap64 (x11 + 1)) x157000 x157001 x157002 x157003) else (decorumref09_Pick.l2 k x0 x5 x6 x8 x9 false (wrap64 (x11 + 1)) x157000 x157001 x157002 x157003))))) else (if x6 = 1 then (decorumref09_Pick.l2 k x0 x5 x6 x8 x9 ((rdOf ByteArray.empty ((rd_T71 x0 x9).f0) x11).toList == ([42] : List UInt8)) (wrap64 (x11 + 1)) x157000 x157001 x157002 x157003) else (decorumref09_Pick.l2 k x0 x5 x6 x8 x9 false (wrap64 (x11 + 1)) x157000 x157001 x157002 x157003)))) else (none)) else (if x10 = true then (if x157002.length + ((rd_T71 x0 x9).f1).length < 5864062014805 then ((some (x157002 ++ ((rd_T71 x0 x9).f1) : List (S30))).bind fun y162 => (if ((rd_T71 x0 x9).f2) > x157003 then (decorumref09_Pick.l1 k x0 x5 x6 true (wrap64 (x9 + 1)) x157000 x157001 y162 ((rd_T71 x0 x9).f2)) else (decorumref09_Pick.l1 k x0 x5 x6 true (wrap64 (x9 + 1)) x157000 x157001 y162 x157003))) else (none)) else (decorumref09_Pick.l1 k x0 x5 x6 x8 (wrap64 (x9 + 1)) x157000 x157001 x157002 x157003))) else (none)) else (none)
end
def decorumref09_Pick.f (k : Nat) (l0 : List (S71)) (a1 : ByteArray) : Option (Bool × Bool × (List (S30)) × Int) := (decorumref09_Token.f k a1).bind fun t155 => (decorumref09_Pick.l0 k l0 t155 0)
def decorumref09_Pick.T18 : Bool × List (List Nat × List Nat) := (true, [([], []), ([0], [0]), ([], []), ([], []), ([2, 3], [2, 3]), ([4], [4]), ([5], [5]), ([1, 6], [1, 6]), ([0, 1, 2, 3, 4, 5, 6, 7], []), ([8, 7, 7, 0, 1, 2, 3, 4, 5, 6, 7], [7, 8])])
def decorumref09_Pick.B18 : List Nat := [0, 1, 0, 0, 12, 28, 60, 127, 255, 511]
theorem decorumref09_Pick.tab18 : rtab .any (opsOf Tryd.f18 18) = decorumref09_Pick.T18 := by kernel_rfl
theorem decorumref09_Pick.bits18 : waitsOk decorumref09_Pick.T18.2 decorumref09_Pick.B18 = true := by kernel_rfl
def decorumref09_Pick.T19 : Bool × List (List Nat × List Nat) := (true, [([], []), ([], []), ([0, 1], [0, 1]), ([2], [2]), ([3], [3]), ([], []), ([5], [5]), ([4, 6], [4, 6])])
def decorumref09_Pick.B19 : List Nat := [0, 0, 3, 7, 15, 0, 32, 127]
theorem decorumref09_Pick.tab19 : rtab .any (opsOf Tryd.f18 19) = decorumref09_Pick.T19 := by kernel_rfl
theorem decorumref09_Pick.bits19 : waitsOk decorumref09_Pick.T19.2 decorumref09_Pick.B19 = true := by kernel_rfl
set_option maxHeartbeats 8000000 in
set_option maxRecDepth 100000 in
theorem decorumref09_Pick.calls (k : Nat) (A0 : Option Addr) (c0 : Nat) (l0 : List (S71)) (a1 : ByteArray) (r1 : Bool) (r2 : Bool) (r3 : List (S30)) (r4 : Int) (w : World) (hr0 : Kd.C k71 w A0 l0.length l0) (hc0 : l0.length ≤ c0) (h : decorumref09_Pick.f k l0 a1 = some (r1, r2, r3, r4)) :
    Calls Tryd.prog 18 #[.slice A0 l0.length c0, .string a1] w fun e w' => ∃ v2_ : Value, e = .returned (.agg #[.bool r1, .bool r2, v2_, .int .i64 r4]) ∧ Kd.R k30 30 w' w.heap.size (fun _ => True) v2_ r3 ∧ Below w.heap.size w w' := by
  have hu26 := Tryd.underlying26
  have HR0 := Aside0.mk hr0
  have HC0 := Aside0.mk hc0
  clear hr0 hc0
  have HB := Aside0.mk (Below.refl w.heap.size w)
  have H : ((decorumref09_Token.f k a1).bind fun t155 => (decorumref09_Pick.l0 k l0 t155 0)) = some (r1, r2, r3, r4) := h
  clear h
  replace H := Option.bind_eq_some_iff.mp H
  obtain ⟨t155, A30, H⟩ := H
  replace H : (decorumref09_Pick.l0 k l0 t155 0) = some (r1, r2, r3, r4) := H
  have A3 := Aside0.mk A30
  clear A30
  have H' := Aside0.mk H
  clear H
  go_enter Tryd.func18, Tryd.ntmps18
  go_wp2_with (first | ((with_reducible refine gate_dst (N := 4) rfl ?_); refine box_event ?hg (N := 4) ?hd (cs := #[.bool false, .bool false, .slice none 0 0, .int .i64 0]) (t := 26) ?hr ?_; (case hd => rfl); (case hg => rfl); (case hr => first | (go_simp; done) | (go_simp; rfl)); intro gb154 hg w4 hbox hb; have n0_ := Aside0.mk (below_step (by repeat (first | (with_reducible first | exact HB.out | apply below_alloc | apply pw_below_drewN | apply below_drew1) | exact HB.out)) hb); have n1_ := Aside0.mk (hbox); have n2_ := Aside0.mk ((by rw [hg]; exact (below_size (by repeat (first | (with_reducible first | exact HB.out | apply below_alloc | apply pw_below_drewN | apply below_drew1) | exact HB.out))) : w.heap.size ≤ gb154)); have n3_ := Aside0.mk ((by rw [hg]; exact (below_size (by repeat (first | (with_reducible first | exact HB.out | apply below_alloc | apply pw_below_drewN | apply below_drew1) | exact HB.out))) : w.heap.size ≤ gb154)); clear HB; have HB := n0_; have BK154 := n1_; have GW154 := n2_; have GE154 := n3_; clear n0_ n1_ n2_ n3_; clear hb hbox hg) | ((with_reducible refine gate_callee (f := 15) rfl ?_); refine goesL_ (some 14) rfl rfl Tryd.func15 (by kernel_rfl) rfl #[.string a1] rfl (by (try simp only [List.map_toArray, List.map_cons, List.map_nil]); first | done | rfl | (simp only [List.length_drop, List.length_take]; rfl)) ?_; (with_reducible refine (decorumref09_Token.calls k a1 t155 _ A3.out).mono ?_); rintro e w5 ⟨rfl, hb⟩; refine ⟨_, rfl, ?_⟩; have n0_ := Aside0.mk (blk_below (g := gb154) (o := .cells #[.bool false, .bool false, .slice none 0 0, .int .i64 0] 26 (0, 0)) (by (with_reducible repeat (first | refine blk_drewN ?_ _ | refine blk_drew ?_ | refine blk_alloc ?_ _)); exact BK154.out) hb); have n1_ := Aside0.mk (below_step (by repeat (first | (with_reducible first | exact HB.out | apply below_alloc | apply pw_below_drewN | apply below_drew1 | refine below_set ?_ GE154.out) | exact HB.out)) hb); clear BK154; clear HB; have BK154 := n0_; have HB := n1_; clear n0_ n1_; (try clear hb); (try clear hb2); (try clear hk); (try clear hi)))
  go_loopg [6] k (fun kq v6 w' => ∃ (x6_1 : Int) (x155000_1 : Bool) (x155001_1 : Bool) (x155003_1 : Int), v6 = .int .i64 x6_1 ∧ Aside0 (decorumref09_Pick.l0 kq l0 t155 x6_1 = some (r1, r2, r3, r4)) ∧ Aside0 (kq ≤ k) ∧ Aside0 (w'.heap[gb154]? = some (.cells #[.bool x155000_1, .bool x155001_1, (.slice none 0 0), .int .i64 x155003_1] 26 (0, 0))) ∧ Aside0 (Below w.heap.size w w'))
  case atStart => exact ⟨(0), (false), (false), (0), (by first | rfl | (simp; done) | (simp [*]; done)), H', ⟨Nat.le_refl _⟩, ⟨by (with_reducible repeat (first | refine blk_drewN ?_ _ | refine blk_drew ?_ | refine blk_alloc ?_ _)); exact BK154.out⟩, ⟨by repeat (first | (with_reducible first | exact HB.out | apply below_alloc | apply pw_below_drewN | apply below_drew1 | refine below_set ?_ GE154.out) | exact HB.out)⟩⟩
  case round =>
    clear H'
    try clear c1
    try clear p2
    obtain ⟨x6_1, x155000_1, x155001_1, x155003_1, rfl, HA, HK1, BK154, HB⟩ := hrel
    cases gk with
    | zero => exact absurd HA.out (by simp [decorumref09_Pick.l0])
    | succ k1 =>
      have H := HA.out
      clear HA
      simp only [decorumref09_Pick.l0] at H
      by_cases c6 : x6_1 < 2
      · rw [if_pos c6] at H
        have c6b0 : decide (x6_1 < 2) = true := decide_eq_true c6
        clear c6
        have H' := Aside0.mk H
        clear H
        go_wp2_with (first | ((with_reducible refine gate_dst (N := 7) rfl ?_); refine box_event ?hg (N := 7) ?hd (cs := #[.bool false, .bool false, .slice none 0 0, .int .i64 0]) (t := 26) ?hr ?_; (case hd => rfl); (case hg => rfl); (case hr => first | (go_simp; done) | (go_simp; rfl)); intro gb156 hg w7 hbox hb; have n0_ := Aside0.mk (blk_below (g := gb154) (o := .cells #[.bool x155000_1, .bool x155001_1, .slice none 0 0, .int .i64 x155003_1] 26 (0, 0)) (by (with_reducible repeat (first | refine blk_drewN ?_ _ | refine blk_drew ?_ | refine blk_alloc ?_ _)); exact BK154.out) hb); have n1_ := Aside0.mk (below_step (by repeat (first | (with_reducible first | exact HB.out | apply below_alloc | apply pw_below_drewN | apply below_drew1 | refine below_set ?_ GE154.out) | exact HB.out)) hb); have n2_ := Aside0.mk (hbox); have n3_ := Aside0.mk ((by rw [hg]; exact (below_size (by repeat (first | (with_reducible first | exact HB.out | apply below_alloc | apply pw_below_drewN | apply below_drew1 | refine below_set ?_ GE154.out) | exact HB.out))) : w.heap.size ≤ gb156)); have n4_ := Aside0.mk ((by rw [hg]; exact (below_size (by repeat (first | (with_reducible first | exact HB.out | apply below_alloc | apply pw_below_drewN | apply below_drew1 | refine below_set ?_ GE154.out) | exact HB.out))) : w.heap.size ≤ gb156)); have n5_ := Aside0.mk ((by rw [hg]; exact Nat.ne_of_lt (blk_lt (g := gb154) (o := .cells #[.bool x155000_1, .bool x155001_1, .slice none 0 0, .int .i64 x155003_1] 26 (0, 0)) (by (with_reducible repeat (first | refine blk_drewN ?_ _ | refine blk_drew ?_ | refine blk_alloc ?_ _)); exact BK154.out)) : gb154 ≠ gb156)); have n6_ := Aside0.mk ((by rw [hg]; exact Nat.ne_of_gt (blk_lt (g := gb154) (o := .cells #[.bool x155000_1, .bool x155001_1, .slice none 0 0, .int .i64 x155003_1] 26 (0, 0)) (by (with_reducible repeat (first | refine blk_drewN ?_ _ | refine blk_drew ?_ | refine blk_alloc ?_ _)); exact BK154.out)) : gb156 ≠ gb154)); clear BK154; clear HB; have BK154 := n0_; have HB := n1_; have BK156 := n2_; have GW156 := n3_; have GE156 := n4_; have NB154_156 := n5_; have NB156_154 := n6_; clear n0_ n1_ n2_ n3_ n4_ n5_ n6_; clear hb hbox hg; have hnb8 := NB156_154.out; have hnc8 := NB154_156.out; have hcz9_0 : w7.cell? ⟨gb156, 0, none⟩ = some (.bool false) := (blk_cell BK156.out 0).trans rfl; have hcz9_1 : w7.cell? ⟨gb156, 1, none⟩ = some (.bool false) := (blk_cell BK156.out 1).trans rfl; have hcz9_2 : w7.cell? ⟨gb156, 2, none⟩ = some (.slice none 0 0) := (blk_cell BK156.out 2).trans rfl; have hcz9_3 : w7.cell? ⟨gb156, 3, none⟩ = some (.int .i64 0) := (blk_cell BK156.out 3).trans rfl; have hfz9_0 := blk_frozen BK156.out 0; have hfz9_1 := blk_frozen BK156.out 1; have hfz9_2 := blk_frozen BK156.out 2; have hfz9_3 := blk_frozen BK156.out 3))
        go_loopg [8, 9] k1 (fun kq v8 v9 w' => ∃ (x8_2 : Bool) (x9_2 : Int) (x157002_2 : List (S30)) (x157003_2 : Int) (u157002 : Value), v8 = .bool x8_2 ∧ v9 = .int .i64 x9_2 ∧ Aside0 (decorumref09_Pick.l1 kq l0 t155 x6_1 x8_2 x9_2 false false x157002_2 x157003_2 = some (r1, r2, r3, r4)) ∧ Aside0 (kq ≤ k1) ∧ Aside0 (Kd.R k30 30 w' w.heap.size (fun _ => True) u157002 x157002_2) ∧ Aside0 (w'.heap[gb154]? = some (.cells #[.bool x155000_1, .bool x155001_1, (.slice none 0 0), .int .i64 x155003_1] 26 (0, 0))) ∧ Aside0 (w'.heap[gb156]? = some (.cells #[.bool false, .bool false, u157002, .int .i64 x157003_2] 26 (0, 0))) ∧ Aside0 (Below w.heap.size w w'))
        case atStart => exact ⟨(false), (0), (([] : List (S30))), (0), (.slice none 0 0), (by first | rfl | (simp; done) | (simp [*]; done)), (by first | rfl | (simp; done) | (simp [*]; done)), H', ⟨Nat.le_refl _⟩, ⟨by first | exact Kd.R_nil _ _ _ _ _ | exact Kd.N_nil _ _ _ _ _ | exact Kd.V_nil _ _ _ _ _ | exact Kd.Q_nil _ _ _ _ _ | exact Kd.S_nil _ _ _ _ _⟩, ⟨by (with_reducible repeat (first | refine blk_drewN ?_ _ | refine blk_drew ?_ | refine blk_alloc ?_ _)); refine blk_far ?_ NB154_156.out _; (with_reducible repeat (first | refine blk_drewN ?_ _ | refine blk_drew ?_ | refine blk_alloc ?_ _)); refine blk_far ?_ NB154_156.out _; (with_reducible repeat (first | refine blk_drewN ?_ _ | refine blk_drew ?_ | refine blk_alloc ?_ _)); refine blk_far ?_ NB154_156.out _; (with_reducible repeat (first | refine blk_drewN ?_ _ | refine blk_drew ?_ | refine blk_alloc ?_ _)); refine blk_far ?_ NB154_156.out _; (with_reducible repeat (first | refine blk_drewN ?_ _ | refine blk_drew ?_ | refine blk_alloc ?_ _)); exact BK154.out⟩, ⟨by (with_reducible repeat (first | refine blk_drewN ?_ _ | refine blk_drew ?_ | refine blk_alloc ?_ _)); refine blk_put (cs := #[.bool false, .bool false, .slice none 0 0, .int .i64 0]) ?_ 3 _ rfl; (with_reducible repeat (first | refine blk_drewN ?_ _ | refine blk_drew ?_ | refine blk_alloc ?_ _)); refine blk_put (cs := #[.bool false, .bool false, .slice none 0 0, .int .i64 0]) ?_ 2 _ rfl; (with_reducible repeat (first | refine blk_drewN ?_ _ | refine blk_drew ?_ | refine blk_alloc ?_ _)); refine blk_put (cs := #[.bool false, .bool false, .slice none 0 0, .int .i64 0]) ?_ 1 _ rfl; (with_reducible repeat (first | refine blk_drewN ?_ _ | refine blk_drew ?_ | refine blk_alloc ?_ _)); refine blk_put (cs := #[.bool false, .bool false, .slice none 0 0, .int .i64 0]) ?_ 0 _ rfl; (with_reducible repeat (first | refine blk_drewN ?_ _ | refine blk_drew ?_ | refine blk_alloc ?_ _)); exact BK156.out⟩, ⟨by repeat (first | (with_reducible first | exact HB.out | apply below_alloc | apply pw_below_drewN | apply below_drew1 | refine below_set ?_ GE154.out | refine below_set ?_ GE156.out) | exact HB.out)⟩⟩
        case round =>
          clear H'
          try clear c1
          try clear p2
          try clear c6
          try clear c6b0
          try clear c8
          try clear hcz9_0
          try clear hcz9_1
          try clear hcz9_2
          try clear hcz9_3
          try clear hfz9_0
          try clear hfz9_1
          try clear hfz9_2
          try clear hfz9_3
          try clear p2
          obtain ⟨x8_2, x9_2, x157002_2, x157003_2, u157002, rfl, rfl, HA, HK2, HO_157002, BK154, BK156, HB⟩ := hrel
          cases gk with
          | zero => exact absurd HA.out (by simp [decorumref09_Pick.l1])
          | succ k2 =>
            have H := HA.out
            clear HA
            simp only [decorumref09_Pick.l1] at H
            by_cases c10 : x9_2 < (l0.length : Int)
            · rw [if_pos c10] at H
              have c10b0 : decide (x9_2 < (l0.length : Int)) = true := decide_eq_true c10
              clear c10
              have H' := Aside0.mk H
              clear H
              go_wp2
              go_loopg [10, 11] k2 (fun kq v10 v11 w' => ∃ (x10_3 : Bool) (x11_3 : Int), v10 = .bool x10_3 ∧ v11 = .int .i64 x11_3 ∧ Aside0 (decorumref09_Pick.l2 kq l0 t155 x6_1 x8_2 x9_2 x10_3 x11_3 false false x157002_2 x157003_2 = some (r1, r2, r3, r4)) ∧ Aside0 (kq ≤ k2) ∧ Aside0 (Kd.R k30 30 w' w.heap.size (fun _ => True) u157002 x157002_2) ∧ Aside0 (w'.heap[gb154]? = some (.cells #[.bool x155000_1, .bool x155001_1, (.slice none 0 0), .int .i64 x155003_1] 26 (0, 0))) ∧ Aside0 (w'.heap[gb156]? = some (.cells #[.bool false, .bool false, u157002, .int .i64 x157003_2] 26 (0, 0))) ∧ Aside0 (Below w.heap.size w w'))
              case atStart => exact ⟨(false), (0), (by first | rfl | (simp; done) | (simp [*]; done)), (by first | rfl | (simp; done) | (simp [*]; done)), H', ⟨Nat.le_refl _⟩, ⟨by (with_reducible repeat (first | apply Kd.R_alloc | apply Kd.R_drewN | apply Kd.R_drew)); exact HO_157002.out⟩, ⟨by (with_reducible repeat (first | refine blk_drewN ?_ _ | refine blk_drew ?_ | refine blk_alloc ?_ _)); exact BK154.out⟩, ⟨by (with_reducible repeat (first | refine blk_drewN ?_ _ | refine blk_drew ?_ | refine blk_alloc ?_ _)); exact BK156.out⟩, ⟨by repeat (first | (with_reducible first | exact HB.out | apply below_alloc | apply pw_below_drewN | apply below_drew1 | refine below_set ?_ GE154.out | refine below_set ?_ GE156.out) | exact HB.out)⟩⟩
              case round =>
                clear H'
                try clear c1
                try clear p2
                try clear c6
                try clear c6b0
                try clear c8
                try clear c10
                try clear c10b0
                try clear hcz9_0
                try clear hcz9_1
                try clear hcz9_2
                try clear hcz9_3
                try clear hfz9_0
                try clear hfz9_1
                try clear hfz9_2
                try clear hfz9_3
                try clear p2
                obtain ⟨x10_3, x11_3, rfl, rfl, HA, HK3, HO_157002, BK154, BK156, HB⟩ := hrel
                cases gk with
                | zero => exact absurd HA.out (by simp [decorumref09_Pick.l2])
                | succ k3 =>
                  have H := HA.out
                  clear HA
                  simp only [decorumref09_Pick.l2] at H
                  by_cases c11 : 0 ≤ x9_2
                  · rw [if_pos c11] at H
                    have c11b0 : decide (0 ≤ x9_2) = true := decide_eq_true c11
                    clear c11
                    by_cases c12 : x9_2 < (l0.length : Int)
                    · rw [if_pos c12] at H
                      have c12b0 : decide (x9_2 < (l0.length : Int)) = true := decide_eq_true c12
                      clear c12
                      by_cases c13 : x11_3 < (((rd_T71 l0 x9_2).f0).length : Int)
                      · rw [if_pos c13] at H
                        have c13b0 : decide (x11_3 < (((rd_T71 l0 x9_2).f0).length : Int)) = true := decide_eq_true c13
                        clear c13
                        by_cases c14 : 0 ≤ x11_3
                        · rw [if_pos c14] at H
                          have c14b0 : decide (0 ≤ x11_3) = true := decide_eq_true c14
                          clear c14
                          by_cases c15 : x10_3 = true
                          · subst c15
                            have H1 : (decorumref09_Pick.l2 k3 l0 t155 x6_1 x8_2 x9_2 true (wrap64 (x11_3 + 1)) false false x157002_2 x157003_2) = some (r1, r2, r3, r4) := by rw [if_pos rfl] at H; exact H
                            clear H
                            have H := H1
                            clear H1
                            have H' := Aside0.mk H
                            clear H
                            have p157 : 0 ≤ (x9_2 : Int) := of_decide_eq_true (by first | (with_reducible assumption) | assumption)
                            have q157 : x9_2 < (l0.length : Int) := of_decide_eq_true (by first | (with_reducible assumption) | assumption)
                            obtain ⟨ad157, A157_0, c157_0, A157_1, c157_1, e157, hx157_0, hx157_1, hx157_2, hl157_0, hi157_0, hl157_1, hi157_1⟩ := at_T71 HR0.out x9_2 p157 q157
                            cases e157
                            replace hx157_0 := (HB.out.cell (World.block_lt_of_cell? w _ hx157_0)).trans hx157_0
                            replace hx157_1 := (HB.out.cell (World.block_lt_of_cell? w _ hx157_1)).trans hx157_1
                            replace hx157_2 := (HB.out.cell (World.block_lt_of_cell? w _ hx157_2)).trans hx157_2
                            have HR157_0 := Aside0.mk hi157_0
                            have HC157_0 := Aside0.mk hl157_0
                            clear hi157_0 hl157_0
                            have HR157_1 := Aside0.mk hi157_1
                            have HC157_1 := Aside0.mk hl157_1
                            clear hi157_1 hl157_1
                            replace p157 := eq_true p157
                            replace q157 := eq_true q157
                            have p158 : 0 ≤ (x9_2 : Int) := of_decide_eq_true (by first | (with_reducible assumption) | assumption)
                            have q158 : x9_2 < (l0.length : Int) := of_decide_eq_true (by first | (with_reducible assumption) | assumption)
                            obtain ⟨ad158, A158_0, c158_0, A158_1, c158_1, e158, hx158_0, hx158_1, hx158_2, hl158_0, hi158_0, hl158_1, hi158_1⟩ := at_T71 HR0.out x9_2 p158 q158
                            obtain rfl : ad157 = ad158 := (by injection e158)
                            replace hx158_0 := (HB.out.cell (World.block_lt_of_cell? w _ hx158_0)).trans hx158_0
                            replace hx158_1 := (HB.out.cell (World.block_lt_of_cell? w _ hx158_1)).trans hx158_1
                            replace hx158_2 := (HB.out.cell (World.block_lt_of_cell? w _ hx158_2)).trans hx158_2
                            have HR158_0 := Aside0.mk hi158_0
                            have HC158_0 := Aside0.mk hl158_0
                            clear hi158_0 hl158_0
                            have HR158_1 := Aside0.mk hi158_1
                            have HC158_1 := Aside0.mk hl158_1
                            clear hi158_1 hl158_1
                            replace p158 := eq_true p158
                            replace q158 := eq_true q158
                            have ea_ := Option.some.inj (hx157_0.symm.trans hx158_0)
                            injection ea_ with ea_ en_ ec_
                            subst ea_
                            subst ec_
                            clear en_
                            have ea_ := Option.some.inj (hx157_1.symm.trans hx158_1)
                            injection ea_ with ea_ en_ ec_
                            subst ea_
                            subst ec_
                            clear en_
                            have p159 : 0 ≤ (x11_3 : Int) := of_decide_eq_true (by first | (with_reducible assumption) | assumption)
                            have q159 : x11_3 < (((rd_T71 l0 x9_2).f0).length : Int) := of_decide_eq_true (by first | (with_reducible assumption) | assumption)
                            obtain ⟨ad159, e159, hx159_0⟩ := Kd.at_string HR158_0.out x11_3 p159 q159
                            cases e159
                            replace hx159_0 := (HB.out.cell (World.block_lt_of_cell? w _ hx159_0)).trans hx159_0
                            replace p159 := eq_true p159
                            replace q159 := eq_true q159
                            go_wp2
                            go_roundg k3
                            case measure => have := HK1.out; have := HK2.out; have := HK3.out; omega
                            case rel => exact ⟨(true), (wrap64 (x11_3 + 1)), (by first | rfl | (simp; done) | (simp [*]; done)), (by first | rfl | (simp; done) | (simp [*]; done)), H', ⟨by have := HK1.out; have := HK2.out; have := HK3.out; omega⟩, ⟨by (with_reducible repeat (first | apply Kd.R_alloc | apply Kd.R_drewN | apply Kd.R_drew)); exact HO_157002.out⟩, ⟨by (with_reducible repeat (first | refine blk_drewN ?_ _ | refine blk_drew ?_ | refine blk_alloc ?_ _)); exact BK154.out⟩, ⟨by (with_reducible repeat (first | refine blk_drewN ?_ _ | refine blk_drew ?_ | refine blk_alloc ?_ _)); exact BK156.out⟩, ⟨by repeat (first | (with_reducible first | exact HB.out | apply below_alloc | apply pw_below_drewN | apply below_drew1 | refine below_set ?_ GE154.out | refine below_set ?_ GE156.out) | exact HB.out)⟩⟩
                          · replace c15 := Bool.eq_false_iff.mpr c15
                            subst c15
                            have H1 : (if x6_1 = 0 then (if t155.toList = ([] : List UInt8) then (if x6_1 = 1 then (decorumref09_Pick.l2 k3 l0 t155 x6_1 x8_2 x9_2 ((rdOf ByteArray.empty ((rd_T71 l0 x9_2).f0) x11_3).toList == ([42] : List UInt8)) (wrap64 (x11_3 + 1)) false false x157002_2 x157003_2) else (decorumref09_Pick.l2 k3 l0 t155 x6_1 x8_2 x9_2 false (wrap64 (x11_3 + 1)) false false x157002_2 x157003_2)) else ((decorumref09_Token.f k3 (rdOf ByteArray.empty ((rd_T71 l0 x9_2).f0) x11_3)).bind fun t160 => (if t160.toList = t155.toList then (decorumref09_Pick.l2 k3 l0 t155 x6_1 x8_2 x9_2 true (wrap64 (x11_3 + 1)) false false x157002_2 x157003_2) else (if x6_1 = 1 then (decorumref09_Pick.l2 k3 l0 t155 x6_1 x8_2 x9_2 ((rdOf ByteArray.empty ((rd_T71 l0 x9_2).f0) x11_3).toList == ([42] : List UInt8)) (wrap64 (x11_3 + 1)) false false x157002_2 x157003_2) else (decorumref09_Pick.l2 k3 l0 t155 x6_1 x8_2 x9_2 false (wrap64 (x11_3 + 1)) false false x157002_2 x157003_2))))) else (if x6_1 = 1 then (decorumref09_Pick.l2 k3 l0 t155 x6_1 x8_2 x9_2 ((rdOf ByteArray.empty ((rd_T71 l0 x9_2).f0) x11_3).toList == ([42] : List UInt8)) (wrap64 (x11_3 + 1)) false false x157002_2 x157003_2) else (decorumref09_Pick.l2 k3 l0 t155 x6_1 x8_2 x9_2 false (wrap64 (x11_3 + 1)) false false x157002_2 x157003_2))) = some (r1, r2, r3, r4) := by rw [if_neg (show ¬ (false = true) by decide)] at H; exact H
                            clear H
                            have H := H1
                            clear H1
                            by_cases c16 : x6_1 = 0
                            · rw [if_pos c16] at H
                              have c16b0 : (x6_1 == 0) = true := beq_iff_eq.mpr c16
                              have c16b1 : (x6_1 != 0) = false := bne_eq_false_iff_eq.mpr c16
                              clear c16
                              by_cases c17 : t155.toList = ([] : List UInt8)
                              · rw [if_pos c17] at H
                                have c17b0 : (t155.toList == ([] : List UInt8)) = true := beq_iff_eq.mpr c17
                                have c17b1 : (t155.toList != ([] : List UInt8)) = false := bne_eq_false_iff_eq.mpr c17
                                clear c17
                                by_cases c18 : x6_1 = 1
                                · rw [if_pos c18] at H
                                  have c18b0 : (x6_1 == 1) = true := beq_iff_eq.mpr c18
                                  have c18b1 : (x6_1 != 1) = false := bne_eq_false_iff_eq.mpr c18
                                  clear c18
                                  have H' := Aside0.mk H
                                  clear H
                                  have p157 : 0 ≤ (x9_2 : Int) := of_decide_eq_true (by first | (with_reducible assumption) | assumption)
                                  have q157 : x9_2 < (l0.length : Int) := of_decide_eq_true (by first | (with_reducible assumption) | assumption)
                                  obtain ⟨ad157, A157_0, c157_0, A157_1, c157_1, e157, hx157_0, hx157_1, hx157_2, hl157_0, hi157_0, hl157_1, hi157_1⟩ := at_T71 HR0.out x9_2 p157 q157
                                  cases e157
                                  replace hx157_0 := (HB.out.cell (World.block_lt_of_cell? w _ hx157_0)).trans hx157_0
                                  replace hx157_1 := (HB.out.cell (World.block_lt_of_cell? w _ hx157_1)).trans hx157_1
                                  replace hx157_2 := (HB.out.cell (World.block_lt_of_cell? w _ hx157_2)).trans hx157_2
                                  have HR157_0 := Aside0.mk hi157_0
                                  have HC157_0 := Aside0.mk hl157_0
                                  clear hi157_0 hl157_0
                                  have HR157_1 := Aside0.mk hi157_1
                                  have HC157_1 := Aside0.mk hl157_1
                                  clear hi157_1 hl157_1
                                  replace p157 := eq_true p157
                                  replace q157 := eq_true q157
                                  have p158 : 0 ≤ (x9_2 : Int) := of_decide_eq_true (by first | (with_reducible assumption) | assumption)
                                  have q158 : x9_2 < (l0.length : Int) := of_decide_eq_true (by first | (with_reducible assumption) | assumption)
                                  obtain ⟨ad158, A158_0, c158_0, A158_1, c158_1, e158, hx158_0, hx158_1, hx158_2, hl158_0, hi158_0, hl158_1, hi158_1⟩ := at_T71 HR0.out x9_2 p158 q158
                                  obtain rfl : ad157 = ad158 := (by injection e158)
                                  replace hx158_0 := (HB.out.cell (World.block_lt_of_cell? w _ hx158_0)).trans hx158_0
                                  replace hx158_1 := (HB.out.cell (World.block_lt_of_cell? w _ hx158_1)).trans hx158_1
                                  replace hx158_2 := (HB.out.cell (World.block_lt_of_cell? w _ hx158_2)).trans hx158_2
                                  have HR158_0 := Aside0.mk hi158_0
                                  have HC158_0 := Aside0.mk hl158_0
                                  clear hi158_0 hl158_0
                                  have HR158_1 := Aside0.mk hi158_1
                                  have HC158_1 := Aside0.mk hl158_1
                                  clear hi158_1 hl158_1
                                  replace p158 := eq_true p158
                                  replace q158 := eq_true q158
                                  have ea_ := Option.some.inj (hx157_0.symm.trans hx158_0)
                                  injection ea_ with ea_ en_ ec_
                                  subst ea_
                                  subst ec_
                                  clear en_
                                  have ea_ := Option.some.inj (hx157_1.symm.trans hx158_1)
                                  injection ea_ with ea_ en_ ec_
                                  subst ea_
                                  subst ec_
                                  clear en_
                                  have p159 : 0 ≤ (x11_3 : Int) := of_decide_eq_true (by first | (with_reducible assumption) | assumption)
                                  have q159 : x11_3 < (((rd_T71 l0 x9_2).f0).length : Int) := of_decide_eq_true (by first | (with_reducible assumption) | assumption)
                                  obtain ⟨ad159, e159, hx159_0⟩ := Kd.at_string HR158_0.out x11_3 p159 q159
                                  cases e159
                                  replace hx159_0 := (HB.out.cell (World.block_lt_of_cell? w _ hx159_0)).trans hx159_0
                                  replace p159 := eq_true p159
                                  replace q159 := eq_true q159
                                  go_wp2
                                  go_roundg k3
                                  case measure => have := HK1.out; have := HK2.out; have := HK3.out; omega
                                  case rel => exact ⟨(((rdOf ByteArray.empty ((rd_T71 l0 x9_2).f0) x11_3).toList == ([42] : List UInt8))), (wrap64 (x11_3 + 1)), (by first | rfl | (simp; done) | (simp [*]; done)), (by first | rfl | (simp; done) | (simp [*]; done)), H', ⟨by have := HK1.out; have := HK2.out; have := HK3.out; omega⟩, ⟨by (with_reducible repeat (first | apply Kd.R_alloc | apply Kd.R_drewN | apply Kd.R_drew)); exact HO_157002.out⟩, ⟨by (with_reducible repeat (first | refine blk_drewN ?_ _ | refine blk_drew ?_ | refine blk_alloc ?_ _)); exact BK154.out⟩, ⟨by (with_reducible repeat (first | refine blk_drewN ?_ _ | refine blk_drew ?_ | refine blk_alloc ?_ _)); exact BK156.out⟩, ⟨by repeat (first | (with_reducible first | exact HB.out | apply below_alloc | apply pw_below_drewN | apply below_drew1 | refine below_set ?_ GE154.out | refine below_set ?_ GE156.out) | exact HB.out)⟩⟩
                                · rw [if_neg c18] at H
                                  have c18b0 : (x6_1 == 1) = false := beq_eq_false_iff_ne.mpr c18
                                  have c18b1 : (x6_1 != 1) = true := bne_iff_ne.mpr c18
                                  have H' := Aside0.mk H
                                  clear H
                                  have p157 : 0 ≤ (x9_2 : Int) := of_decide_eq_true (by first | (with_reducible assumption) | assumption)
                                  have q157 : x9_2 < (l0.length : Int) := of_decide_eq_true (by first | (with_reducible assumption) | assumption)
                                  obtain ⟨ad157, A157_0, c157_0, A157_1, c157_1, e157, hx157_0, hx157_1, hx157_2, hl157_0, hi157_0, hl157_1, hi157_1⟩ := at_T71 HR0.out x9_2 p157 q157
                                  cases e157
                                  replace hx157_0 := (HB.out.cell (World.block_lt_of_cell? w _ hx157_0)).trans hx157_0
                                  replace hx157_1 := (HB.out.cell (World.block_lt_of_cell? w _ hx157_1)).trans hx157_1
                                  replace hx157_2 := (HB.out.cell (World.block_lt_of_cell? w _ hx157_2)).trans hx157_2
                                  have HR157_0 := Aside0.mk hi157_0
                                  have HC157_0 := Aside0.mk hl157_0
                                  clear hi157_0 hl157_0
                                  have HR157_1 := Aside0.mk hi157_1
                                  have HC157_1 := Aside0.mk hl157_1
                                  clear hi157_1 hl157_1
                                  replace p157 := eq_true p157
                                  replace q157 := eq_true q157
                                  have p158 : 0 ≤ (x9_2 : Int) := of_decide_eq_true (by first | (with_reducible assumption) | assumption)
                                  have q158 : x9_2 < (l0.length : Int) := of_decide_eq_true (by first | (with_reducible assumption) | assumption)
                                  obtain ⟨ad158, A158_0, c158_0, A158_1, c158_1, e158, hx158_0, hx158_1, hx158_2, hl158_0, hi158_0, hl158_1, hi158_1⟩ := at_T71 HR0.out x9_2 p158 q158
                                  obtain rfl : ad157 = ad158 := (by injection e158)
                                  replace hx158_0 := (HB.out.cell (World.block_lt_of_cell? w _ hx158_0)).trans hx158_0
                                  replace hx158_1 := (HB.out.cell (World.block_lt_of_cell? w _ hx158_1)).trans hx158_1
                                  replace hx158_2 := (HB.out.cell (World.block_lt_of_cell? w _ hx158_2)).trans hx158_2
                                  have HR158_0 := Aside0.mk hi158_0
                                  have HC158_0 := Aside0.mk hl158_0
                                  clear hi158_0 hl158_0
                                  have HR158_1 := Aside0.mk hi158_1
                                  have HC158_1 := Aside0.mk hl158_1
                                  clear hi158_1 hl158_1
                                  replace p158 := eq_true p158
                                  replace q158 := eq_true q158
                                  have ea_ := Option.some.inj (hx157_0.symm.trans hx158_0)
                                  injection ea_ with ea_ en_ ec_
                                  subst ea_
                                  subst ec_
                                  clear en_
                                  have ea_ := Option.some.inj (hx157_1.symm.trans hx158_1)
                                  injection ea_ with ea_ en_ ec_
                                  subst ea_
                                  subst ec_
                                  clear en_
                                  have p159 : 0 ≤ (x11_3 : Int) := of_decide_eq_true (by first | (with_reducible assumption) | assumption)
                                  have q159 : x11_3 < (((rd_T71 l0 x9_2).f0).length : Int) := of_decide_eq_true (by first | (with_reducible assumption) | assumption)
                                  obtain ⟨ad159, e159, hx159_0⟩ := Kd.at_string HR158_0.out x11_3 p159 q159
                                  cases e159
                                  replace hx159_0 := (HB.out.cell (World.block_lt_of_cell? w _ hx159_0)).trans hx159_0
                                  replace p159 := eq_true p159
                                  replace q159 := eq_true q159
                                  go_wp2
                                  go_roundg k3
                                  case measure => have := HK1.out; have := HK2.out; have := HK3.out; omega
                                  case rel => exact ⟨(false), (wrap64 (x11_3 + 1)), (by first | rfl | (simp; done) | (simp [*]; done)), (by first | rfl | (simp; done) | (simp [*]; done)), H', ⟨by have := HK1.out; have := HK2.out; have := HK3.out; omega⟩, ⟨by (with_reducible repeat (first | apply Kd.R_alloc | apply Kd.R_drewN | apply Kd.R_drew)); exact HO_157002.out⟩, ⟨by (with_reducible repeat (first | refine blk_drewN ?_ _ | refine blk_drew ?_ | refine blk_alloc ?_ _)); exact BK154.out⟩, ⟨by (with_reducible repeat (first | refine blk_drewN ?_ _ | refine blk_drew ?_ | refine blk_alloc ?_ _)); exact BK156.out⟩, ⟨by repeat (first | (with_reducible first | exact HB.out | apply below_alloc | apply pw_below_drewN | apply below_drew1 | refine below_set ?_ GE154.out | refine below_set ?_ GE156.out) | exact HB.out)⟩⟩
                              · rw [if_neg c17] at H
                                have c17b0 : (t155.toList == ([] : List UInt8)) = false := beq_eq_false_iff_ne.mpr c17
                                have c17b1 : (t155.toList != ([] : List UInt8)) = true := bne_iff_ne.mpr c17
                                replace H := Option.bind_eq_some_iff.mp H
                                obtain ⟨t160, A190, H⟩ := H
                                replace H : (if t160.toList = t155.toList then (decorumref09_Pick.l2 k3 l0 t155 x6_1 x8_2 x9_2 true (wrap64 (x11_3 + 1)) false false x157002_2 x157003_2) else (if x6_1 = 1 then (decorumref09_Pick.l2 k3 l0 t155 x6_1 x8_2 x9_2 ((rdOf ByteArray.empty ((rd_T71 l0 x9_2).f0) x11_3).toList == ([42] : List UInt8)) (wrap64 (x11_3 + 1)) false false x157002_2 x157003_2) else (decorumref09_Pick.l2 k3 l0 t155 x6_1 x8_2 x9_2 false (wrap64 (x11_3 + 1)) false false x157002_2 x157003_2))) = some (r1, r2, r3, r4) := H
                                have A19 := Aside0.mk A190
                                clear A190
                                by_cases c20 : t160.toList = t155.toList
                                · rw [if_pos c20] at H
                                  have c20b0 : (t160.toList == t155.toList) = true := beq_iff_eq.mpr c20
                                  have c20b1 : (t160.toList != t155.toList) = false := bne_eq_false_iff_eq.mpr c20
                                  clear c20
                                  have H' := Aside0.mk H
                                  clear H
                                  have p157 : 0 ≤ (x9_2 : Int) := of_decide_eq_true (by first | (with_reducible assumption) | assumption)
                                  have q157 : x9_2 < (l0.length : Int) := of_decide_eq_true (by first | (with_reducible assumption) | assumption)
                                  obtain ⟨ad157, A157_0, c157_0, A157_1, c157_1, e157, hx157_0, hx157_1, hx157_2, hl157_0, hi157_0, hl157_1, hi157_1⟩ := at_T71 HR0.out x9_2 p157 q157
                                  cases e157
                                  replace hx157_0 := (HB.out.cell (World.block_lt_of_cell? w _ hx157_0)).trans hx157_0
                                  replace hx157_1 := (HB.out.cell (World.block_lt_of_cell? w _ hx157_1)).trans hx157_1
                                  replace hx157_2 := (HB.out.cell (World.block_lt_of_cell? w _ hx157_2)).trans hx157_2
                                  have HR157_0 := Aside0.mk hi157_0
                                  have HC157_0 := Aside0.mk hl157_0
                                  clear hi157_0 hl157_0
                                  have HR157_1 := Aside0.mk hi157_1
                                  have HC157_1 := Aside0.mk hl157_1
                                  clear hi157_1 hl157_1
                                  replace p157 := eq_true p157
                                  replace q157 := eq_true q157
                                  have p158 : 0 ≤ (x9_2 : Int) := of_decide_eq_true (by first | (with_reducible assumption) | assumption)
                                  have q158 : x9_2 < (l0.length : Int) := of_decide_eq_true (by first | (with_reducible assumption) | assumption)
                                  obtain ⟨ad158, A158_0, c158_0, A158_1, c158_1, e158, hx158_0, hx158_1, hx158_2, hl158_0, hi158_0, hl158_1, hi158_1⟩ := at_T71 HR0.out x9_2 p158 q158
                                  obtain rfl : ad157 = ad158 := (by injection e158)
                                  replace hx158_0 := (HB.out.cell (World.block_lt_of_cell? w _ hx158_0)).trans hx158_0
                                  replace hx158_1 := (HB.out.cell (World.block_lt_of_cell? w _ hx158_1)).trans hx158_1
                                  replace hx158_2 := (HB.out.cell (World.block_lt_of_cell? w _ hx158_2)).trans hx158_2
                                  have HR158_0 := Aside0.mk hi158_0
                                  have HC158_0 := Aside0.mk hl158_0
                                  clear hi158_0 hl158_0
                                  have HR158_1 := Aside0.mk hi158_1
                                  have HC158_1 := Aside0.mk hl158_1
                                  clear hi158_1 hl158_1
                                  replace p158 := eq_true p158
                                  replace q158 := eq_true q158
                                  have ea_ := Option.some.inj (hx157_0.symm.trans hx158_0)
                                  injection ea_ with ea_ en_ ec_
                                  subst ea_
                                  subst ec_
                                  clear en_
                                  have ea_ := Option.some.inj (hx157_1.symm.trans hx158_1)
                                  injection ea_ with ea_ en_ ec_
                                  subst ea_
                                  subst ec_
                                  clear en_
                                  have p159 : 0 ≤ (x11_3 : Int) := of_decide_eq_true (by first | (with_reducible assumption) | assumption)
                                  have q159 : x11_3 < (((rd_T71 l0 x9_2).f0).length : Int) := of_decide_eq_true (by first | (with_reducible assumption) | assumption)
                                  obtain ⟨ad159, e159, hx159_0⟩ := Kd.at_string HR158_0.out x11_3 p159 q159
                                  cases e159
                                  replace hx159_0 := (HB.out.cell (World.block_lt_of_cell? w _ hx159_0)).trans hx159_0
                                  replace p159 := eq_true p159
                                  replace q159 := eq_true q159
                                  go_wp2_with (first | (go_at_call 15; (with_reducible refine (decorumref09_Token.calls k3 (rdOf ByteArray.empty ((rd_T71 l0 x9_2).f0) x11_3) t160 _ A19.out).mono ?_); rintro e w21 ⟨rfl, hb⟩; have n0_ := Aside0.mk (Kd.R_below (by (with_reducible repeat (first | apply Kd.R_alloc | apply Kd.R_drewN | apply Kd.R_drew)); exact HO_157002.out) hb); have n1_ := Aside0.mk (blk_below (g := gb154) (o := .cells #[.bool x155000_1, .bool x155001_1, .slice none 0 0, .int .i64 x155003_1] 26 (0, 0)) (by (with_reducible repeat (first | refine blk_drewN ?_ _ | refine blk_drew ?_ | refine blk_alloc ?_ _)); exact BK154.out) hb); have n2_ := Aside0.mk (blk_below (g := gb156) (o := .cells #[.bool false, .bool false, u157002, .int .i64 x157003_2] 26 (0, 0)) (by (with_reducible repeat (first | refine blk_drewN ?_ _ | refine blk_drew ?_ | refine blk_alloc ?_ _)); exact BK156.out) hb); have n3_ := Aside0.mk (below_step (by repeat (first | (with_reducible first | exact HB.out | apply below_alloc | apply pw_below_drewN | apply below_drew1 | refine below_set ?_ GE154.out | refine below_set ?_ GE156.out) | exact HB.out)) hb); clear HO_157002; clear BK154; clear BK156; clear HB; have HO_157002 := n0_; have BK154 := n1_; have BK156 := n2_; have HB := n3_; clear n0_ n1_ n2_ n3_; (try clear hb); (try clear hb2); (try clear hk); (try clear hi)))
                                  go_roundg k3
                                  case measure => have := HK1.out; have := HK2.out; have := HK3.out; omega
                                  case rel => exact ⟨(true), (wrap64 (x11_3 + 1)), (by first | rfl | (simp; done) | (simp [*]; done)), (by first | rfl | (simp; done) | (simp [*]; done)), H', ⟨by have := HK1.out; have := HK2.out; have := HK3.out; omega⟩, ⟨by (with_reducible repeat (first | apply Kd.R_alloc | apply Kd.R_drewN | apply Kd.R_drew)); exact HO_157002.out⟩, ⟨by (with_reducible repeat (first | refine blk_drewN ?_ _ | refine blk_drew ?_ | refine blk_alloc ?_ _)); exact BK154.out⟩, ⟨by (with_reducible repeat (first | refine blk_drewN ?_ _ | refine blk_drew ?_ | refine blk_alloc ?_ _)); exact BK156.out⟩, ⟨by repeat (first | (with_reducible first | exact HB.out | apply below_alloc | apply pw_below_drewN | apply below_drew1 | refine below_set ?_ GE154.out | refine below_set ?_ GE156.out) | exact HB.out)⟩⟩
                                · rw [if_neg c20] at H
                                  have c20b0 : (t160.toList == t155.toList) = false := beq_eq_false_iff_ne.mpr c20
                                  have c20b1 : (t160.toList != t155.toList) = true := bne_iff_ne.mpr c20
                                  by_cases c22 : x6_1 = 1
                                  · rw [if_pos c22] at H
                                    have c22b0 : (x6_1 == 1) = true := beq_iff_eq.mpr c22
                                    have c22b1 : (x6_1 != 1) = false := bne_eq_false_iff_eq.mpr c22
                                    clear c22
                                    have H' := Aside0.mk H
                                    clear H
                                    have p157 : 0 ≤ (x9_2 : Int) := of_decide_eq_true (by first | (with_reducible assumption) | assumption)
                                    have q157 : x9_2 < (l0.length : Int) := of_decide_eq_true (by first | (with_reducible assumption) | assumption)
                                    obtain ⟨ad157, A157_0, c157_0, A157_1, c157_1, e157, hx157_0, hx157_1, hx157_2, hl157_0, hi157_0, hl157_1, hi157_1⟩ := at_T71 HR0.out x9_2 p157 q157
                                    cases e157
                                    replace hx157_0 := (HB.out.cell (World.block_lt_of_cell? w _ hx157_0)).trans hx157_0
                                    replace hx157_1 := (HB.out.cell (World.block_lt_of_cell? w _ hx157_1)).trans hx157_1
                                    replace hx157_2 := (HB.out.cell (World.block_lt_of_cell? w _ hx157_2)).trans hx157_2
                                    have HR157_0 := Aside0.mk hi157_0
                                    have HC157_0 := Aside0.mk hl157_0
                                    clear hi157_0 hl157_0
                                    have HR157_1 := Aside0.mk hi157_1
                                    have HC157_1 := Aside0.mk hl157_1
                                    clear hi157_1 hl157_1
                                    replace p157 := eq_true p157
                                    replace q157 := eq_true q157
                                    have p158 : 0 ≤ (x9_2 : Int) := of_decide_eq_true (by first | (with_reducible assumption) | assumption)
                                    have q158 : x9_2 < (l0.length : Int) := of_decide_eq_true (by first | (with_reducible assumption) | assumption)
                                    obtain ⟨ad158, A158_0, c158_0, A158_1, c158_1, e158, hx158_0, hx158_1, hx158_2, hl158_0, hi158_0, hl158_1, hi158_1⟩ := at_T71 HR0.out x9_2 p158 q158
                                    obtain rfl : ad157 = ad158 := (by injection e158)
                                    replace hx158_0 := (HB.out.cell (World.block_lt_of_cell? w _ hx158_0)).trans hx158_0
                                    replace hx158_1 := (HB.out.cell (World.block_lt_of_cell? w _ hx158_1)).trans hx158_1
                                    replace hx158_2 := (HB.out.cell (World.block_lt_of_cell? w _ hx158_2)).trans hx158_2
                                    have HR158_0 := Aside0.mk hi158_0
                                    have HC158_0 := Aside0.mk hl158_0
                                    clear hi158_0 hl158_0
                                    have HR158_1 := Aside0.mk hi158_1
                                    have HC158_1 := Aside0.mk hl158_1
                                    clear hi158_1 hl158_1
                                    replace p158 := eq_true p158
                                    replace q158 := eq_true q158
                                    have ea_ := Option.some.inj (hx157_0.symm.trans hx158_0)
                                    injection ea_ with ea_ en_ ec_
                                    subst ea_
                                    subst ec_
                                    clear en_
                                    have ea_ := Option.some.inj (hx157_1.symm.trans hx158_1)
                                    injection ea_ with ea_ en_ ec_
                                    subst ea_
                                    subst ec_
                                    clear en_
                                    have p159 : 0 ≤ (x11_3 : Int) := of_decide_eq_true (by first | (with_reducible assumption) | assumption)
                                    have q159 : x11_3 < (((rd_T71 l0 x9_2).f0).length : Int) := of_decide_eq_true (by first | (with_reducible assumption) | assumption)
                                    obtain ⟨ad159, e159, hx159_0⟩ := Kd.at_string HR158_0.out x11_3 p159 q159
                                    cases e159
                                    replace hx159_0 := (HB.out.cell (World.block_lt_of_cell? w _ hx159_0)).trans hx159_0
                                    replace p159 := eq_true p159
                                    replace q159 := eq_true q159
                                    go_wp2_with (first | (go_at_call 15; (with_reducible refine (decorumref09_Token.calls k3 (rdOf ByteArray.empty ((rd_T71 l0 x9_2).f0) x11_3) t160 _ A19.out).mono ?_); rintro e w23 ⟨rfl, hb⟩; have n0_ := Aside0.mk (Kd.R_below (by (with_reducible repeat (first | apply Kd.R_alloc | apply Kd.R_drewN | apply Kd.R_drew)); exact HO_157002.out) hb); have n1_ := Aside0.mk (blk_below (g := gb154) (o := .cells #[.bool x155000_1, .bool x155001_1, .slice none 0 0, .int .i64 x155003_1] 26 (0, 0)) (by (with_reducible repeat (first | refine blk_drewN ?_ _ | refine blk_drew ?_ | refine blk_alloc ?_ _)); exact BK154.out) hb); have n2_ := Aside0.mk (blk_below (g := gb156) (o := .cells #[.bool false, .bool false, u157002, .int .i64 x157003_2] 26 (0, 0)) (by (with_reducible repeat (first | refine blk_drewN ?_ _ | refine blk_drew ?_ | refine blk_alloc ?_ _)); exact BK156.out) hb); have n3_ := Aside0.mk (below_step (by repeat (first | (with_reducible first | exact HB.out | apply below_alloc | apply pw_below_drewN | apply below_drew1 | refine below_set ?_ GE154.out | refine below_set ?_ GE156.out) | exact HB.out)) hb); clear HO_157002; clear BK154; clear BK156; clear HB; have HO_157002 := n0_; have BK154 := n1_; have BK156 := n2_; have HB := n3_; clear n0_ n1_ n2_ n3_; (try clear hb); (try clear hb2); (try clear hk); (try clear hi)))
                                    go_roundg k3
                                    case measure => have := HK1.out; have := HK2.out; have := HK3.out; omega
                                    case rel => exact ⟨(((rdOf ByteArray.empty ((rd_T71 l0 x9_2).f0) x11_3).toList == ([42] : List UInt8))), (wrap64 (x11_3 + 1)), (by first | rfl | (simp; done) | (simp [*]; done)), (by first | rfl | (simp; done) | (simp [*]; done)), H', ⟨by have := HK1.out; have := HK2.out; have := HK3.out; omega⟩, ⟨by (with_reducible repeat (first | apply Kd.R_alloc | apply Kd.R_drewN | apply Kd.R_drew)); exact HO_157002.out⟩, ⟨by (with_reducible repeat (first | refine blk_drewN ?_ _ | refine blk_drew ?_ | refine blk_alloc ?_ _)); exact BK154.out⟩, ⟨by (with_reducible repeat (first | refine blk_drewN ?_ _ | refine blk_drew ?_ | refine blk_alloc ?_ _)); exact BK156.out⟩, ⟨by repeat (first | (with_reducible first | exact HB.out | apply below_alloc | apply pw_below_drewN | apply below_drew1 | refine below_set ?_ GE154.out | refine below_set ?_ GE156.out) | exact HB.out)⟩⟩
                                  · rw [if_neg c22] at H
                                    have c22b0 : (x6_1 == 1) = false := beq_eq_false_iff_ne.mpr c22
                                    have c22b1 : (x6_1 != 1) = true := bne_iff_ne.mpr c22
                                    have H' := Aside0.mk H
                                    clear H
                                    have p157 : 0 ≤ (x9_2 : Int) := of_decide_eq_true (by first | (with_reducible assumption) | assumption)
                                    have q157 : x9_2 < (l0.length : Int) := of_decide_eq_true (by first | (with_reducible assumption) | assumption)
                                    obtain ⟨ad157, A157_0, c157_0, A157_1, c157_1, e157, hx157_0, hx157_1, hx157_2, hl157_0, hi157_0, hl157_1, hi157_1⟩ := at_T71 HR0.out x9_2 p157 q157
                                    cases e157
                                    replace hx157_0 := (HB.out.cell (World.block_lt_of_cell? w _ hx157_0)).trans hx157_0
                                    replace hx157_1 := (HB.out.cell (World.block_lt_of_cell? w _ hx157_1)).trans hx157_1
                                    replace hx157_2 := (HB.out.cell (World.block_lt_of_cell? w _ hx157_2)).trans hx157_2
                                    have HR157_0 := Aside0.mk hi157_0
                                    have HC157_0 := Aside0.mk hl157_0
                                    clear hi157_0 hl157_0
                                    have HR157_1 := Aside0.mk hi157_1
                                    have HC157_1 := Aside0.mk hl157_1
                                    clear hi157_1 hl157_1
                                    replace p157 := eq_true p157
                                    replace q157 := eq_true q157
                                    have p158 : 0 ≤ (x9_2 : Int) := of_decide_eq_true (by first | (with_reducible assumption) | assumption)
                                    have q158 : x9_2 < (l0.length : Int) := of_decide_eq_true (by first | (with_reducible assumption) | assumption)
                                    obtain ⟨ad158, A158_0, c158_0, A158_1, c158_1, e158, hx158_0, hx158_1, hx158_2, hl158_0, hi158_0, hl158_1, hi158_1⟩ := at_T71 HR0.out x9_2 p158 q158
                                    obtain rfl : ad157 = ad158 := (by injection e158)
                                    replace hx158_0 := (HB.out.cell (World.block_lt_of_cell? w _ hx158_0)).trans hx158_0
                                    replace hx158_1 := (HB.out.cell (World.block_lt_of_cell? w _ hx158_1)).trans hx158_1
                                    replace hx158_2 := (HB.out.cell (World.block_lt_of_cell? w _ hx158_2)).trans hx158_2
                                    have HR158_0 := Aside0.mk hi158_0
                                    have HC158_0 := Aside0.mk hl158_0
                                    clear hi158_0 hl158_0
                                    have HR158_1 := Aside0.mk hi158_1
                                    have HC158_1 := Aside0.mk hl158_1
                                    clear hi158_1 hl158_1
                                    replace p158 := eq_true p158
                                    replace q158 := eq_true q158
                                    have ea_ := Option.some.inj (hx157_0.symm.trans hx158_0)
                                    injection ea_ with ea_ en_ ec_
                                    subst ea_
                                    subst ec_
                                    clear en_
                                    have ea_ := Option.some.inj (hx157_1.symm.trans hx158_1)
                                    injection ea_ with ea_ en_ ec_
                                    subst ea_
                                    subst ec_
                                    clear en_
                                    have p159 : 0 ≤ (x11_3 : Int) := of_decide_eq_true (by first | (with_reducible assumption) | assumption)
                                    have q159 : x11_3 < (((rd_T71 l0 x9_2).f0).length : Int) := of_decide_eq_true (by first | (with_reducible assumption) | assumption)
                                    obtain ⟨ad159, e159, hx159_0⟩ := Kd.at_string HR158_0.out x11_3 p159 q159
                                    cases e159
                                    replace hx159_0 := (HB.out.cell (World.block_lt_of_cell? w _ hx159_0)).trans hx159_0
                                    replace p159 := eq_true p159
                                    replace q159 := eq_true q159
                                    go_wp2_with (first | (go_at_call 15; (with_reducible refine (decorumref09_Token.calls k3 (rdOf ByteArray.empty ((rd_T71 l0 x9_2).f0) x11_3) t160 _ A19.out).mono ?_); rintro e w24 ⟨rfl, hb⟩; have n0_ := Aside0.mk (Kd.R_below (by (with_reducible repeat (first | apply Kd.R_alloc | apply Kd.R_drewN | apply Kd.R_drew)); exact HO_157002.out) hb); have n1_ := Aside0.mk (blk_below (g := gb154) (o := .cells #[.bool x155000_1, .bool x155001_1, .slice none 0 0, .int .i64 x155003_1] 26 (0, 0)) (by (with_reducible repeat (first | refine blk_drewN ?_ _ | refine blk_drew ?_ | refine blk_alloc ?_ _)); exact BK154.out) hb); have n2_ := Aside0.mk (blk_below (g := gb156) (o := .cells #[.bool false, .bool false, u157002, .int .i64 x157003_2] 26 (0, 0)) (by (with_reducible repeat (first | refine blk_drewN ?_ _ | refine blk_drew ?_ | refine blk_alloc ?_ _)); exact BK156.out) hb); have n3_ := Aside0.mk (below_step (by repeat (first | (with_reducible first | exact HB.out | apply below_alloc | apply pw_below_drewN | apply below_drew1 | refine below_set ?_ GE154.out | refine below_set ?_ GE156.out) | exact HB.out)) hb); clear HO_157002; clear BK154; clear BK156; clear HB; have HO_157002 := n0_; have BK154 := n1_; have BK156 := n2_; have HB := n3_; clear n0_ n1_ n2_ n3_; (try clear hb); (try clear hb2); (try clear hk); (try clear hi)))
                                    go_roundg k3
                                    case measure => have := HK1.out; have := HK2.out; have := HK3.out; omega
                                    case rel => exact ⟨(false), (wrap64 (x11_3 + 1)), (by first | rfl | (simp; done) | (simp [*]; done)), (by first | rfl | (simp; done) | (simp [*]; done)), H', ⟨by have := HK1.out; have := HK2.out; have := HK3.out; omega⟩, ⟨by (with_reducible repeat (first | apply Kd.R_alloc | apply Kd.R_drewN | apply Kd.R_drew)); exact HO_157002.out⟩, ⟨by (with_reducible repeat (first | refine blk_drewN ?_ _ | refine blk_drew ?_ | refine blk_alloc ?_ _)); exact BK154.out⟩, ⟨by (with_reducible repeat (first | refine blk_drewN ?_ _ | refine blk_drew ?_ | refine blk_alloc ?_ _)); exact BK156.out⟩, ⟨by repeat (first | (with_reducible first | exact HB.out | apply below_alloc | apply pw_below_drewN | apply below_drew1 | refine below_set ?_ GE154.out | refine below_set ?_ GE156.out) | exact HB.out)⟩⟩
                            · rw [if_neg c16] at H
                              have c16b0 : (x6_1 == 0) = false := beq_eq_false_iff_ne.mpr c16
                              have c16b1 : (x6_1 != 0) = true := bne_iff_ne.mpr c16
                              by_cases c25 : x6_1 = 1
                              · rw [if_pos c25] at H
                                have c25b0 : (x6_1 == 1) = true := beq_iff_eq.mpr c25
                                have c25b1 : (x6_1 != 1) = false := bne_eq_false_iff_eq.mpr c25
                                clear c25
                                have H' := Aside0.mk H
                                clear H
                                have p157 : 0 ≤ (x9_2 : Int) := of_decide_eq_true (by first | (with_reducible assumption) | assumption)
                                have q157 : x9_2 < (l0.length : Int) := of_decide_eq_true (by first | (with_reducible assumption) | assumption)
                                obtain ⟨ad157, A157_0, c157_0, A157_1, c157_1, e157, hx157_0, hx157_1, hx157_2, hl157_0, hi157_0, hl157_1, hi157_1⟩ := at_T71 HR0.out x9_2 p157 q157
                                cases e157
                                replace hx157_0 := (HB.out.cell (World.block_lt_of_cell? w _ hx157_0)).trans hx157_0
                                replace hx157_1 := (HB.out.cell (World.block_lt_of_cell? w _ hx157_1)).trans hx157_1
                                replace hx157_2 := (HB.out.cell (World.block_lt_of_cell? w _ hx157_2)).trans hx157_2
                                have HR157_0 := Aside0.mk hi157_0
                                have HC157_0 := Aside0.mk hl157_0
                                clear hi157_0 hl157_0
                                have HR157_1 := Aside0.mk hi157_1
                                have HC157_1 := Aside0.mk hl157_1
                                clear hi157_1 hl157_1
                                replace p157 := eq_true p157
                                replace q157 := eq_true q157
                                have p158 : 0 ≤ (x9_2 : Int) := of_decide_eq_true (by first | (with_reducible assumption) | assumption)
                                have q158 : x9_2 < (l0.length : Int) := of_decide_eq_true (by first | (with_reducible assumption) | assumption)
                                obtain ⟨ad158, A158_0, c158_0, A158_1, c158_1, e158, hx158_0, hx158_1, hx158_2, hl158_0, hi158_0, hl158_1, hi158_1⟩ := at_T71 HR0.out x9_2 p158 q158
                                obtain rfl : ad157 = ad158 := (by injection e158)
                                replace hx158_0 := (HB.out.cell (World.block_lt_of_cell? w _ hx158_0)).trans hx158_0
                                replace hx158_1 := (HB.out.cell (World.block_lt_of_cell? w _ hx158_1)).trans hx158_1
                                replace hx158_2 := (HB.out.cell (World.block_lt_of_cell? w _ hx158_2)).trans hx158_2
                                have HR158_0 := Aside0.mk hi158_0
                                have HC158_0 := Aside0.mk hl158_0
                                clear hi158_0 hl158_0
                                have HR158_1 := Aside0.mk hi158_1
                                have HC158_1 := Aside0.mk hl158_1
                                clear hi158_1 hl158_1
                                replace p158 := eq_true p158
                                replace q158 := eq_true q158
                                have ea_ := Option.some.inj (hx157_0.symm.trans hx158_0)
                                injection ea_ with ea_ en_ ec_
                                subst ea_
                                subst ec_
                                clear en_
                                have ea_ := Option.some.inj (hx157_1.symm.trans hx158_1)
                                injection ea_ with ea_ en_ ec_
                                subst ea_
                                subst ec_
                                clear en_
                                have p159 : 0 ≤ (x11_3 : Int) := of_decide_eq_true (by first | (with_reducible assumption) | assumption)
                                have q159 : x11_3 < (((rd_T71 l0 x9_2).f0).length : Int) := of_decide_eq_true (by first | (with_reducible assumption) | assumption)
                                obtain ⟨ad159, e159, hx159_0⟩ := Kd.at_string HR158_0.out x11_3 p159 q159
                                cases e159
                                replace hx159_0 := (HB.out.cell (World.block_lt_of_cell? w _ hx159_0)).trans hx159_0
                                replace p159 := eq_true p159
                                replace q159 := eq_true q159
                                go_wp2
                                go_roundg k3
                                case measure => have := HK1.out; have := HK2.out; have := HK3.out; omega
                                case rel => exact ⟨(((rdOf ByteArray.empty ((rd_T71 l0 x9_2).f0) x11_3).toList == ([42] : List UInt8))), (wrap64 (x11_3 + 1)), (by first | rfl | (simp; done) | (simp [*]; done)), (by first | rfl | (simp; done) | (simp [*]; done)), H', ⟨by have := HK1.out; have := HK2.out; have := HK3.out; omega⟩, ⟨by (with_reducible repeat (first | apply Kd.R_alloc | apply Kd.R_drewN | apply Kd.R_drew)); exact HO_157002.out⟩, ⟨by (with_reducible repeat (first | refine blk_drewN ?_ _ | refine blk_drew ?_ | refine blk_alloc ?_ _)); exact BK154.out⟩, ⟨by (with_reducible repeat (first | refine blk_drewN ?_ _ | refine blk_drew ?_ | refine blk_alloc ?_ _)); exact BK156.out⟩, ⟨by repeat (first | (with_reducible first | exact HB.out | apply below_alloc | apply pw_below_drewN | apply below_drew1 | refine below_set ?_ GE154.out | refine below_set ?_ GE156.out) | exact HB.out)⟩⟩
                              · rw [if_neg c25] at H
                                have c25b0 : (x6_1 == 1) = false := beq_eq_false_iff_ne.mpr c25
                                have c25b1 : (x6_1 != 1) = true := bne_iff_ne.mpr c25
                                have H' := Aside0.mk H
                                clear H
                                have p157 : 0 ≤ (x9_2 : Int) := of_decide_eq_true (by first | (with_reducible assumption) | assumption)
                                have q157 : x9_2 < (l0.length : Int) := of_decide_eq_true (by first | (with_reducible assumption) | assumption)
                                obtain ⟨ad157, A157_0, c157_0, A157_1, c157_1, e157, hx157_0, hx157_1, hx157_2, hl157_0, hi157_0, hl157_1, hi157_1⟩ := at_T71 HR0.out x9_2 p157 q157
                                cases e157
                                replace hx157_0 := (HB.out.cell (World.block_lt_of_cell? w _ hx157_0)).trans hx157_0
                                replace hx157_1 := (HB.out.cell (World.block_lt_of_cell? w _ hx157_1)).trans hx157_1
                                replace hx157_2 := (HB.out.cell (World.block_lt_of_cell? w _ hx157_2)).trans hx157_2
                                have HR157_0 := Aside0.mk hi157_0
                                have HC157_0 := Aside0.mk hl157_0
                                clear hi157_0 hl157_0
                                have HR157_1 := Aside0.mk hi157_1
                                have HC157_1 := Aside0.mk hl157_1
                                clear hi157_1 hl157_1
                                replace p157 := eq_true p157
                                replace q157 := eq_true q157
                                have p158 : 0 ≤ (x9_2 : Int) := of_decide_eq_true (by first | (with_reducible assumption) | assumption)
                                have q158 : x9_2 < (l0.length : Int) := of_decide_eq_true (by first | (with_reducible assumption) | assumption)
                                obtain ⟨ad158, A158_0, c158_0, A158_1, c158_1, e158, hx158_0, hx158_1, hx158_2, hl158_0, hi158_0, hl158_1, hi158_1⟩ := at_T71 HR0.out x9_2 p158 q158
                                obtain rfl : ad157 = ad158 := (by injection e158)
                                replace hx158_0 := (HB.out.cell (World.block_lt_of_cell? w _ hx158_0)).trans hx158_0
                                replace hx158_1 := (HB.out.cell (World.block_lt_of_cell? w _ hx158_1)).trans hx158_1
                                replace hx158_2 := (HB.out.cell (World.block_lt_of_cell? w _ hx158_2)).trans hx158_2
                                have HR158_0 := Aside0.mk hi158_0
                                have HC158_0 := Aside0.mk hl158_0
                                clear hi158_0 hl158_0
                                have HR158_1 := Aside0.mk hi158_1
                                have HC158_1 := Aside0.mk hl158_1
                                clear hi158_1 hl158_1
                                replace p158 := eq_true p158
                                replace q158 := eq_true q158
                                have ea_ := Option.some.inj (hx157_0.symm.trans hx158_0)
                                injection ea_ with ea_ en_ ec_
                                subst ea_
                                subst ec_
                                clear en_
                                have ea_ := Option.some.inj (hx157_1.symm.trans hx158_1)
                                injection ea_ with ea_ en_ ec_
                                subst ea_
                                subst ec_
                                clear en_
                                have p159 : 0 ≤ (x11_3 : Int) := of_decide_eq_true (by first | (with_reducible assumption) | assumption)
                                have q159 : x11_3 < (((rd_T71 l0 x9_2).f0).length : Int) := of_decide_eq_true (by first | (with_reducible assumption) | assumption)
                                obtain ⟨ad159, e159, hx159_0⟩ := Kd.at_string HR158_0.out x11_3 p159 q159
                                cases e159
                                replace hx159_0 := (HB.out.cell (World.block_lt_of_cell? w _ hx159_0)).trans hx159_0
                                replace p159 := eq_true p159
                                replace q159 := eq_true q159
                                go_wp2
                                go_roundg k3
                                case measure => have := HK1.out; have := HK2.out; have := HK3.out; omega
                                case rel => exact ⟨(false), (wrap64 (x11_3 + 1)), (by first | rfl | (simp; done) | (simp [*]; done)), (by first | rfl | (simp; done) | (simp [*]; done)), H', ⟨by have := HK1.out; have := HK2.out; have := HK3.out; omega⟩, ⟨by (with_reducible repeat (first | apply Kd.R_alloc | apply Kd.R_drewN | apply Kd.R_drew)); exact HO_157002.out⟩, ⟨by (with_reducible repeat (first | refine blk_drewN ?_ _ | refine blk_drew ?_ | refine blk_alloc ?_ _)); exact BK154.out⟩, ⟨by (with_reducible repeat (first | refine blk_drewN ?_ _ | refine blk_drew ?_ | refine blk_alloc ?_ _)); exact BK156.out⟩, ⟨by repeat (first | (with_reducible first | exact HB.out | apply below_alloc | apply pw_below_drewN | apply below_drew1 | refine below_set ?_ GE154.out | refine below_set ?_ GE156.out) | exact HB.out)⟩⟩
                        · rw [if_neg c14] at H
                          exact absurd H (by simp)
                      · rw [if_neg c13] at H
                        have c13b0 : decide (x11_3 < (((rd_T71 l0 x9_2).f0).length : Int)) = false := decide_eq_false c13
                        clear c13
                        by_cases c26 : x10_3 = true
                        · subst c26
                          have H1 : (if x157002_2.length + ((rd_T71 l0 x9_2).f1).length < 5864062014805 then ((some (x157002_2 ++ ((rd_T71 l0 x9_2).f1) : List (S30))).bind fun y162 => (if ((rd_T71 l0 x9_2).f2) > x157003_2 then (decorumref09_Pick.l1 k3 l0 t155 x6_1 true (wrap64 (x9_2 + 1)) false false y162 ((rd_T71 l0 x9_2).f2)) else (decorumref09_Pick.l1 k3 l0 t155 x6_1 true (wrap64 (x9_2 + 1)) false false y162 x157003_2))) else (none)) = some (r1, r2, r3, r4) := by rw [if_pos rfl] at H; exact H
                          clear H
                          have H := H1
                          clear H1
                          by_cases c27 : x157002_2.length + ((rd_T71 l0 x9_2).f1).length < 5864062014805
                          · rw [if_pos c27] at H
                            have LMc27 := Aside0.mk c27
                            clear c27
                            obtain ⟨y162, hy162⟩ : ∃ y_ : List (S30), y_ = (x157002_2 ++ ((rd_T71 l0 x9_2).f1)) := ⟨_, rfl⟩
                            replace H : (if ((rd_T71 l0 x9_2).f2) > x157003_2 then (decorumref09_Pick.l1 k3 l0 t155 x6_1 true (wrap64 (x9_2 + 1)) false false y162 ((rd_T71 l0 x9_2).f2)) else (decorumref09_Pick.l1 k3 l0 t155 x6_1 true (wrap64 (x9_2 + 1)) false false y162 x157003_2)) = some (r1, r2, r3, r4) := by first | (rw [hy162]; with_reducible exact H) | (have H2_ := (Option.bind_some _ _).symm.trans H; rw [hy162]; with_reducible exact H2_) | (have H2_ := (Option.bind_some _ _).symm.trans H; with_reducible exact H2_) | with_reducible exact H | (rw [hy162]; exact H) | exact H
                            have Ny162 := Aside0.mk hy162
                            clear hy162
                            by_cases c28 : ((rd_T71 l0 x9_2).f2) > x157003_2
                            · rw [if_pos c28] at H
                              have c28b0 : decide (x157003_2 < ((rd_T71 l0 x9_2).f2)) = true := decide_eq_true c28
                              clear c28
                              have H' := Aside0.mk H
                              clear H
                              have p157 : 0 ≤ (x9_2 : Int) := of_decide_eq_true (by first | (with_reducible assumption) | assumption)
                              have q157 : x9_2 < (l0.length : Int) := of_decide_eq_true (by first | (with_reducible assumption) | assumption)
                              obtain ⟨ad157, A157_0, c157_0, A157_1, c157_1, e157, hx157_0, hx157_1, hx157_2, hl157_0, hi157_0, hl157_1, hi157_1⟩ := at_T71 HR0.out x9_2 p157 q157
                              cases e157
                              replace hx157_0 := (HB.out.cell (World.block_lt_of_cell? w _ hx157_0)).trans hx157_0
                              replace hx157_1 := (HB.out.cell (World.block_lt_of_cell? w _ hx157_1)).trans hx157_1
                              replace hx157_2 := (HB.out.cell (World.block_lt_of_cell? w _ hx157_2)).trans hx157_2
                              have HR157_0 := Aside0.mk hi157_0
                              have HC157_0 := Aside0.mk hl157_0
                              clear hi157_0 hl157_0
                              have HR157_1 := Aside0.mk hi157_1
                              have HC157_1 := Aside0.mk hl157_1
                              clear hi157_1 hl157_1
                              replace p157 := eq_true p157
                              replace q157 := eq_true q157
                              try go_wp2
                              have n0_ := Aside0.mk (Kd.R_drew HO_157002.out)
                              have n1_ := Aside0.mk (blk_drew BK154.out)
                              have n2_ := Aside0.mk (blk_drew BK156.out)
                              have n3_ := Aside0.mk (below_drew1 HB.out)
                              clear HO_157002
                              clear BK154
                              clear BK156
                              clear HB
                              have HO_157002 := n0_
                              have BK154 := n1_
                              have BK156 := n2_
                              have HB := n3_
                              clear n0_ n1_ n2_ n3_
                              have p161 : 0 ≤ (x9_2 : Int) := of_decide_eq_true (by first | (with_reducible assumption) | assumption)
                              have q161 : x9_2 < (l0.length : Int) := of_decide_eq_true (by first | (with_reducible assumption) | assumption)
                              obtain ⟨ad161, A161_0, c161_0, A161_1, c161_1, e161, hx161_0, hx161_1, hx161_2, hl161_0, hi161_0, hl161_1, hi161_1⟩ := at_T71 HR0.out x9_2 p161 q161
                              have hw161_2 := hx161_2
                              have hw161_1 := hx161_1
                              have hw161_0 := hx161_0
                              obtain rfl : ad157 = ad161 := (by injection e161)
                              replace hx161_0 := (HB.out.cell (World.block_lt_of_cell? w _ hx161_0)).trans hx161_0
                              replace hx161_1 := (HB.out.cell (World.block_lt_of_cell? w _ hx161_1)).trans hx161_1
                              replace hx161_2 := (HB.out.cell (World.block_lt_of_cell? w _ hx161_2)).trans hx161_2
                              have HR161_0 := Aside0.mk hi161_0
                              have HC161_0 := Aside0.mk hl161_0
                              clear hi161_0 hl161_0
                              have HR161_1 := Aside0.mk hi161_1
                              have HC161_1 := Aside0.mk hl161_1
                              clear hi161_1 hl161_1
                              replace p161 := eq_true p161
                              replace q161 := eq_true q161
                              refine start_ (n := 10) (S := fun w' => w'.cell? ⟨gb156, 0, none⟩ = some (.bool false) ∧ w'.cell? ⟨gb156, 1, none⟩ = some (.bool false) ∧ w'.cell? ⟨gb156, 2, none⟩ = some (u157002) ∧ w'.cell? ⟨gb156, 3, none⟩ = some (.int .i64 x157003_2) ∧ w'.cell? (ad157.add ((x9_2).toNat * 3)) = some (.slice A161_0 ((rd_T71 l0 x9_2).f0).length c161_0) ∧ w'.cell? ⟨(ad157.add ((x9_2).toNat * 3)).block, (ad157.add ((x9_2).toNat * 3)).off + 1, none⟩ = some (.slice A161_1 ((rd_T71 l0 x9_2).f1).length c161_1) ∧ w'.cell? ⟨(ad157.add ((x9_2).toNat * 3)).block, (ad157.add ((x9_2).toNat * 3)).off + 2, none⟩ = some (.int .i64 ((rd_T71 l0 x9_2).f2))) (ds := [9]) #[false, false, false, false, false, false, false, false, false, false] (by kernel_rfl) rfl rfl ⟨(blk_cell BK156.out 0).trans rfl, (blk_cell BK156.out 1).trans rfl, (blk_cell BK156.out 2).trans rfl, (blk_cell BK156.out 3).trans rfl, ((HB.out.cell (World.block_lt_of_cell? w _ hw161_0)).trans hw161_0), ((HB.out.cell (World.block_lt_of_cell? w _ hw161_1)).trans hw161_1), ((HB.out.cell (World.block_lt_of_cell? w _ hw161_2)).trans hw161_2)⟩ (fun hHeld => ?_); refine with_tabW decorumref09_Pick.tab18 decorumref09_Pick.bits18 (fun HT_ HW_ => ?_)
                              generalize wr.drew = w29 at HO_157002 BK154 BK156 HB HR161_0 HR161_1 hx161_0 hx161_1 hx161_2 hHeld ⊢
                              refine pure_ (i := 0) (N := some 69) (v := ?_) (a' := ?_) #[true, false, false, false, false, false, false, false, false, false] rfl rfl (any_of HT_.out (by kernel_rfl)) (fun _ _ _ h => h) (Or.inl ⟨by rfl, ?_⟩) ?_ ?_
                              rotate_left
                              · intro w'
                                go_simp
                                with_reducible rfl
                              rotate_left
                              · simp only [Act.put, List.setIfInBounds_toArray, List.set_cons_zero, List.set_cons_succ, i64_w, i32_w]
                                rfl
                              refine pure_ (i := 2) (N := some 71) (v := ?_) (a' := ?_) #[true, false, true, false, false, false, false, false, false, false] rfl rfl (any_of HT_.out (by kernel_rfl)) (fun _ _ _ h => h) (Or.inl ⟨by rfl, ?_⟩) ?_ ?_
                              rotate_left
                              · intro w'
                                go_simp
                                with_reducible rfl
                              rotate_left
                              · simp only [Act.put, List.setIfInBounds_toArray, List.set_cons_zero, List.set_cons_succ, i64_w, i32_w]
                                rfl
                              refine pure_ (i := 3) (N := some 72) (v := ?_) (a' := ?_) #[true, false, true, true, false, false, false, false, false, false] rfl rfl (any_of HT_.out (by kernel_rfl)) (fun _ _ _ h => h) (Or.inl ⟨by rfl, ?_⟩) ?_ ?_
                              rotate_left
                              · intro w'
                                go_simp
                                with_reducible rfl
                              rotate_left
                              · simp only [Act.put, List.setIfInBounds_toArray, List.set_cons_zero, List.set_cons_succ, i64_w, i32_w]
                                rfl
                              refine pure_ (i := 4) (N := some 73) (v := ?_) (a' := ?_) #[true, false, true, true, true, false, false, false, false, false] rfl rfl (any_of HT_.out (by kernel_rfl)) (fun _ _ _ h => h) (Or.inl ⟨by rfl, ?_⟩) ?_ ?_
                              rotate_left
                              · intro w'
                                go_simp
                                with_reducible rfl
                              rotate_left
                              · simp only [Act.put, List.setIfInBounds_toArray, List.set_cons_zero, List.set_cons_succ, i64_w, i32_w]
                                rfl
                              refine pure_ (i := 5) (N := some 74) (v := ?_) (a' := ?_) #[true, false, true, true, true, true, false, false, false, false] rfl rfl (any_of HT_.out (by kernel_rfl)) (fun _ _ _ h => h) (Or.inl ⟨by rfl, ?_⟩) ?_ ?_
                              rotate_left
                              · intro w'
                                go_simp
                                with_reducible rfl
                              rotate_left
                              · simp only [Act.put, List.setIfInBounds_toArray, List.set_cons_zero, List.set_cons_succ, i64_w, i32_w]
                                rfl
                              refine take_ (i := 1) (N := some 70) (v := ?_) (a' := ?_) #[true, true, true, true, true, true, false, false, false, false] rfl rfl (take_ofW HT_.out HW_.out (by kernel_rfl)) (fun _ _ _ h => h) (Or.inl ⟨by rfl, ?_⟩) hHeld ?_ ?_
                              rotate_left
                              · rintro w' ⟨s0, s1, s2, s3, s4, s5, s6⟩
                                go_simp
                                with_reducible rfl
                              rotate_left
                              · simp only [Act.put, List.setIfInBounds_toArray, List.set_cons_zero, List.set_cons_succ, i64_w, i32_w]
                                rfl
                              refine take_ (i := 6) (N := some 75) (v := ?_) (a' := ?_) #[true, true, true, true, true, true, true, false, false, false] rfl rfl (take_ofW HT_.out HW_.out (by kernel_rfl)) (fun _ _ _ h => h) (Or.inl ⟨by rfl, ?_⟩) hHeld ?_ ?_
                              rotate_left
                              · rintro w' ⟨s0, s1, s2, s3, s4, s5, s6⟩
                                go_simp
                                with_reducible rfl
                              rotate_left
                              · simp only [Act.put, List.setIfInBounds_toArray, List.set_cons_zero, List.set_cons_succ, i64_w, i32_w]
                                rfl
                              refine one_ (i := 7) (N := some 76) #[true, true, true, true, true, true, true, true, false, false] rfl rfl (one_of HT_.out (by kernel_rfl)) (by decide) (fun K hK => ?_)
                              refine Kd.R_append_rows_step k30 (w0 := w) w.heap.size (by rfl) (.tmp 70) (.tmp 75) 24 30 (.agg #[(.bool false), (.string ⟨#[]⟩)]) 24 rfl Tryd.underlying24 info30 rfl (by decide) (by omega) u157002 x157002_2 ((rd_T71 l0 x9_2).f1) _ _ _ (fun _ => True) (fun _ => False) rfl rfl ?aO ?aR (fun _ _ h => h) (fun _ h => h.elim) ?aF ?aB ?aS ?aL ?_
                              (case aR => repeat (first | exact (Kd.C_below HR161_1.out HB.out) | (with_reducible refine Kd.C_alloc ?_ _) | (with_reducible refine Kd.C_drewN ?_ _) | (with_reducible refine Kd.C_drew ?_)))
                              (case aB => exact (by repeat (first | (with_reducible first | exact HB.out | apply below_alloc | apply pw_below_drewN | apply below_drew1 | refine below_set ?_ GE154.out | refine below_set ?_ GE156.out) | exact HB.out)))
                              (case aF => exact (fun _ _ => trivial))
                              (case aO => exact (by (with_reducible repeat (first | apply Kd.R_alloc | apply Kd.R_drewN | apply Kd.R_drew)); exact HO_157002.out))
                              (case aS => exact (below_size (by repeat (first | (with_reducible first | exact HB.out | apply below_alloc | apply pw_below_drewN | apply below_drew1 | refine below_set ?_ GE154.out | refine below_set ?_ GE156.out) | exact HB.out))))
                              (case aL => have := LMc27.out; omega)
                              intro v163 w30 ho hb hg hat
                              rw [← Ny162.out] at ho
                              have n0_ := Aside0.mk (blk_grown (g := gb154) (o := .cells #[.bool x155000_1, .bool x155001_1, .slice none 0 0, .int .i64 x155003_1] 26 (0, 0)) (by (with_reducible repeat (first | refine blk_drewN ?_ _ | refine blk_drew ?_ | refine blk_alloc ?_ _)); exact BK154.out) hg (Kd.R_ne HO_157002.out BK154.out (by decide)))
                              have n1_ := Aside0.mk (blk_grown (g := gb156) (o := .cells #[.bool false, .bool false, u157002, .int .i64 x157003_2] 26 (0, 0)) (by (with_reducible repeat (first | refine blk_drewN ?_ _ | refine blk_drew ?_ | refine blk_alloc ?_ _)); exact BK156.out) hg (Kd.R_ne HO_157002.out BK156.out (by decide)))
                              have n2_ := Aside0.mk (hb)
                              have n3_ := Aside0.mk (ho)
                              clear BK154
                              clear BK156
                              clear HB
                              clear HO_157002
                              have BK154 := n0_
                              have BK156 := n1_
                              have HB := n2_
                              have HO164 := n3_
                              clear n0_ n1_ n2_ n3_
                              clear ho hb hg hat
                              obtain ⟨Ao31, co31, eo31⟩ := Kd.R_slice HO164.out
                              (first | subst eo31 | (injection eo31 with f1_ f2_ f3_; have f4_ := f1_.symm; have f5_ := f3_.symm; clear f1_ f2_ f3_; subst f4_; subst f5_))
                              refine hK.out _ _ ⟨(blk_cell BK156.out 0).trans rfl, (blk_cell BK156.out 1).trans rfl, (blk_cell BK156.out 2).trans rfl, (blk_cell BK156.out 3).trans rfl, ((HB.out.cell (World.block_lt_of_cell? w _ hw161_0)).trans hw161_0), ((HB.out.cell (World.block_lt_of_cell? w _ hw161_1)).trans hw161_1), ((HB.out.cell (World.block_lt_of_cell? w _ hw161_2)).trans hw161_2)⟩ (fun hHeld => ?_)
                              clear hK K
                              refine norm_ (a' := ?_) ?_ ?_
                              rotate_left
                              · show Act.put _ (some 76) _ = _
                                simp only [Act.put, List.setIfInBounds_toArray, List.set_cons_zero, List.set_cons_succ, i64_w, i32_w]
                                rfl
                              refine pure_ (i := 8) (N := some 77) (v := ?_) (a' := ?_) #[true, true, true, true, true, true, true, true, true, false] rfl rfl (any_of HT_.out (by kernel_rfl)) (fun _ _ _ h => h) (Or.inl ⟨by rfl, ?_⟩) ?_ ?_
                              rotate_left
                              · intro w'
                                go_simp
                                with_reducible rfl
                              rotate_left
                              · simp only [Act.put, List.setIfInBounds_toArray, List.set_cons_zero, List.set_cons_succ, i64_w, i32_w]
                                rfl
                              refine last_ (i := 9) (N := none) #[true, true, true, true, true, true, true, true, true, true] rfl rfl (one_of HT_.out (by kernel_rfl)) (by decide) (fun K hK => ?_)
                              have hs32 : w30.cell? ⟨gb156, 2, none⟩ = some (u157002) := (blk_cell BK156.out 2).trans rfl
                              have hfs32 := blk_frozen BK156.out 2
                              have hns32_0 := NB154_156.out
                              have hms32_0 := NB156_154.out
                              refine skip_ (w1 := ?_) (by rfl) rfl ?_ ?_
                              rotate_left
                              · go_simp
                                rfl
                              refine hK.out _ _ ?_
                              clear hK K
                              refine done_ (done_of HT_.out (by kernel_rfl)) ?_
                              try go_wp2
                              have n0_ : Aside0 (Kd.R k30 30 (w30.setCell ⟨gb156, 2, none⟩ (.slice Ao31 y162.length co31)) w.heap.size (fun _ => True) (.slice Ao31 y162.length co31) y162) := ⟨by (with_reducible repeat (first | apply Kd.R_alloc | apply Kd.R_drewN | apply Kd.R_drew)); exact Kd.R_mono (Kd.R_far (p := ⟨gb156, 2, none⟩) (Kd.R_types HO164.out BK156.out (by decide)) (fun _ hk => hk.2) (.slice Ao31 y162.length co31)) (fun _ hk => trivial)⟩
                              have n1_ : Aside0 ((w30.setCell ⟨gb156, 2, none⟩ (.slice Ao31 y162.length co31)).heap[gb154]? = some (.cells #[.bool x155000_1, .bool x155001_1, .slice none 0 0, .int .i64 x155003_1] 26 (0, 0))) := ⟨by (with_reducible repeat (first | refine blk_drewN ?_ _ | refine blk_drew ?_ | refine blk_alloc ?_ _)); refine blk_far ?_ NB154_156.out _; (with_reducible repeat (first | refine blk_drewN ?_ _ | refine blk_drew ?_ | refine blk_alloc ?_ _)); exact BK154.out⟩
                              have n2_ : Aside0 ((w30.setCell ⟨gb156, 2, none⟩ (.slice Ao31 y162.length co31)).heap[gb156]? = some (.cells #[.bool false, .bool false, .slice Ao31 y162.length co31, .int .i64 x157003_2] 26 (0, 0))) := ⟨by (with_reducible repeat (first | refine blk_drewN ?_ _ | refine blk_drew ?_ | refine blk_alloc ?_ _)); refine blk_put (cs := #[.bool false, .bool false, u157002, .int .i64 x157003_2]) ?_ 2 _ rfl; (with_reducible repeat (first | refine blk_drewN ?_ _ | refine blk_drew ?_ | refine blk_alloc ?_ _)); exact BK156.out⟩
                              have n3_ : Aside0 (Below w.heap.size w (w30.setCell ⟨gb156, 2, none⟩ (.slice Ao31 y162.length co31))) := ⟨by repeat (first | (with_reducible first | exact HB.out | apply below_alloc | apply pw_below_drewN | apply below_drew1 | refine below_set ?_ GE154.out | refine below_set ?_ GE156.out) | exact HB.out)⟩
                              (try clear HO164)
                              (try clear BK154)
                              (try clear BK156)
                              (try clear HB)
                              generalize (w30.setCell ⟨gb156, 2, none⟩ (.slice Ao31 y162.length co31)) = w33 at n0_ n1_ n2_ n3_ ⊢
                              have HO164 := n0_
                              have BK154 := n1_
                              have BK156 := n2_
                              have HB := n3_
                              clear n0_ n1_ n2_ n3_
                              have n0_ := Aside0.mk (Kd.R_drew HO164.out)
                              have n1_ := Aside0.mk (blk_drew BK154.out)
                              have n2_ := Aside0.mk (blk_drew BK156.out)
                              have n3_ := Aside0.mk (below_drew1 HB.out)
                              clear HO164
                              clear BK154
                              clear BK156
                              clear HB
                              have HO164 := n0_
                              have BK154 := n1_
                              have BK156 := n2_
                              have HB := n3_
                              clear n0_ n1_ n2_ n3_
                              have p165 : 0 ≤ (x9_2 : Int) := of_decide_eq_true (by first | (with_reducible assumption) | assumption)
                              have q165 : x9_2 < (l0.length : Int) := of_decide_eq_true (by first | (with_reducible assumption) | assumption)
                              obtain ⟨ad165, A165_0, c165_0, A165_1, c165_1, e165, hx165_0, hx165_1, hx165_2, hl165_0, hi165_0, hl165_1, hi165_1⟩ := at_T71 HR0.out x9_2 p165 q165
                              have hw165_2 := hx165_2
                              have hw165_1 := hx165_1
                              have hw165_0 := hx165_0
                              obtain rfl : ad157 = ad165 := (by injection e165)
                              replace hx165_0 := (HB.out.cell (World.block_lt_of_cell? w _ hx165_0)).trans hx165_0
                              replace hx165_1 := (HB.out.cell (World.block_lt_of_cell? w _ hx165_1)).trans hx165_1
                              replace hx165_2 := (HB.out.cell (World.block_lt_of_cell? w _ hx165_2)).trans hx165_2
                              have HR165_0 := Aside0.mk hi165_0
                              have HC165_0 := Aside0.mk hl165_0
                              clear hi165_0 hl165_0
                              have HR165_1 := Aside0.mk hi165_1
                              have HC165_1 := Aside0.mk hl165_1
                              clear hi165_1 hl165_1
                              replace p165 := eq_true p165
                              replace q165 := eq_true q165
                              refine start_ (n := 8) (S := fun w' => w'.cell? ⟨gb156, 0, none⟩ = some (.bool false) ∧ w'.cell? ⟨gb156, 1, none⟩ = some (.bool false) ∧ w'.cell? ⟨gb156, 2, none⟩ = some (.slice Ao31 y162.length co31) ∧ w'.cell? ⟨gb156, 3, none⟩ = some (.int .i64 x157003_2) ∧ w'.cell? (ad157.add ((x9_2).toNat * 3)) = some (.slice A165_0 ((rd_T71 l0 x9_2).f0).length c165_0) ∧ w'.cell? ⟨(ad157.add ((x9_2).toNat * 3)).block, (ad157.add ((x9_2).toNat * 3)).off + 1, none⟩ = some (.slice A165_1 ((rd_T71 l0 x9_2).f1).length c165_1) ∧ w'.cell? ⟨(ad157.add ((x9_2).toNat * 3)).block, (ad157.add ((x9_2).toNat * 3)).off + 2, none⟩ = some (.int .i64 ((rd_T71 l0 x9_2).f2))) (ds := []) #[false, false, false, false, false, false, false, false] (by kernel_rfl) rfl rfl ⟨(blk_cell BK156.out 0).trans rfl, (blk_cell BK156.out 1).trans rfl, (blk_cell BK156.out 2).trans rfl, (blk_cell BK156.out 3).trans rfl, ((HB.out.cell (World.block_lt_of_cell? w _ hw165_0)).trans hw165_0), ((HB.out.cell (World.block_lt_of_cell? w _ hw165_1)).trans hw165_1), ((HB.out.cell (World.block_lt_of_cell? w _ hw165_2)).trans hw165_2)⟩ (fun hHeld => ?_); refine with_tabW decorumref09_Pick.tab19 decorumref09_Pick.bits19 (fun HT_ HW_ => ?_)
                              generalize w33.drew = w34 at HO164 BK154 BK156 HB HR165_0 HR165_1 hx165_0 hx165_1 hx165_2 hHeld ⊢
                              refine pure_ (i := 0) (N := some 78) (v := ?_) (a' := ?_) #[true, false, false, false, false, false, false, false] rfl rfl (any_of HT_.out (by kernel_rfl)) (fun _ _ _ h => h) (Or.inl ⟨by rfl, ?_⟩) ?_ ?_
                              rotate_left
                              · intro w'
                                go_simp
                                with_reducible rfl
                              rotate_left
                              · simp only [Act.put, List.setIfInBounds_toArray, List.set_cons_zero, List.set_cons_succ, i64_w, i32_w]
                                rfl
                              refine pure_ (i := 1) (N := some 79) (v := ?_) (a' := ?_) #[true, true, false, false, false, false, false, false] rfl rfl (any_of HT_.out (by kernel_rfl)) (fun _ _ _ h => h) (Or.inl ⟨by rfl, ?_⟩) ?_ ?_
                              rotate_left
                              · intro w'
                                go_simp
                                with_reducible rfl
                              rotate_left
                              · simp only [Act.put, List.setIfInBounds_toArray, List.set_cons_zero, List.set_cons_succ, i64_w, i32_w]
                                rfl
                              refine pure_ (i := 2) (N := some 80) (v := ?_) (a' := ?_) #[true, true, true, false, false, false, false, false] rfl rfl (any_of HT_.out (by kernel_rfl)) (fun _ _ _ h => h) (Or.inl ⟨by rfl, ?_⟩) ?_ ?_
                              rotate_left
                              · intro w'
                                go_simp
                                with_reducible rfl
                              rotate_left
                              · simp only [Act.put, List.setIfInBounds_toArray, List.set_cons_zero, List.set_cons_succ, i64_w, i32_w]
                                rfl
                              refine pure_ (i := 3) (N := some 81) (v := ?_) (a' := ?_) #[true, true, true, true, false, false, false, false] rfl rfl (any_of HT_.out (by kernel_rfl)) (fun _ _ _ h => h) (Or.inl ⟨by rfl, ?_⟩) ?_ ?_
                              rotate_left
                              · intro w'
                                go_simp
                                with_reducible rfl
                              rotate_left
                              · simp only [Act.put, List.setIfInBounds_toArray, List.set_cons_zero, List.set_cons_succ, i64_w, i32_w]
                                rfl
                              refine pure_ (i := 5) (N := some 83) (v := ?_) (a' := ?_) #[true, true, true, true, false, true, false, false] rfl rfl (any_of HT_.out (by kernel_rfl)) (fun _ _ _ h => h) (Or.inl ⟨by rfl, ?_⟩) ?_ ?_
                              rotate_left
                              · intro w'
                                go_simp
                                with_reducible rfl
                              rotate_left
                              · simp only [Act.put, List.setIfInBounds_toArray, List.set_cons_zero, List.set_cons_succ, i64_w, i32_w]
                                rfl
                              refine take_ (i := 4) (N := some 82) (v := ?_) (a' := ?_) #[true, true, true, true, true, true, false, false] rfl rfl (take_ofW HT_.out HW_.out (by kernel_rfl)) (fun _ _ _ h => h) (Or.inl ⟨by rfl, ?_⟩) hHeld ?_ ?_
                              rotate_left
                              · rintro w' ⟨s0, s1, s2, s3, s4, s5, s6⟩
                                go_simp
                                with_reducible rfl
                              rotate_left
                              · simp only [Act.put, List.setIfInBounds_toArray, List.set_cons_zero, List.set_cons_succ, i64_w, i32_w]
                                rfl
                              refine take_ (i := 6) (N := some 84) (v := ?_) (a' := ?_) #[true, true, true, true, true, true, true, false] rfl rfl (take_ofW HT_.out HW_.out (by kernel_rfl)) (fun _ _ _ h => h) (Or.inl ⟨by rfl, ?_⟩) hHeld ?_ ?_
                              rotate_left
                              · rintro w' ⟨s0, s1, s2, s3, s4, s5, s6⟩
                                go_simp
                                with_reducible rfl
                              rotate_left
                              · simp only [Act.put, List.setIfInBounds_toArray, List.set_cons_zero, List.set_cons_succ, i64_w, i32_w]
                                rfl
                              refine pure_ (i := 7) (N := some 85) (v := ?_) (a' := ?_) #[true, true, true, true, true, true, true, true] rfl rfl (any_of HT_.out (by kernel_rfl)) (fun _ _ _ h => h) (Or.inl ⟨by rfl, ?_⟩) ?_ ?_
                              rotate_left
                              · intro w'
                                go_simp
                                with_reducible rfl
                              rotate_left
                              · simp only [Act.put, List.setIfInBounds_toArray, List.set_cons_zero, List.set_cons_succ, i64_w, i32_w]
                                rfl
                              refine done_ (done_of HT_.out (by kernel_rfl)) ?_
                              have p166 : 0 ≤ (x9_2 : Int) := of_decide_eq_true (by first | (with_reducible assumption) | assumption)
                              have q166 : x9_2 < (l0.length : Int) := of_decide_eq_true (by first | (with_reducible assumption) | assumption)
                              obtain ⟨ad166, A166_0, c166_0, A166_1, c166_1, e166, hx166_0, hx166_1, hx166_2, hl166_0, hi166_0, hl166_1, hi166_1⟩ := at_T71 HR0.out x9_2 p166 q166
                              obtain rfl : ad157 = ad166 := (by injection e166)
                              replace hx166_0 := (HB.out.cell (World.block_lt_of_cell? w _ hx166_0)).trans hx166_0
                              replace hx166_1 := (HB.out.cell (World.block_lt_of_cell? w _ hx166_1)).trans hx166_1
                              replace hx166_2 := (HB.out.cell (World.block_lt_of_cell? w _ hx166_2)).trans hx166_2
                              have HR166_0 := Aside0.mk hi166_0
                              have HC166_0 := Aside0.mk hl166_0
                              clear hi166_0 hl166_0
                              have HR166_1 := Aside0.mk hi166_1
                              have HC166_1 := Aside0.mk hl166_1
                              clear hi166_1 hl166_1
                              replace p166 := eq_true p166
                              replace q166 := eq_true q166
                              have ea_ := Option.some.inj (hx165_0.symm.trans hx166_0)
                              injection ea_ with ea_ en_ ec_
                              subst ea_
                              subst ec_
                              clear en_
                              have ea_ := Option.some.inj (hx165_1.symm.trans hx166_1)
                              injection ea_ with ea_ en_ ec_
                              subst ea_
                              subst ec_
                              clear en_
                              have hnb35 := NB156_154.out
                              have hnc35 := NB154_156.out
                              have hcz36_0 : w34.cell? ⟨gb156, 0, none⟩ = some (.bool false) := (blk_cell BK156.out 0).trans rfl
                              have hcz36_1 : w34.cell? ⟨gb156, 1, none⟩ = some (.bool false) := (blk_cell BK156.out 1).trans rfl
                              have hcz36_2 : w34.cell? ⟨gb156, 2, none⟩ = some (.slice Ao31 y162.length co31) := (blk_cell BK156.out 2).trans rfl
                              have hcz36_3 : w34.cell? ⟨gb156, 3, none⟩ = some (.int .i64 x157003_2) := (blk_cell BK156.out 3).trans rfl
                              have hfz36_0 := blk_frozen BK156.out 0
                              have hfz36_1 := blk_frozen BK156.out 1
                              have hfz36_2 := blk_frozen BK156.out 2
                              have hfz36_3 := blk_frozen BK156.out 3
                              try go_wp2
                              go_roundg k3
                              case measure => have := HK1.out; have := HK2.out; have := HK3.out; omega
                              case rel => exact ⟨(true), (wrap64 (x9_2 + 1)), (y162), ((rd_T71 l0 x9_2).f2), (.slice Ao31 y162.length co31), (by first | rfl | (simp; done) | (simp [*]; done)), (by first | rfl | (simp; done) | (simp [*]; done)), H', ⟨by have := HK1.out; have := HK2.out; have := HK3.out; omega⟩, ⟨by (with_reducible repeat (first | apply Kd.R_alloc | apply Kd.R_drewN | apply Kd.R_drew)); exact Kd.R_mono (Kd.R_far (p := ⟨gb156, 3, none⟩) (Kd.R_types HO164.out BK156.out (by decide)) (fun _ hk => hk.2) (.int .i64 ((rd_T71 l0 x9_2).f2))) (fun _ hk => trivial)⟩, ⟨by (with_reducible repeat (first | refine blk_drewN ?_ _ | refine blk_drew ?_ | refine blk_alloc ?_ _)); refine blk_far ?_ NB154_156.out _; (with_reducible repeat (first | refine blk_drewN ?_ _ | refine blk_drew ?_ | refine blk_alloc ?_ _)); exact BK154.out⟩, ⟨by (with_reducible repeat (first | refine blk_drewN ?_ _ | refine blk_drew ?_ | refine blk_alloc ?_ _)); refine blk_put (cs := #[.bool false, .bool false, .slice Ao31 y162.length co31, .int .i64 x157003_2]) ?_ 3 _ rfl; (with_reducible repeat (first | refine blk_drewN ?_ _ | refine blk_drew ?_ | refine blk_alloc ?_ _)); exact BK156.out⟩, ⟨by repeat (first | (with_reducible first | exact HB.out | apply below_alloc | apply pw_below_drewN | apply below_drew1 | refine below_set ?_ GE154.out | refine below_set ?_ GE156.out) | exact HB.out)⟩⟩
                            · rw [if_neg c28] at H
                              have c28b0 : decide (x157003_2 < ((rd_T71 l0 x9_2).f2)) = false := decide_eq_false c28
                              clear c28
                              have H' := Aside0.mk H
                              clear H
                              have p157 : 0 ≤ (x9_2 : Int) := of_decide_eq_true (by first | (with_reducible assumption) | assumption)
                              have q157 : x9_2 < (l0.length : Int) := of_decide_eq_true (by first | (with_reducible assumption) | assumption)
                              obtain ⟨ad157, A157_0, c157_0, A157_1, c157_1, e157, hx157_0, hx157_1, hx157_2, hl157_0, hi157_0, hl157_1, hi157_1⟩ := at_T71 HR0.out x9_2 p157 q157
                              cases e157
                              replace hx157_0 := (HB.out.cell (World.block_lt_of_cell? w _ hx157_0)).trans hx157_0
                              replace hx157_1 := (HB.out.cell (World.block_lt_of_cell? w _ hx157_1)).trans hx157_1
                              replace hx157_2 := (HB.out.cell (World.block_lt_of_cell? w _ hx157_2)).trans hx157_2
                              have HR157_0 := Aside0.mk hi157_0
                              have HC157_0 := Aside0.mk hl157_0
                              clear hi157_0 hl157_0
                              have HR157_1 := Aside0.mk hi157_1
                              have HC157_1 := Aside0.mk hl157_1
                              clear hi157_1 hl157_1
                              replace p157 := eq_true p157
                              replace q157 := eq_true q157
                              try go_wp2
                              have n0_ := Aside0.mk (Kd.R_drew HO_157002.out)
                              have n1_ := Aside0.mk (blk_drew BK154.out)
                              have n2_ := Aside0.mk (blk_drew BK156.out)
                              have n3_ := Aside0.mk (below_drew1 HB.out)
                              clear HO_157002
                              clear BK154
                              clear BK156
                              clear HB
                              have HO_157002 := n0_
                              have BK154 := n1_
                              have BK156 := n2_
                              have HB := n3_
                              clear n0_ n1_ n2_ n3_
                              have p161 : 0 ≤ (x9_2 : Int) := of_decide_eq_true (by first | (with_reducible assumption) | assumption)
                              have q161 : x9_2 < (l0.length : Int) := of_decide_eq_true (by first | (with_reducible assumption) | assumption)
                              obtain ⟨ad161, A161_0, c161_0, A161_1, c161_1, e161, hx161_0, hx161_1, hx161_2, hl161_0, hi161_0, hl161_1, hi161_1⟩ := at_T71 HR0.out x9_2 p161 q161
                              have hw161_2 := hx161_2
                              have hw161_1 := hx161_1
                              have hw161_0 := hx161_0
                              obtain rfl : ad157 = ad161 := (by injection e161)
                              replace hx161_0 := (HB.out.cell (World.block_lt_of_cell? w _ hx161_0)).trans hx161_0
                              replace hx161_1 := (HB.out.cell (World.block_lt_of_cell? w _ hx161_1)).trans hx161_1
                              replace hx161_2 := (HB.out.cell (World.block_lt_of_cell? w _ hx161_2)).trans hx161_2
                              have HR161_0 := Aside0.mk hi161_0
                              have HC161_0 := Aside0.mk hl161_0
                              clear hi161_0 hl161_0
                              have HR161_1 := Aside0.mk hi161_1
                              have HC161_1 := Aside0.mk hl161_1
                              clear hi161_1 hl161_1
                              replace p161 := eq_true p161
                              replace q161 := eq_true q161
                              refine start_ (n := 10) (S := fun w' => w'.cell? ⟨gb156, 0, none⟩ = some (.bool false) ∧ w'.cell? ⟨gb156, 1, none⟩ = some (.bool false) ∧ w'.cell? ⟨gb156, 2, none⟩ = some (u157002) ∧ w'.cell? ⟨gb156, 3, none⟩ = some (.int .i64 x157003_2) ∧ w'.cell? (ad157.add ((x9_2).toNat * 3)) = some (.slice A161_0 ((rd_T71 l0 x9_2).f0).length c161_0) ∧ w'.cell? ⟨(ad157.add ((x9_2).toNat * 3)).block, (ad157.add ((x9_2).toNat * 3)).off + 1, none⟩ = some (.slice A161_1 ((rd_T71 l0 x9_2).f1).length c161_1) ∧ w'.cell? ⟨(ad157.add ((x9_2).toNat * 3)).block, (ad157.add ((x9_2).toNat * 3)).off + 2, none⟩ = some (.int .i64 ((rd_T71 l0 x9_2).f2))) (ds := [9]) #[false, false, false, false, false, false, false, false, false, false] (by kernel_rfl) rfl rfl ⟨(blk_cell BK156.out 0).trans rfl, (blk_cell BK156.out 1).trans rfl, (blk_cell BK156.out 2).trans rfl, (blk_cell BK156.out 3).trans rfl, ((HB.out.cell (World.block_lt_of_cell? w _ hw161_0)).trans hw161_0), ((HB.out.cell (World.block_lt_of_cell? w _ hw161_1)).trans hw161_1), ((HB.out.cell (World.block_lt_of_cell? w _ hw161_2)).trans hw161_2)⟩ (fun hHeld => ?_); refine with_tabW decorumref09_Pick.tab18 decorumref09_Pick.bits18 (fun HT_ HW_ => ?_)
                              generalize wr.drew = w37 at HO_157002 BK154 BK156 HB HR161_0 HR161_1 hx161_0 hx161_1 hx161_2 hHeld ⊢
                              refine pure_ (i := 0) (N := some 69) (v := ?_) (a' := ?_) #[true, false, false, false, false, false, false, false, false, false] rfl rfl (any_of HT_.out (by kernel_rfl)) (fun _ _ _ h => h) (Or.inl ⟨by rfl, ?_⟩) ?_ ?_
                              rotate_left
                              · intro w'
                                go_simp
                                with_reducible rfl
                              rotate_left
                              · simp only [Act.put, List.setIfInBounds_toArray, List.set_cons_zero, List.set_cons_succ, i64_w, i32_w]
                                rfl
                              refine pure_ (i := 2) (N := some 71) (v := ?_) (a' := ?_) #[true, false, true, false, false, false, false, false, false, false] rfl rfl (any_of HT_.out (by kernel_rfl)) (fun _ _ _ h => h) (Or.inl ⟨by rfl, ?_⟩) ?_ ?_
                              rotate_left
                              · intro w'
                                go_simp
                                with_reducible rfl
                              rotate_left
                              · simp only [Act.put, List.setIfInBounds_toArray, List.set_cons_zero, List.set_cons_succ, i64_w, i32_w]
                                rfl
                              refine pure_ (i := 3) (N := some 72) (v := ?_) (a' := ?_) #[true, false, true, true, false, false, false, false, false, false] rfl rfl (any_of HT_.out (by kernel_rfl)) (fun _ _ _ h => h) (Or.inl ⟨by rfl, ?_⟩) ?_ ?_
                              rotate_left
                              · intro w'
                                go_simp
                                with_reducible rfl
                              rotate_left
                              · simp only [Act.put, List.setIfInBounds_toArray, List.set_cons_zero, List.set_cons_succ, i64_w, i32_w]
                                rfl
                              refine pure_ (i := 4) (N := some 73) (v := ?_) (a' := ?_) #[true, false, true, true, true, false, false, false, false, false] rfl rfl (any_of HT_.out (by kernel_rfl)) (fun _ _ _ h => h) (Or.inl ⟨by rfl, ?_⟩) ?_ ?_
                              rotate_left
                              · intro w'
                                go_simp
                                with_reducible rfl
                              rotate_left
                              · simp only [Act.put, List.setIfInBounds_toArray, List.set_cons_zero, List.set_cons_succ, i64_w, i32_w]
                                rfl
                              refine pure_ (i := 5) (N := some 74) (v := ?_) (a' := ?_) #[true, false, true, true, true, true, false, false, false, false] rfl rfl (any_of HT_.out (by kernel_rfl)) (fun _ _ _ h => h) (Or.inl ⟨by rfl, ?_⟩) ?_ ?_
                              rotate_left
                              · intro w'
                                go_simp
                                with_reducible rfl
                              rotate_left
                              · simp only [Act.put, List.setIfInBounds_toArray, List.set_cons_zero, List.set_cons_succ, i64_w, i32_w]
                                rfl
                              refine take_ (i := 1) (N := some 70) (v := ?_) (a' := ?_) #[true, true, true, true, true, true, false, false, false, false] rfl rfl (take_ofW HT_.out HW_.out (by kernel_rfl)) (fun _ _ _ h => h) (Or.inl ⟨by rfl, ?_⟩) hHeld ?_ ?_
                              rotate_left
                              · rintro w' ⟨s0, s1, s2, s3, s4, s5, s6⟩
                                go_simp
                                with_reducible rfl
                              rotate_left
                              · simp only [Act.put, List.setIfInBounds_toArray, List.set_cons_zero, List.set_cons_succ, i64_w, i32_w]
                                rfl
                              refine take_ (i := 6) (N := some 75) (v := ?_) (a' := ?_) #[true, true, true, true, true, true, true, false, false, false] rfl rfl (take_ofW HT_.out HW_.out (by kernel_rfl)) (fun _ _ _ h => h) (Or.inl ⟨by rfl, ?_⟩) hHeld ?_ ?_
                              rotate_left
                              · rintro w' ⟨s0, s1, s2, s3, s4, s5, s6⟩
                                go_simp
                                with_reducible rfl
                              rotate_left
                              · simp only [Act.put, List.setIfInBounds_toArray, List.set_cons_zero, List.set_cons_succ, i64_w, i32_w]
                                rfl
                              refine one_ (i := 7) (N := some 76) #[true, true, true, true, true, true, true, true, false, false] rfl rfl (one_of HT_.out (by kernel_rfl)) (by decide) (fun K hK => ?_)
                              refine Kd.R_append_rows_step k30 (w0 := w) w.heap.size (by rfl) (.tmp 70) (.tmp 75) 24 30 (.agg #[(.bool false), (.string ⟨#[]⟩)]) 24 rfl Tryd.underlying24 info30 rfl (by decide) (by omega) u157002 x157002_2 ((rd_T71 l0 x9_2).f1) _ _ _ (fun _ => True) (fun _ => False) rfl rfl ?aO ?aR (fun _ _ h => h) (fun _ h => h.elim) ?aF ?aB ?aS ?aL ?_
                              (case aR => repeat (first | exact (Kd.C_below HR161_1.out HB.out) | (with_reducible refine Kd.C_alloc ?_ _) | (with_reducible refine Kd.C_drewN ?_ _) | (with_reducible refine Kd.C_drew ?_)))
                              (case aB => exact (by repeat (first | (with_reducible first | exact HB.out | apply below_alloc | apply pw_below_drewN | apply below_drew1 | refine below_set ?_ GE154.out | refine below_set ?_ GE156.out) | exact HB.out)))
                              (case aF => exact (fun _ _ => trivial))
                              (case aO => exact (by (with_reducible repeat (first | apply Kd.R_alloc | apply Kd.R_drewN | apply Kd.R_drew)); exact HO_157002.out))
                              (case aS => exact (below_size (by repeat (first | (with_reducible first | exact HB.out | apply below_alloc | apply pw_below_drewN | apply below_drew1 | refine below_set ?_ GE154.out | refine below_set ?_ GE156.out) | exact HB.out))))
                              (case aL => have := LMc27.out; omega)
                              intro v163 w38 ho hb hg hat
                              rw [← Ny162.out] at ho
                              have n0_ := Aside0.mk (blk_grown (g := gb154) (o := .cells #[.bool x155000_1, .bool x155001_1, .slice none 0 0, .int .i64 x155003_1] 26 (0, 0)) (by (with_reducible repeat (first | refine blk_drewN ?_ _ | refine blk_drew ?_ | refine blk_alloc ?_ _)); exact BK154.out) hg (Kd.R_ne HO_157002.out BK154.out (by decide)))
                              have n1_ := Aside0.mk (blk_grown (g := gb156) (o := .cells #[.bool false, .bool false, u157002, .int .i64 x157003_2] 26 (0, 0)) (by (with_reducible repeat (first | refine blk_drewN ?_ _ | refine blk_drew ?_ | refine blk_alloc ?_ _)); exact BK156.out) hg (Kd.R_ne HO_157002.out BK156.out (by decide)))
                              have n2_ := Aside0.mk (hb)
                              have n3_ := Aside0.mk (ho)
                              clear BK154
                              clear BK156
                              clear HB
                              clear HO_157002
                              have BK154 := n0_
                              have BK156 := n1_
                              have HB := n2_
                              have HO164 := n3_
                              clear n0_ n1_ n2_ n3_
                              clear ho hb hg hat
                              obtain ⟨Ao39, co39, eo39⟩ := Kd.R_slice HO164.out
                              (first | subst eo39 | (injection eo39 with f1_ f2_ f3_; have f4_ := f1_.symm; have f5_ := f3_.symm; clear f1_ f2_ f3_; subst f4_; subst f5_))
                              refine hK.out _ _ ⟨(blk_cell BK156.out 0).trans rfl, (blk_cell BK156.out 1).trans rfl, (blk_cell BK156.out 2).trans rfl, (blk_cell BK156.out 3).trans rfl, ((HB.out.cell (World.block_lt_of_cell? w _ hw161_0)).trans hw161_0), ((HB.out.cell (World.block_lt_of_cell? w _ hw161_1)).trans hw161_1), ((HB.out.cell (World.block_lt_of_cell? w _ hw161_2)).trans hw161_2)⟩ (fun hHeld => ?_)
                              clear hK K
                              refine norm_ (a' := ?_) ?_ ?_
                              rotate_left
                              · show Act.put _ (some 76) _ = _
                                simp only [Act.put, List.setIfInBounds_toArray, List.set_cons_zero, List.set_cons_succ, i64_w, i32_w]
                                rfl
                              refine pure_ (i := 8) (N := some 77) (v := ?_) (a' := ?_) #[true, true, true, true, true, true, true, true, true, false] rfl rfl (any_of HT_.out (by kernel_rfl)) (fun _ _ _ h => h) (Or.inl ⟨by rfl, ?_⟩) ?_ ?_
                              rotate_left
                              · intro w'
                                go_simp
                                with_reducible rfl
                              rotate_left
                              · simp only [Act.put, List.setIfInBounds_toArray, List.set_cons_zero, List.set_cons_succ, i64_w, i32_w]
                                rfl
                              refine last_ (i := 9) (N := none) #[true, true, true, true, true, true, true, true, true, true] rfl rfl (one_of HT_.out (by kernel_rfl)) (by decide) (fun K hK => ?_)
                              have hs40 : w38.cell? ⟨gb156, 2, none⟩ = some (u157002) := (blk_cell BK156.out 2).trans rfl
                              have hfs40 := blk_frozen BK156.out 2
                              have hns40_0 := NB154_156.out
                              have hms40_0 := NB156_154.out
                              refine skip_ (w1 := ?_) (by rfl) rfl ?_ ?_
                              rotate_left
                              · go_simp
                                rfl
                              refine hK.out _ _ ?_
                              clear hK K
                              refine done_ (done_of HT_.out (by kernel_rfl)) ?_
                              try go_wp2
                              have n0_ : Aside0 (Kd.R k30 30 (w38.setCell ⟨gb156, 2, none⟩ (.slice Ao39 y162.length co39)) w.heap.size (fun _ => True) (.slice Ao39 y162.length co39) y162) := ⟨by (with_reducible repeat (first | apply Kd.R_alloc | apply Kd.R_drewN | apply Kd.R_drew)); exact Kd.R_mono (Kd.R_far (p := ⟨gb156, 2, none⟩) (Kd.R_types HO164.out BK156.out (by decide)) (fun _ hk => hk.2) (.slice Ao39 y162.length co39)) (fun _ hk => trivial)⟩
                              have n1_ : Aside0 ((w38.setCell ⟨gb156, 2, none⟩ (.slice Ao39 y162.length co39)).heap[gb154]? = some (.cells #[.bool x155000_1, .bool x155001_1, .slice none 0 0, .int .i64 x155003_1] 26 (0, 0))) := ⟨by (with_reducible repeat (first | refine blk_drewN ?_ _ | refine blk_drew ?_ | refine blk_alloc ?_ _)); refine blk_far ?_ NB154_156.out _; (with_reducible repeat (first | refine blk_drewN ?_ _ | refine blk_drew ?_ | refine blk_alloc ?_ _)); exact BK154.out⟩
                              have n2_ : Aside0 ((w38.setCell ⟨gb156, 2, none⟩ (.slice Ao39 y162.length co39)).heap[gb156]? = some (.cells #[.bool false, .bool false, .slice Ao39 y162.length co39, .int .i64 x157003_2] 26 (0, 0))) := ⟨by (with_reducible repeat (first | refine blk_drewN ?_ _ | refine blk_drew ?_ | refine blk_alloc ?_ _)); refine blk_put (cs := #[.bool false, .bool false, u157002, .int .i64 x157003_2]) ?_ 2 _ rfl; (with_reducible repeat (first | refine blk_drewN ?_ _ | refine blk_drew ?_ | refine blk_alloc ?_ _)); exact BK156.out⟩
                              have n3_ : Aside0 (Below w.heap.size w (w38.setCell ⟨gb156, 2, none⟩ (.slice Ao39 y162.length co39))) := ⟨by repeat (first | (with_reducible first | exact HB.out | apply below_alloc | apply pw_below_drewN | apply below_drew1 | refine below_set ?_ GE154.out | refine below_set ?_ GE156.out) | exact HB.out)⟩
                              (try clear HO164)
                              (try clear BK154)
                              (try clear BK156)
                              (try clear HB)
                              generalize (w38.setCell ⟨gb156, 2, none⟩ (.slice Ao39 y162.length co39)) = w41 at n0_ n1_ n2_ n3_ ⊢
                              have HO164 := n0_
                              have BK154 := n1_
                              have BK156 := n2_
                              have HB := n3_
                              clear n0_ n1_ n2_ n3_
                              have n0_ := Aside0.mk (Kd.R_drew HO164.out)
                              have n1_ := Aside0.mk (blk_drew BK154.out)
                              have n2_ := Aside0.mk (blk_drew BK156.out)
                              have n3_ := Aside0.mk (below_drew1 HB.out)
                              clear HO164
                              clear BK154
                              clear BK156
                              clear HB
                              have HO164 := n0_
                              have BK154 := n1_
                              have BK156 := n2_
                              have HB := n3_
                              clear n0_ n1_ n2_ n3_
                              have p165 : 0 ≤ (x9_2 : Int) := of_decide_eq_true (by first | (with_reducible assumption) | assumption)
                              have q165 : x9_2 < (l0.length : Int) := of_decide_eq_true (by first | (with_reducible assumption) | assumption)
                              obtain ⟨ad165, A165_0, c165_0, A165_1, c165_1, e165, hx165_0, hx165_1, hx165_2, hl165_0, hi165_0, hl165_1, hi165_1⟩ := at_T71 HR0.out x9_2 p165 q165
                              have hw165_2 := hx165_2
                              have hw165_1 := hx165_1
                              have hw165_0 := hx165_0
                              obtain rfl : ad157 = ad165 := (by injection e165)
                              replace hx165_0 := (HB.out.cell (World.block_lt_of_cell? w _ hx165_0)).trans hx165_0
                              replace hx165_1 := (HB.out.cell (World.block_lt_of_cell? w _ hx165_1)).trans hx165_1
                              replace hx165_2 := (HB.out.cell (World.block_lt_of_cell? w _ hx165_2)).trans hx165_2
                              have HR165_0 := Aside0.mk hi165_0
                              have HC165_0 := Aside0.mk hl165_0
                              clear hi165_0 hl165_0
                              have HR165_1 := Aside0.mk hi165_1
                              have HC165_1 := Aside0.mk hl165_1
                              clear hi165_1 hl165_1
                              replace p165 := eq_true p165
                              replace q165 := eq_true q165
                              refine start_ (n := 8) (S := fun w' => w'.cell? ⟨gb156, 0, none⟩ = some (.bool false) ∧ w'.cell? ⟨gb156, 1, none⟩ = some (.bool false) ∧ w'.cell? ⟨gb156, 2, none⟩ = some (.slice Ao39 y162.length co39) ∧ w'.cell? ⟨gb156, 3, none⟩ = some (.int .i64 x157003_2) ∧ w'.cell? (ad157.add ((x9_2).toNat * 3)) = some (.slice A165_0 ((rd_T71 l0 x9_2).f0).length c165_0) ∧ w'.cell? ⟨(ad157.add ((x9_2).toNat * 3)).block, (ad157.add ((x9_2).toNat * 3)).off + 1, none⟩ = some (.slice A165_1 ((rd_T71 l0 x9_2).f1).length c165_1) ∧ w'.cell? ⟨(ad157.add ((x9_2).toNat * 3)).block, (ad157.add ((x9_2).toNat * 3)).off + 2, none⟩ = some (.int .i64 ((rd_T71 l0 x9_2).f2))) (ds := []) #[false, false, false, false, false, false, false, false] (by kernel_rfl) rfl rfl ⟨(blk_cell BK156.out 0).trans rfl, (blk_cell BK156.out 1).trans rfl, (blk_cell BK156.out 2).trans rfl, (blk_cell BK156.out 3).trans rfl, ((HB.out.cell (World.block_lt_of_cell? w _ hw165_0)).trans hw165_0), ((HB.out.cell (World.block_lt_of_cell? w _ hw165_1)).trans hw165_1), ((HB.out.cell (World.block_lt_of_cell? w _ hw165_2)).trans hw165_2)⟩ (fun hHeld => ?_); refine with_tabW decorumref09_Pick.tab19 decorumref09_Pick.bits19 (fun HT_ HW_ => ?_)
                              generalize w41.drew = w42 at HO164 BK154 BK156 HB HR165_0 HR165_1 hx165_0 hx165_1 hx165_2 hHeld ⊢
                              refine pure_ (i := 0) (N := some 78) (v := ?_) (a' := ?_) #[true, false, false, false, false, false, false, false] rfl rfl (any_of HT_.out (by kernel_rfl)) (fun _ _ _ h => h) (Or.inl ⟨by rfl, ?_⟩) ?_ ?_
                              rotate_left
                              · intro w'
                                go_simp
                                with_reducible rfl
                              rotate_left
                              · simp only [Act.put, List.setIfInBounds_toArray, List.set_cons_zero, List.set_cons_succ, i64_w, i32_w]
                                rfl
                              refine pure_ (i := 1) (N := some 79) (v := ?_) (a' := ?_) #[true, true, false, false, false, false, false, false] rfl rfl (any_of HT_.out (by kernel_rfl)) (fun _ _ _ h => h) (Or.inl ⟨by rfl, ?_⟩) ?_ ?_
                              rotate_left
                              · intro w'
                                go_simp
                                with_reducible rfl
                              rotate_left
                              · simp only [Act.put, List.setIfInBounds_toArray, List.set_cons_zero, List.set_cons_succ, i64_w, i32_w]
                                rfl
                              refine pure_ (i := 2) (N := some 80) (v := ?_) (a' := ?_) #[true, true, true, false, false, false, false, false] rfl rfl (any_of HT_.out (by kernel_rfl)) (fun _ _ _ h => h) (Or.inl ⟨by rfl, ?_⟩) ?_ ?_
                              rotate_left
                              · intro w'
                                go_simp
                                with_reducible rfl
                              rotate_left
                              · simp only [Act.put, List.setIfInBounds_toArray, List.set_cons_zero, List.set_cons_succ, i64_w, i32_w]
                                rfl
                              refine pure_ (i := 3) (N := some 81) (v := ?_) (a' := ?_) #[true, true, true, true, false, false, false, false] rfl rfl (any_of HT_.out (by kernel_rfl)) (fun _ _ _ h => h) (Or.inl ⟨by rfl, ?_⟩) ?_ ?_
                              rotate_left
                              · intro w'
                                go_simp
                                with_reducible rfl
                              rotate_left
                              · simp only [Act.put, List.setIfInBounds_toArray, List.set_cons_zero, List.set_cons_succ, i64_w, i32_w]
                                rfl
                              refine pure_ (i := 5) (N := some 83) (v := ?_) (a' := ?_) #[true, true, true, true, false, true, false, false] rfl rfl (any_of HT_.out (by kernel_rfl)) (fun _ _ _ h => h) (Or.inl ⟨by rfl, ?_⟩) ?_ ?_
                              rotate_left
                              · intro w'
                                go_simp
                                with_reducible rfl
                              rotate_left
                              · simp only [Act.put, List.setIfInBounds_toArray, List.set_cons_zero, List.set_cons_succ, i64_w, i32_w]
                                rfl
                              refine take_ (i := 4) (N := some 82) (v := ?_) (a' := ?_) #[true, true, true, true, true, true, false, false] rfl rfl (take_ofW HT_.out HW_.out (by kernel_rfl)) (fun _ _ _ h => h) (Or.inl ⟨by rfl, ?_⟩) hHeld ?_ ?_
                              rotate_left
                              · rintro w' ⟨s0, s1, s2, s3, s4, s5, s6⟩
                                go_simp
                                with_reducible rfl
                              rotate_left
                              · simp only [Act.put, List.setIfInBounds_toArray, List.set_cons_zero, List.set_cons_succ, i64_w, i32_w]
                                rfl
                              refine take_ (i := 6) (N := some 84) (v := ?_) (a' := ?_) #[true, true, true, true, true, true, true, false] rfl rfl (take_ofW HT_.out HW_.out (by kernel_rfl)) (fun _ _ _ h => h) (Or.inl ⟨by rfl, ?_⟩) hHeld ?_ ?_
                              rotate_left
                              · rintro w' ⟨s0, s1, s2, s3, s4, s5, s6⟩
                                go_simp
                                with_reducible rfl
                              rotate_left
                              · simp only [Act.put, List.setIfInBounds_toArray, List.set_cons_zero, List.set_cons_succ, i64_w, i32_w]
                                rfl
                              refine pure_ (i := 7) (N := some 85) (v := ?_) (a' := ?_) #[true, true, true, true, true, true, true, true] rfl rfl (any_of HT_.out (by kernel_rfl)) (fun _ _ _ h => h) (Or.inl ⟨by rfl, ?_⟩) ?_ ?_
                              rotate_left
                              · intro w'
                                go_simp
                                with_reducible rfl
                              rotate_left
                              · simp only [Act.put, List.setIfInBounds_toArray, List.set_cons_zero, List.set_cons_succ, i64_w, i32_w]
                                rfl
                              refine done_ (done_of HT_.out (by kernel_rfl)) ?_
                              try go_wp2
                              go_roundg k3
                              case measure => have := HK1.out; have := HK2.out; have := HK3.out; omega
                              case rel => exact ⟨(true), (wrap64 (x9_2 + 1)), (y162), (x157003_2), (.slice Ao39 y162.length co39), (by first | rfl | (simp; done) | (simp [*]; done)), (by first | rfl | (simp; done) | (simp [*]; done)), H', ⟨by have := HK1.out; have := HK2.out; have := HK3.out; omega⟩, ⟨by (with_reducible repeat (first | apply Kd.R_alloc | apply Kd.R_drewN | apply Kd.R_drew)); exact HO164.out⟩, ⟨by (with_reducible repeat (first | refine blk_drewN ?_ _ | refine blk_drew ?_ | refine blk_alloc ?_ _)); exact BK154.out⟩, ⟨by (with_reducible repeat (first | refine blk_drewN ?_ _ | refine blk_drew ?_ | refine blk_alloc ?_ _)); exact BK156.out⟩, ⟨by repeat (first | (with_reducible first | exact HB.out | apply below_alloc | apply pw_below_drewN | apply below_drew1 | refine below_set ?_ GE154.out | refine below_set ?_ GE156.out) | exact HB.out)⟩⟩
                          · rw [if_neg c27] at H
                            exact absurd H (by simp)
                        · replace c26 := Bool.eq_false_iff.mpr c26
                          subst c26
                          have H1 : (decorumref09_Pick.l1 k3 l0 t155 x6_1 x8_2 (wrap64 (x9_2 + 1)) false false x157002_2 x157003_2) = some (r1, r2, r3, r4) := by rw [if_neg (show ¬ (false = true) by decide)] at H; exact H
                          clear H
                          have H := H1
                          clear H1
                          have H' := Aside0.mk H
                          clear H
                          have p157 : 0 ≤ (x9_2 : Int) := of_decide_eq_true (by first | (with_reducible assumption) | assumption)
                          have q157 : x9_2 < (l0.length : Int) := of_decide_eq_true (by first | (with_reducible assumption) | assumption)
                          obtain ⟨ad157, A157_0, c157_0, A157_1, c157_1, e157, hx157_0, hx157_1, hx157_2, hl157_0, hi157_0, hl157_1, hi157_1⟩ := at_T71 HR0.out x9_2 p157 q157
                          cases e157
                          replace hx157_0 := (HB.out.cell (World.block_lt_of_cell? w _ hx157_0)).trans hx157_0
                          replace hx157_1 := (HB.out.cell (World.block_lt_of_cell? w _ hx157_1)).trans hx157_1
                          replace hx157_2 := (HB.out.cell (World.block_lt_of_cell? w _ hx157_2)).trans hx157_2
                          have HR157_0 := Aside0.mk hi157_0
                          have HC157_0 := Aside0.mk hl157_0
                          clear hi157_0 hl157_0
                          have HR157_1 := Aside0.mk hi157_1
                          have HC157_1 := Aside0.mk hl157_1
                          clear hi157_1 hl157_1
                          replace p157 := eq_true p157
                          replace q157 := eq_true q157
                          go_wp2
                          go_roundg k3
                          case measure => have := HK1.out; have := HK2.out; have := HK3.out; omega
                          case rel => exact ⟨(x8_2), (wrap64 (x9_2 + 1)), (x157002_2), (x157003_2), (u157002), (by first | rfl | (simp; done) | (simp [*]; done)), (by first | rfl | (simp; done) | (simp [*]; done)), H', ⟨by have := HK1.out; have := HK2.out; have := HK3.out; omega⟩, ⟨by (with_reducible repeat (first | apply Kd.R_alloc | apply Kd.R_drewN | apply Kd.R_drew)); exact HO_157002.out⟩, ⟨by (with_reducible repeat (first | refine blk_drewN ?_ _ | refine blk_drew ?_ | refine blk_alloc ?_ _)); exact BK154.out⟩, ⟨by (with_reducible repeat (first | refine blk_drewN ?_ _ | refine blk_drew ?_ | refine blk_alloc ?_ _)); exact BK156.out⟩, ⟨by repeat (first | (with_reducible first | exact HB.out | apply below_alloc | apply pw_below_drewN | apply below_drew1 | refine below_set ?_ GE154.out | refine below_set ?_ GE156.out) | exact HB.out)⟩⟩
                    · rw [if_neg c12] at H
                      exact absurd H (by simp)
                  · rw [if_neg c11] at H
                    exact absurd H (by simp)
            · rw [if_neg c10] at H
              have c10b0 : decide (x9_2 < (l0.length : Int)) = false := decide_eq_false c10
              clear c10
              by_cases c43 : (x157002_2.length : Int) > 64
              · rw [if_pos c43] at H
                have c43b0 : decide (64 < (x157002_2.length : Int)) = true := decide_eq_true c43
                have c43b1 : decide (64 < x157002_2.length) = true := decide_eq_true (by omega)
                clear c43
                by_cases c44 : 64 ≤ (x157002_2.length : Int)
                · rw [if_pos c44] at H
                  have c44b0 := eq_true c44
                  have c44b1 : decide (64 ≤ (x157002_2.length : Int)) = true := decide_eq_true c44
                  clear c44
                  obtain ⟨y167, hy167⟩ : ∃ y_ : List (S30), y_ = (x157002_2.take (64 : Int).toNat) := ⟨_, rfl⟩
                  replace H : (if x8_2 = true then (some (false, false, y167, x157003_2)) else (if x6_1 = 1 then (some (false, false, y167, x157003_2)) else (decorumref09_Pick.l0 k2 l0 t155 (wrap64 (x6_1 + 1))))) = some (r1, r2, r3, r4) := by first | (rw [hy167]; with_reducible exact H) | (have H2_ := (Option.bind_some _ _).symm.trans H; rw [hy167]; with_reducible exact H2_) | (have H2_ := (Option.bind_some _ _).symm.trans H; with_reducible exact H2_) | with_reducible exact H | (rw [hy167]; exact H) | exact H
                  have Ny167 := Aside0.mk hy167
                  clear hy167
                  by_cases c45 : x8_2 = true
                  · subst c45
                    have H1 : (some (false, false, y167, x157003_2)) = some (r1, r2, r3, r4) := by rw [if_pos rfl] at H; exact H
                    clear H
                    have H := H1
                    clear H1
                    simp only [Option.some.injEq, Prod.mk.injEq] at H
                    obtain ⟨rfl, rfl, rfl, rfl⟩ := H
                    have hnb46 := NB156_154.out
                    have hnc46 := NB154_156.out
                    have hcz47_0 : wr.cell? ⟨gb156, 0, none⟩ = some (.bool false) := (blk_cell BK156.out 0).trans rfl
                    have hcz47_1 : wr.cell? ⟨gb156, 1, none⟩ = some (.bool false) := (blk_cell BK156.out 1).trans rfl
                    have hcz47_2 : wr.cell? ⟨gb156, 2, none⟩ = some (u157002) := (blk_cell BK156.out 2).trans rfl
                    have hcz47_3 : wr.cell? ⟨gb156, 3, none⟩ = some (.int .i64 x157003_2) := (blk_cell BK156.out 3).trans rfl
                    have hfz47_0 := blk_frozen BK156.out 0
                    have hfz47_1 := blk_frozen BK156.out 1
                    have hfz47_2 := blk_frozen BK156.out 2
                    have hfz47_3 := blk_frozen BK156.out 3
                    obtain ⟨Ao48, co48, eo48⟩ := Kd.R_slice HO_157002.out
                    subst eo48
                    have q49 : (64 : Int) ≤ ((x157002_2.length : Int) : Int) := of_decide_eq_true (by first | (with_reducible assumption) | assumption)
                    obtain ⟨i049, hi049, _, hsz49, _⟩ := info_parts info30
                    have hcut49 := cut_to (P := Tryd.prog) 24 30 .i64 Tryd.underlying24 hi049 Ao48 x157002_2.length co48 64 (by omega) q49 (Kd.R_reads' HO_157002.out).2.1
                    have hr49 := Kd.R_take (m := (64 : Int).toNat) HO_157002.out (by omega)
                    have hy49 : y167.length = (64 : Int).toNat := (by rw [Ny167.out, List.length_take]; omega)
                    rw [← Ny167.out] at hr49
                    rw [← hy49] at hr49 hcut49
                    clear hy49 hi049 hsz49 HO_157002
                    have HO169 := Aside0.mk hr49
                    clear hr49
                    replace q49 := eq_true q49
                    have hcz50_0 : wr.cell? ⟨gb154, 0, none⟩ = some (.bool x155000_1) := (blk_cell BK154.out 0).trans rfl
                    have hcz50_1 : wr.cell? ⟨gb154, 1, none⟩ = some (.bool x155001_1) := (blk_cell BK154.out 1).trans rfl
                    have hcz50_2 : wr.cell? ⟨gb154, 2, none⟩ = some (.slice none 0 0) := (blk_cell BK154.out 2).trans rfl
                    have hcz50_3 : wr.cell? ⟨gb154, 3, none⟩ = some (.int .i64 x155003_1) := (blk_cell BK154.out 3).trans rfl
                    have hfz50_0 := blk_frozen BK154.out 0
                    have hfz50_1 := blk_frozen BK154.out 1
                    have hfz50_2 := blk_frozen BK154.out 2
                    have hfz50_3 := blk_frozen BK154.out 3
                    go_wp2
                    refine bodyPost_ret (results_cell_row rfl _ _ gb154 26 #[.bool false, .bool false, .slice Ao48 y167.length co48, .int .i64 x157003_2] (0, 0) _ rfl (by (with_reducible repeat (first | refine blk_drewN ?_ _ | refine blk_drew ?_ | refine blk_alloc ?_ _)); refine blk_put (cs := #[.bool false, .bool false, .slice Ao48 y167.length co48, .int .i64 x155003_1]) ?_ 3 _ rfl; (with_reducible repeat (first | refine blk_drewN ?_ _ | refine blk_drew ?_ | refine blk_alloc ?_ _)); refine blk_put (cs := #[.bool false, .bool false, .slice none 0 0, .int .i64 x155003_1]) ?_ 2 _ rfl; (with_reducible repeat (first | refine blk_drewN ?_ _ | refine blk_drew ?_ | refine blk_alloc ?_ _)); refine blk_put (cs := #[.bool false, .bool x155001_1, .slice none 0 0, .int .i64 x155003_1]) ?_ 1 _ rfl; (with_reducible repeat (first | refine blk_drewN ?_ _ | refine blk_drew ?_ | refine blk_alloc ?_ _)); refine blk_put (cs := #[.bool x155000_1, .bool x155001_1, .slice none 0 0, .int .i64 x155003_1]) ?_ 0 _ rfl; (with_reducible repeat (first | refine blk_drewN ?_ _ | refine blk_drew ?_ | refine blk_alloc ?_ _)); refine blk_far ?_ NB154_156.out _; (with_reducible repeat (first | refine blk_drewN ?_ _ | refine blk_drew ?_ | refine blk_alloc ?_ _)); exact BK154.out) Tryd.underlying26 rfl (by kernel_rfl)) rfl ?_
                    exact ⟨_, by first | rfl | (simp [errW_none, errW_some] <;> rfl) | (simp [*, errW_none, errW_some] <;> rfl) | (simp [wrap64]; done) | (simp [errW_none, errW_some] <;> exact empty_bne _), by (with_reducible repeat (first | apply Kd.R_alloc | apply Kd.R_drewN | apply Kd.R_drew)); exact Kd.R_mono (Kd.R_far (p := ⟨gb154, 3, none⟩) (Kd.R_far (p := ⟨gb154, 2, none⟩) (Kd.R_far (p := ⟨gb154, 1, none⟩) (Kd.R_far (p := ⟨gb154, 0, none⟩) (Kd.R_far (p := ⟨gb156, 2, none⟩) (Kd.R_types (Kd.R_types HO169.out BK156.out (by decide)) BK154.out (by decide)) (fun _ hk => hk.1.2) (.slice Ao48 y167.length co48)) (fun _ hk => hk.2) (.bool false)) (fun _ hk => hk.2) (.bool false)) (fun _ hk => hk.2) (.slice Ao48 y167.length co48)) (fun _ hk => hk.2) (.int .i64 x157003_2)) (fun _ hk => trivial), by repeat (first | (with_reducible first | exact HB.out | apply below_alloc | apply pw_below_drewN | apply below_drew1 | refine below_set ?_ GE154.out | refine below_set ?_ GE156.out) | exact HB.out)⟩
                  · replace c45 := Bool.eq_false_iff.mpr c45
                    subst c45
                    have H1 : (if x6_1 = 1 then (some (false, false, y167, x157003_2)) else (decorumref09_Pick.l0 k2 l0 t155 (wrap64 (x6_1 + 1)))) = some (r1, r2, r3, r4) := by rw [if_neg (show ¬ (false = true) by decide)] at H; exact H
                    clear H
                    have H := H1
                    clear H1
                    by_cases c51 : x6_1 = 1
                    · rw [if_pos c51] at H
                      have c51b0 : (x6_1 == 1) = true := beq_iff_eq.mpr c51
                      have c51b1 : (x6_1 != 1) = false := bne_eq_false_iff_eq.mpr c51
                      clear c51
                      simp only [Option.some.injEq, Prod.mk.injEq] at H
                      obtain ⟨rfl, rfl, rfl, rfl⟩ := H
                      have hnb52 := NB156_154.out
                      have hnc52 := NB154_156.out
                      have hcz53_0 : wr.cell? ⟨gb156, 0, none⟩ = some (.bool false) := (blk_cell BK156.out 0).trans rfl
                      have hcz53_1 : wr.cell? ⟨gb156, 1, none⟩ = some (.bool false) := (blk_cell BK156.out 1).trans rfl
                      have hcz53_2 : wr.cell? ⟨gb156, 2, none⟩ = some (u157002) := (blk_cell BK156.out 2).trans rfl
                      have hcz53_3 : wr.cell? ⟨gb156, 3, none⟩ = some (.int .i64 x157003_2) := (blk_cell BK156.out 3).trans rfl
                      have hfz53_0 := blk_frozen BK156.out 0
                      have hfz53_1 := blk_frozen BK156.out 1
                      have hfz53_2 := blk_frozen BK156.out 2
                      have hfz53_3 := blk_frozen BK156.out 3
                      obtain ⟨Ao54, co54, eo54⟩ := Kd.R_slice HO_157002.out
                      subst eo54
                      have q55 : (64 : Int) ≤ ((x157002_2.length : Int) : Int) := of_decide_eq_true (by first | (with_reducible assumption) | assumption)
                      obtain ⟨i055, hi055, _, hsz55, _⟩ := info_parts info30
                      have hcut55 := cut_to (P := Tryd.prog) 24 30 .i64 Tryd.underlying24 hi055 Ao54 x157002_2.length co54 64 (by omega) q55 (Kd.R_reads' HO_157002.out).2.1
                      have hr55 := Kd.R_take (m := (64 : Int).toNat) HO_157002.out (by omega)
                      have hy55 : y167.length = (64 : Int).toNat := (by rw [Ny167.out, List.length_take]; omega)
                      rw [← Ny167.out] at hr55
                      rw [← hy55] at hr55 hcut55
                      clear hy55 hi055 hsz55 HO_157002
                      have HO169 := Aside0.mk hr55
                      clear hr55
                      replace q55 := eq_true q55
                      have hcz56_0 : wr.cell? ⟨gb154, 0, none⟩ = some (.bool x155000_1) := (blk_cell BK154.out 0).trans rfl
                      have hcz56_1 : wr.cell? ⟨gb154, 1, none⟩ = some (.bool x155001_1) := (blk_cell BK154.out 1).trans rfl
                      have hcz56_2 : wr.cell? ⟨gb154, 2, none⟩ = some (.slice none 0 0) := (blk_cell BK154.out 2).trans rfl
                      have hcz56_3 : wr.cell? ⟨gb154, 3, none⟩ = some (.int .i64 x155003_1) := (blk_cell BK154.out 3).trans rfl
                      have hfz56_0 := blk_frozen BK154.out 0
                      have hfz56_1 := blk_frozen BK154.out 1
                      have hfz56_2 := blk_frozen BK154.out 2
                      have hfz56_3 := blk_frozen BK154.out 3
                      go_wp2
                      refine bodyPost_ret (results_cell_row rfl _ _ gb154 26 #[.bool false, .bool false, .slice Ao54 y167.length co54, .int .i64 x157003_2] (0, 0) _ rfl (by (with_reducible repeat (first | refine blk_drewN ?_ _ | refine blk_drew ?_ | refine blk_alloc ?_ _)); refine blk_put (cs := #[.bool false, .bool false, .slice Ao54 y167.length co54, .int .i64 x155003_1]) ?_ 3 _ rfl; (with_reducible repeat (first | refine blk_drewN ?_ _ | refine blk_drew ?_ | refine blk_alloc ?_ _)); refine blk_put (cs := #[.bool false, .bool false, .slice none 0 0, .int .i64 x155003_1]) ?_ 2 _ rfl; (with_reducible repeat (first | refine blk_drewN ?_ _ | refine blk_drew ?_ | refine blk_alloc ?_ _)); refine blk_put (cs := #[.bool false, .bool x155001_1, .slice none 0 0, .int .i64 x155003_1]) ?_ 1 _ rfl; (with_reducible repeat (first | refine blk_drewN ?_ _ | refine blk_drew ?_ | refine blk_alloc ?_ _)); refine blk_put (cs := #[.bool x155000_1, .bool x155001_1, .slice none 0 0, .int .i64 x155003_1]) ?_ 0 _ rfl; (with_reducible repeat (first | refine blk_drewN ?_ _ | refine blk_drew ?_ | refine blk_alloc ?_ _)); refine blk_far ?_ NB154_156.out _; (with_reducible repeat (first | refine blk_drewN ?_ _ | refine blk_drew ?_ | refine blk_alloc ?_ _)); exact BK154.out) Tryd.underlying26 rfl (by kernel_rfl)) rfl ?_
                      exact ⟨_, by first | rfl | (simp [errW_none, errW_some] <;> rfl) | (simp [*, errW_none, errW_some] <;> rfl) | (simp [wrap64]; done) | (simp [errW_none, errW_some] <;> exact empty_bne _), by (with_reducible repeat (first | apply Kd.R_alloc | apply Kd.R_drewN | apply Kd.R_drew)); exact Kd.R_mono (Kd.R_far (p := ⟨gb154, 3, none⟩) (Kd.R_far (p := ⟨gb154, 2, none⟩) (Kd.R_far (p := ⟨gb154, 1, none⟩) (Kd.R_far (p := ⟨gb154, 0, none⟩) (Kd.R_far (p := ⟨gb156, 2, none⟩) (Kd.R_types (Kd.R_types HO169.out BK156.out (by decide)) BK154.out (by decide)) (fun _ hk => hk.1.2) (.slice Ao54 y167.length co54)) (fun _ hk => hk.2) (.bool false)) (fun _ hk => hk.2) (.bool false)) (fun _ hk => hk.2) (.slice Ao54 y167.length co54)) (fun _ hk => hk.2) (.int .i64 x157003_2)) (fun _ hk => trivial), by repeat (first | (with_reducible first | exact HB.out | apply below_alloc | apply pw_below_drewN | apply below_drew1 | refine below_set ?_ GE154.out | refine below_set ?_ GE156.out) | exact HB.out)⟩
                    · rw [if_neg c51] at H
                      have c51b0 : (x6_1 == 1) = false := beq_eq_false_iff_ne.mpr c51
                      have c51b1 : (x6_1 != 1) = true := bne_iff_ne.mpr c51
                      have H' := Aside0.mk H
                      clear H
                      have hnb57 := NB156_154.out
                      have hnc57 := NB154_156.out
                      have hcz58_0 : wr.cell? ⟨gb156, 0, none⟩ = some (.bool false) := (blk_cell BK156.out 0).trans rfl
                      have hcz58_1 : wr.cell? ⟨gb156, 1, none⟩ = some (.bool false) := (blk_cell BK156.out 1).trans rfl
                      have hcz58_2 : wr.cell? ⟨gb156, 2, none⟩ = some (u157002) := (blk_cell BK156.out 2).trans rfl
                      have hcz58_3 : wr.cell? ⟨gb156, 3, none⟩ = some (.int .i64 x157003_2) := (blk_cell BK156.out 3).trans rfl
                      have hfz58_0 := blk_frozen BK156.out 0
                      have hfz58_1 := blk_frozen BK156.out 1
                      have hfz58_2 := blk_frozen BK156.out 2
                      have hfz58_3 := blk_frozen BK156.out 3
                      obtain ⟨Ao59, co59, eo59⟩ := Kd.R_slice HO_157002.out
                      subst eo59
                      have q60 : (64 : Int) ≤ ((x157002_2.length : Int) : Int) := of_decide_eq_true (by first | (with_reducible assumption) | assumption)
                      obtain ⟨i060, hi060, _, hsz60, _⟩ := info_parts info30
                      have hcut60 := cut_to (P := Tryd.prog) 24 30 .i64 Tryd.underlying24 hi060 Ao59 x157002_2.length co59 64 (by omega) q60 (Kd.R_reads' HO_157002.out).2.1
                      have hr60 := Kd.R_take (m := (64 : Int).toNat) HO_157002.out (by omega)
                      have hy60 : y167.length = (64 : Int).toNat := (by rw [Ny167.out, List.length_take]; omega)
                      rw [← Ny167.out] at hr60
                      rw [← hy60] at hr60 hcut60
                      clear hy60 hi060 hsz60 HO_157002
                      have HO169 := Aside0.mk hr60
                      clear hr60
                      replace q60 := eq_true q60
                      go_wp2
                      go_roundg k2
                      case measure => have := HK1.out; have := HK2.out; omega
                      case rel => exact ⟨(wrap64 (x6_1 + 1)), (x155000_1), (x155001_1), (x155003_1), (by first | rfl | (simp; done) | (simp [*]; done)), H', ⟨by have := HK1.out; have := HK2.out; omega⟩, ⟨by (with_reducible repeat (first | refine blk_drewN ?_ _ | refine blk_drew ?_ | refine blk_alloc ?_ _)); refine blk_far ?_ NB154_156.out _; (with_reducible repeat (first | refine blk_drewN ?_ _ | refine blk_drew ?_ | refine blk_alloc ?_ _)); exact BK154.out⟩, ⟨by repeat (first | (with_reducible first | exact HB.out | apply below_alloc | apply pw_below_drewN | apply below_drew1 | refine below_set ?_ GE154.out | refine below_set ?_ GE156.out) | exact HB.out)⟩⟩
                · rw [if_neg c44] at H
                  exact absurd H (by simp)
              · rw [if_neg c43] at H
                have c43b0 : decide (64 < (x157002_2.length : Int)) = false := decide_eq_false c43
                have c43b1 : decide (64 < x157002_2.length) = false := decide_eq_false (by omega)
                clear c43
                by_cases c61 : x8_2 = true
                · subst c61
                  have H1 : (some (false, false, x157002_2, x157003_2)) = some (r1, r2, r3, r4) := by rw [if_pos rfl] at H; exact H
                  clear H
                  have H := H1
                  clear H1
                  simp only [Option.some.injEq, Prod.mk.injEq] at H
                  obtain ⟨rfl, rfl, rfl, rfl⟩ := H
                  have hnb62 := NB156_154.out
                  have hnc62 := NB154_156.out
                  have hcz63_0 : wr.cell? ⟨gb156, 0, none⟩ = some (.bool false) := (blk_cell BK156.out 0).trans rfl
                  have hcz63_1 : wr.cell? ⟨gb156, 1, none⟩ = some (.bool false) := (blk_cell BK156.out 1).trans rfl
                  have hcz63_2 : wr.cell? ⟨gb156, 2, none⟩ = some (u157002) := (blk_cell BK156.out 2).trans rfl
                  have hcz63_3 : wr.cell? ⟨gb156, 3, none⟩ = some (.int .i64 x157003_2) := (blk_cell BK156.out 3).trans rfl
                  have hfz63_0 := blk_frozen BK156.out 0
                  have hfz63_1 := blk_frozen BK156.out 1
                  have hfz63_2 := blk_frozen BK156.out 2
                  have hfz63_3 := blk_frozen BK156.out 3
                  obtain ⟨Ao64, co64, eo64⟩ := Kd.R_slice HO_157002.out
                  subst eo64
                  have hcz65_0 : wr.cell? ⟨gb154, 0, none⟩ = some (.bool x155000_1) := (blk_cell BK154.out 0).trans rfl
                  have hcz65_1 : wr.cell? ⟨gb154, 1, none⟩ = some (.bool x155001_1) := (blk_cell BK154.out 1).trans rfl
                  have hcz65_2 : wr.cell? ⟨gb154, 2, none⟩ = some (.slice none 0 0) := (blk_cell BK154.out 2).trans rfl
                  have hcz65_3 : wr.cell? ⟨gb154, 3, none⟩ = some (.int .i64 x155003_1) := (blk_cell BK154.out 3).trans rfl
                  have hfz65_0 := blk_frozen BK154.out 0
                  have hfz65_1 := blk_frozen BK154.out 1
                  have hfz65_2 := blk_frozen BK154.out 2
                  have hfz65_3 := blk_frozen BK154.out 3
                  go_wp2
                  refine bodyPost_ret (results_cell_row rfl _ _ gb154 26 #[.bool false, .bool false, .slice Ao64 x157002_2.length co64, .int .i64 x157003_2] (0, 0) _ rfl (by (with_reducible repeat (first | refine blk_drewN ?_ _ | refine blk_drew ?_ | refine blk_alloc ?_ _)); refine blk_put (cs := #[.bool false, .bool false, .slice Ao64 x157002_2.length co64, .int .i64 x155003_1]) ?_ 3 _ rfl; (with_reducible repeat (first | refine blk_drewN ?_ _ | refine blk_drew ?_ | refine blk_alloc ?_ _)); refine blk_put (cs := #[.bool false, .bool false, .slice none 0 0, .int .i64 x155003_1]) ?_ 2 _ rfl; (with_reducible repeat (first | refine blk_drewN ?_ _ | refine blk_drew ?_ | refine blk_alloc ?_ _)); refine blk_put (cs := #[.bool false, .bool x155001_1, .slice none 0 0, .int .i64 x155003_1]) ?_ 1 _ rfl; (with_reducible repeat (first | refine blk_drewN ?_ _ | refine blk_drew ?_ | refine blk_alloc ?_ _)); refine blk_put (cs := #[.bool x155000_1, .bool x155001_1, .slice none 0 0, .int .i64 x155003_1]) ?_ 0 _ rfl; (with_reducible repeat (first | refine blk_drewN ?_ _ | refine blk_drew ?_ | refine blk_alloc ?_ _)); exact BK154.out) Tryd.underlying26 rfl (by kernel_rfl)) rfl ?_
                  exact ⟨_, by first | rfl | (simp [errW_none, errW_some] <;> rfl) | (simp [*, errW_none, errW_some] <;> rfl) | (simp [wrap64]; done) | (simp [errW_none, errW_some] <;> exact empty_bne _), by (with_reducible repeat (first | apply Kd.R_alloc | apply Kd.R_drewN | apply Kd.R_drew)); exact Kd.R_mono (Kd.R_far (p := ⟨gb154, 3, none⟩) (Kd.R_far (p := ⟨gb154, 2, none⟩) (Kd.R_far (p := ⟨gb154, 1, none⟩) (Kd.R_far (p := ⟨gb154, 0, none⟩) (Kd.R_types HO_157002.out BK154.out (by decide)) (fun _ hk => hk.2) (.bool false)) (fun _ hk => hk.2) (.bool false)) (fun _ hk => hk.2) (.slice Ao64 x157002_2.length co64)) (fun _ hk => hk.2) (.int .i64 x157003_2)) (fun _ hk => trivial), by repeat (first | (with_reducible first | exact HB.out | apply below_alloc | apply pw_below_drewN | apply below_drew1 | refine below_set ?_ GE154.out | refine below_set ?_ GE156.out) | exact HB.out)⟩
                · replace c61 := Bool.eq_false_iff.mpr c61
                  subst c61
                  have H1 : (if x6_1 = 1 then (some (false, false, x157002_2, x157003_2)) else (decorumref09_Pick.l0 k2 l0 t155 (wrap64 (x6_1 + 1)))) = some (r1, r2, r3, r4) := by rw [if_neg (show ¬ (false = true) by decide)] at H; exact H
                  clear H
                  have H := H1
                  clear H1
                  by_cases c66 : x6_1 = 1
                  · rw [if_pos c66] at H
                    have c66b0 : (x6_1 == 1) = true := beq_iff_eq.mpr c66
                    have c66b1 : (x6_1 != 1) = false := bne_eq_false_iff_eq.mpr c66
                    clear c66
                    simp only [Option.some.injEq, Prod.mk.injEq] at H
                    obtain ⟨rfl, rfl, rfl, rfl⟩ := H
                    have hnb67 := NB156_154.out
                    have hnc67 := NB154_156.out
                    have hcz68_0 : wr.cell? ⟨gb156, 0, none⟩ = some (.bool false) := (blk_cell BK156.out 0).trans rfl
                    have hcz68_1 : wr.cell? ⟨gb156, 1, none⟩ = some (.bool false) := (blk_cell BK156.out 1).trans rfl
                    have hcz68_2 : wr.cell? ⟨gb156, 2, none⟩ = some (u157002) := (blk_cell BK156.out 2).trans rfl
                    have hcz68_3 : wr.cell? ⟨gb156, 3, none⟩ = some (.int .i64 x157003_2) := (blk_cell BK156.out 3).trans rfl
                    have hfz68_0 := blk_frozen BK156.out 0
                    have hfz68_1 := blk_frozen BK156.out 1
                    have hfz68_2 := blk_frozen BK156.out 2
                    have hfz68_3 := blk_frozen BK156.out 3
                    obtain ⟨Ao69, co69, eo69⟩ := Kd.R_slice HO_157002.out
                    subst eo69
                    have hcz70_0 : wr.cell? ⟨gb154, 0, none⟩ = some (.bool x155000_1) := (blk_cell BK154.out 0).trans rfl
                    have hcz70_1 : wr.cell? ⟨gb154, 1, none⟩ = some (.bool x155001_1) := (blk_cell BK154.out 1).trans rfl
                    have hcz70_2 : wr.cell? ⟨gb154, 2, none⟩ = some (.slice none 0 0) := (blk_cell BK154.out 2).trans rfl
                    have hcz70_3 : wr.cell? ⟨gb154, 3, none⟩ = some (.int .i64 x155003_1) := (blk_cell BK154.out 3).trans rfl
                    have hfz70_0 := blk_frozen BK154.out 0
                    have hfz70_1 := blk_frozen BK154.out 1
                    have hfz70_2 := blk_frozen BK154.out 2
                    have hfz70_3 := blk_frozen BK154.out 3
                    go_wp2
                    refine bodyPost_ret (results_cell_row rfl _ _ gb154 26 #[.bool false, .bool false, .slice Ao69 x157002_2.length co69, .int .i64 x157003_2] (0, 0) _ rfl (by (with_reducible repeat (first | refine blk_drewN ?_ _ | refine blk_drew ?_ | refine blk_alloc ?_ _)); refine blk_put (cs := #[.bool false, .bool false, .slice Ao69 x157002_2.length co69, .int .i64 x155003_1]) ?_ 3 _ rfl; (with_reducible repeat (first | refine blk_drewN ?_ _ | refine blk_drew ?_ | refine blk_alloc ?_ _)); refine blk_put (cs := #[.bool false, .bool false, .slice none 0 0, .int .i64 x155003_1]) ?_ 2 _ rfl; (with_reducible repeat (first | refine blk_drewN ?_ _ | refine blk_drew ?_ | refine blk_alloc ?_ _)); refine blk_put (cs := #[.bool false, .bool x155001_1, .slice none 0 0, .int .i64 x155003_1]) ?_ 1 _ rfl; (with_reducible repeat (first | refine blk_drewN ?_ _ | refine blk_drew ?_ | refine blk_alloc ?_ _)); refine blk_put (cs := #[.bool x155000_1, .bool x155001_1, .slice none 0 0, .int .i64 x155003_1]) ?_ 0 _ rfl; (with_reducible repeat (first | refine blk_drewN ?_ _ | refine blk_drew ?_ | refine blk_alloc ?_ _)); exact BK154.out) Tryd.underlying26 rfl (by kernel_rfl)) rfl ?_
                    exact ⟨_, by first | rfl | (simp [errW_none, errW_some] <;> rfl) | (simp [*, errW_none, errW_some] <;> rfl) | (simp [wrap64]; done) | (simp [errW_none, errW_some] <;> exact empty_bne _), by (with_reducible repeat (first | apply Kd.R_alloc | apply Kd.R_drewN | apply Kd.R_drew)); exact Kd.R_mono (Kd.R_far (p := ⟨gb154, 3, none⟩) (Kd.R_far (p := ⟨gb154, 2, none⟩) (Kd.R_far (p := ⟨gb154, 1, none⟩) (Kd.R_far (p := ⟨gb154, 0, none⟩) (Kd.R_types HO_157002.out BK154.out (by decide)) (fun _ hk => hk.2) (.bool false)) (fun _ hk => hk.2) (.bool false)) (fun _ hk => hk.2) (.slice Ao69 x157002_2.length co69)) (fun _ hk => hk.2) (.int .i64 x157003_2)) (fun _ hk => trivial), by repeat (first | (with_reducible first | exact HB.out | apply below_alloc | apply pw_below_drewN | apply below_drew1 | refine below_set ?_ GE154.out | refine below_set ?_ GE156.out) | exact HB.out)⟩
                  · rw [if_neg c66] at H
                    have c66b0 : (x6_1 == 1) = false := beq_eq_false_iff_ne.mpr c66
                    have c66b1 : (x6_1 != 1) = true := bne_iff_ne.mpr c66
                    have H' := Aside0.mk H
                    clear H
                    have hnb71 := NB156_154.out
                    have hnc71 := NB154_156.out
                    have hcz72_0 : wr.cell? ⟨gb156, 0, none⟩ = some (.bool false) := (blk_cell BK156.out 0).trans rfl
                    have hcz72_1 : wr.cell? ⟨gb156, 1, none⟩ = some (.bool false) := (blk_cell BK156.out 1).trans rfl
                    have hcz72_2 : wr.cell? ⟨gb156, 2, none⟩ = some (u157002) := (blk_cell BK156.out 2).trans rfl
                    have hcz72_3 : wr.cell? ⟨gb156, 3, none⟩ = some (.int .i64 x157003_2) := (blk_cell BK156.out 3).trans rfl
                    have hfz72_0 := blk_frozen BK156.out 0
                    have hfz72_1 := blk_frozen BK156.out 1
                    have hfz72_2 := blk_frozen BK156.out 2
                    have hfz72_3 := blk_frozen BK156.out 3
                    obtain ⟨Ao73, co73, eo73⟩ := Kd.R_slice HO_157002.out
                    subst eo73
                    go_wp2
                    go_roundg k2
                    case measure => have := HK1.out; have := HK2.out; omega
                    case rel => exact ⟨(wrap64 (x6_1 + 1)), (x155000_1), (x155001_1), (x155003_1), (by first | rfl | (simp; done) | (simp [*]; done)), H', ⟨by have := HK1.out; have := HK2.out; omega⟩, ⟨by (with_reducible repeat (first | refine blk_drewN ?_ _ | refine blk_drew ?_ | refine blk_alloc ?_ _)); exact BK154.out⟩, ⟨by repeat (first | (with_reducible first | exact HB.out | apply below_alloc | apply pw_below_drewN | apply below_drew1 | refine below_set ?_ GE154.out | refine below_set ?_ GE156.out) | exact HB.out)⟩⟩
      · rw [if_neg c6] at H
        have c6b0 : decide (x6_1 < 2) = false := decide_eq_false c6
        clear c6
        simp only [Option.some.injEq, Prod.mk.injEq] at H
        obtain ⟨rfl, rfl, rfl, rfl⟩ := H
        have hcz74_0 : wr.cell? ⟨gb154, 0, none⟩ = some (.bool x155000_1) := (blk_cell BK154.out 0).trans rfl
        have hcz74_1 : wr.cell? ⟨gb154, 1, none⟩ = some (.bool x155001_1) := (blk_cell BK154.out 1).trans rfl
        have hcz74_2 : wr.cell? ⟨gb154, 2, none⟩ = some (.slice none 0 0) := (blk_cell BK154.out 2).trans rfl
        have hcz74_3 : wr.cell? ⟨gb154, 3, none⟩ = some (.int .i64 x155003_1) := (blk_cell BK154.out 3).trans rfl
        have hfz74_0 := blk_frozen BK154.out 0
        have hfz74_1 := blk_frozen BK154.out 1
        have hfz74_2 := blk_frozen BK154.out 2
        have hfz74_3 := blk_frozen BK154.out 3
        go_wp2
        refine bodyPost_ret (results_cell_row rfl _ _ gb154 26 #[.bool false, .bool false, .slice none 0 0, .int .i64 0] (0, 0) _ rfl (by (with_reducible repeat (first | refine blk_drewN ?_ _ | refine blk_drew ?_ | refine blk_alloc ?_ _)); refine blk_put (cs := #[.bool false, .bool false, .slice none 0 0, .int .i64 x155003_1]) ?_ 3 _ rfl; (with_reducible repeat (first | refine blk_drewN ?_ _ | refine blk_drew ?_ | refine blk_alloc ?_ _)); refine blk_put (cs := #[.bool false, .bool false, .slice none 0 0, .int .i64 x155003_1]) ?_ 2 _ rfl; (with_reducible repeat (first | refine blk_drewN ?_ _ | refine blk_drew ?_ | refine blk_alloc ?_ _)); refine blk_put (cs := #[.bool false, .bool x155001_1, .slice none 0 0, .int .i64 x155003_1]) ?_ 1 _ rfl; (with_reducible repeat (first | refine blk_drewN ?_ _ | refine blk_drew ?_ | refine blk_alloc ?_ _)); refine blk_put (cs := #[.bool x155000_1, .bool x155001_1, .slice none 0 0, .int .i64 x155003_1]) ?_ 0 _ rfl; (with_reducible repeat (first | refine blk_drewN ?_ _ | refine blk_drew ?_ | refine blk_alloc ?_ _)); exact BK154.out) Tryd.underlying26 rfl (by kernel_rfl)) rfl ?_
        exact ⟨_, by first | rfl | (simp [errW_none, errW_some] <;> rfl) | (simp [*, errW_none, errW_some] <;> rfl) | (simp [wrap64]; done) | (simp [errW_none, errW_some] <;> exact empty_bne _), by first | exact Kd.R_nil _ _ _ _ _ | exact Kd.N_nil _ _ _ _ _ | exact Kd.V_nil _ _ _ _ _ | exact Kd.Q_nil _ _ _ _ _ | exact Kd.S_nil _ _ _ _ _, by repeat (first | (with_reducible first | exact HB.out | apply below_alloc | apply pw_below_drewN | apply below_drew1 | refine below_set ?_ GE154.out) | exact HB.out)⟩

end Go.Proofs.YtdnaddignhjihaaDoor.QBase
namespace Go.Proofs.YtdnaddignhjihaaDoor.QU
open Go.Proofs.YtdnaddignhjihaaDoor.Given Go.Proofs.YtdnaddignhjihaaDoor.GivenM Go.Proofs.YtdnaddignhjihaaDoor.QBase Go.Proofs.YtdnaddignhjihaaDoor.QMM
open Go.RowKit Go.Proofs.YtdnaddignhjihaaDoorW.PrintWords Go.Proofs.YtdnaddignhjihaaDoorW.PrintLast Go.Proofs.YtdnaddignhjihaaDoorW.PrintMore
attribute [local go_sem] max2_int min2_int max_two min_two max_three min_three max_four min_four   -- for this text's walks alone
set_option linter.unusedVariables false
set_option linter.unusedSimpArgs false
def errW : Option Int → Value
  | none => .nilIface
  | some c => .iface 0 (.int .i64 c)
theorem errW_none : errW none = .nilIface := rfl
theorem errW_some (c : Int) : errW (some c) = .iface 0 (.int .i64 c) := rfl

-- the values' own types

end Go.Proofs.YtdnaddignhjihaaDoor.QU
