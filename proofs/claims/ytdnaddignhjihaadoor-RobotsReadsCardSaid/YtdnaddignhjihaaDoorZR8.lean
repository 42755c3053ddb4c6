/- robotsReads_holds: a part of its proof (the texts QUx1, AwA, PureK, WalkRobotsReads, Lift, RowRobotsReads without what this claim does not lean on). -/
import Derived.HandedShaped
import Derived.Handed
import Derived.Test.YtdnaddignhjihaaDoorRows
import Derived.WalkKit
import Derived.ProofKit
import Derived.OpenShut
import Derived.ShutString
import Derived.ChangeOld
import Derived.Below
import Derived.SizedLaws
import Derived.LaidMore
import Derived.Lay
import Derived.SevenTiedAt
import Derived.Stop.Joined
import Derived.Test.YtdnaddignhjihaaDoorCards
import Derived.Test.YtdnaddignhjihaaDoorTie
import Derived.Test.YtdnaddignhjihaaDoorZR7
namespace Go.Proofs.YtdnaddignhjihaaDoor.QU
open Go.Proofs.YtdnaddignhjihaaDoor.Given Go.Proofs.YtdnaddignhjihaaDoor.GivenM Go.Proofs.YtdnaddignhjihaaDoor.QBase Go.Proofs.YtdnaddignhjihaaDoor.QMM
open Go.RowKit Go.Proofs.YtdnaddignhjihaaDoorW.PrintWords Go.Proofs.YtdnaddignhjihaaDoorW.PrintLast Go.Proofs.YtdnaddignhjihaaDoorW.PrintMore
attribute [local go_sem] max2_int min2_int max_two min_two max_three min_three max_four min_four   -- for this text's walks alone
set_option linter.unusedVariables false
set_option linter.unusedSimpArgs false
def match_Allowed.l0 : Nat → ByteArray → Int → Bool → List (S30) → Int → Int → Option (Bool)
  | 0, _, _, _, _, _, _ => none
  | k + 1, x1, x5, x6, x10, x11, x12 => if x12 < x11 then (if 0 ≤ x12 then (if x12 < (x10.length : Int) then ((match_one.f ((rd_T30 x10 x12).f1)).bind fun t103 => ((match_Match.f ((rd_T30 x10 x12).f1) x1).bind fun t104 => (if t104 = true then (if (t103.size : Int) < x5 then (match_Allowed.l0 k x1 x5 x6 x10 x11 (wrap64 (x12 + 1))) else (if (rd_T30 x10 x12).f0 = true then (match_Allowed.l0 k x1 (t103.size : Int) true x10 x11 (wrap64 (x12 + 1))) else (if (t103.size : Int) = x5 then (match_Allowed.l0 k x1 (t103.size : Int) x6 x10 x11 (wrap64 (x12 + 1))) else (match_Allowed.l0 k x1 (t103.size : Int) false x10 x11 (wrap64 (x12 + 1)))))) else (match_Allowed.l0 k x1 x5 x6 x10 x11 (wrap64 (x12 + 1)))))) else (none)) else (none)) else (some x6)
def match_Allowed.f (k : Nat) (l0 : List (S30)) (a1 : ByteArray) : Option (Bool) := match_Allowed.l0 k a1 (-1) true l0 (l0.length : Int) 0
set_option maxHeartbeats 8000000 in
set_option maxRecDepth 100000 in
theorem match_Allowed.calls (k : Nat) (A0 : Option Addr) (c0 : Nat) (l0 : List (S30)) (a1 : ByteArray) (r : Bool) (w : World) (hr0 : Kd.C k30 w A0 l0.length l0) (hc0 : l0.length ≤ c0) (h : match_Allowed.f k l0 a1 = some r) (hS_ : Shp w) :
    Calls Tryd.prog 21 #[.slice A0 l0.length c0, .string a1] w fun e w' => e = .returned (.bool r) ∧ Below w.heap.size w w' := by
  have hu30 := Tryd.underlying30
  have HR0 := Aside0.mk hr0
  have HC0 := Aside0.mk hc0
  clear hr0 hc0
  have HB := Aside0.mk (Below.refl w.heap.size w)
  have HS_ := Aside0.mk hS_
  clear hS_
  have H : (match_Allowed.l0 k a1 (-1) true l0 (l0.length : Int) 0) = some r := h
  clear h
  have H' := Aside0.mk H
  clear H
  go_enter Tryd.func21, Tryd.ntmps21
  go_wp2
  go_loopg [5, 6, 12] k (fun kq v5 v6 v12 w' => ∃ (x5_1 : Int) (x6_1 : Bool) (x12_1 : Int), v5 = .int .i64 x5_1 ∧ v6 = .bool x6_1 ∧ v12 = .int .i64 x12_1 ∧ Aside0 (match_Allowed.l0 kq a1 x5_1 x6_1 l0 (l0.length : Int) x12_1 = some r) ∧ Aside0 (kq ≤ k) ∧ Aside0 (Below w.heap.size w w'))
  case atStart => exact ⟨((-1)), (true), (0), (by first | rfl | (simp; done) | (simp [*]; done)), (by first | rfl | (simp; done) | (simp [*]; done)), (by first | rfl | (simp; done) | (simp [*]; done)), H', ⟨Nat.le_refl _⟩, ⟨by repeat (first | (with_reducible first | exact HB.out | apply below_alloc | apply pw_below_drewN | apply below_drew1) | exact HB.out)⟩⟩
  case round =>
    clear H'
    try clear c2
    try clear p2
    obtain ⟨x5_1, x6_1, x12_1, rfl, rfl, rfl, HA, HK1, HB⟩ := hrel
    cases gk with
    | zero => exact absurd HA.out (by simp [match_Allowed.l0])
    | succ k1 =>
      have H := HA.out
      clear HA
      simp only [match_Allowed.l0] at H
      by_cases c3 : x12_1 < (l0.length : Int)
      · rw [if_pos c3] at H
        have c3b0 : decide (x12_1 < (l0.length : Int)) = true := decide_eq_true c3
        clear c3
        by_cases c4 : 0 ≤ x12_1
        · rw [if_pos c4] at H
          have c4b0 : decide (0 ≤ x12_1) = true := decide_eq_true c4
          clear c4
          by_cases c5 : x12_1 < (l0.length : Int)
          · rw [if_pos c5] at H
            have c5b0 : decide (x12_1 < (l0.length : Int)) = true := decide_eq_true c5
            clear c5
            replace H := Option.bind_eq_some_iff.mp H
            obtain ⟨t103, A60, H⟩ := H
            replace H : ((match_Match.f ((rd_T30 l0 x12_1).f1) a1).bind fun t104 => (if t104 = true then (if (t103.size : Int) < x5_1 then (match_Allowed.l0 k1 a1 x5_1 x6_1 l0 (l0.length : Int) (wrap64 (x12_1 + 1))) else (if (rd_T30 l0 x12_1).f0 = true then (match_Allowed.l0 k1 a1 (t103.size : Int) true l0 (l0.length : Int) (wrap64 (x12_1 + 1))) else (if (t103.size : Int) = x5_1 then (match_Allowed.l0 k1 a1 (t103.size : Int) x6_1 l0 (l0.length : Int) (wrap64 (x12_1 + 1))) else (match_Allowed.l0 k1 a1 (t103.size : Int) false l0 (l0.length : Int) (wrap64 (x12_1 + 1)))))) else (match_Allowed.l0 k1 a1 x5_1 x6_1 l0 (l0.length : Int) (wrap64 (x12_1 + 1))))) = some r := H
            have A6 := Aside0.mk A60
            clear A60
            replace H := Option.bind_eq_some_iff.mp H
            obtain ⟨t104, A70, H⟩ := H
            replace H : (if t104 = true then (if (t103.size : Int) < x5_1 then (match_Allowed.l0 k1 a1 x5_1 x6_1 l0 (l0.length : Int) (wrap64 (x12_1 + 1))) else (if (rd_T30 l0 x12_1).f0 = true then (match_Allowed.l0 k1 a1 (t103.size : Int) true l0 (l0.length : Int) (wrap64 (x12_1 + 1))) else (if (t103.size : Int) = x5_1 then (match_Allowed.l0 k1 a1 (t103.size : Int) x6_1 l0 (l0.length : Int) (wrap64 (x12_1 + 1))) else (match_Allowed.l0 k1 a1 (t103.size : Int) false l0 (l0.length : Int) (wrap64 (x12_1 + 1)))))) else (match_Allowed.l0 k1 a1 x5_1 x6_1 l0 (l0.length : Int) (wrap64 (x12_1 + 1)))) = some r := H
            have A7 := Aside0.mk A70
            clear A70
            by_cases c8 : t104 = true
            · subst c8
              have H1 : (if (t103.size : Int) < x5_1 then (match_Allowed.l0 k1 a1 x5_1 x6_1 l0 (l0.length : Int) (wrap64 (x12_1 + 1))) else (if (rd_T30 l0 x12_1).f0 = true then (match_Allowed.l0 k1 a1 (t103.size : Int) true l0 (l0.length : Int) (wrap64 (x12_1 + 1))) else (if (t103.size : Int) = x5_1 then (match_Allowed.l0 k1 a1 (t103.size : Int) x6_1 l0 (l0.length : Int) (wrap64 (x12_1 + 1))) else (match_Allowed.l0 k1 a1 (t103.size : Int) false l0 (l0.length : Int) (wrap64 (x12_1 + 1)))))) = some r := by rw [if_pos rfl] at H; exact H
              clear H
              have H := H1
              clear H1
              by_cases c9 : (t103.size : Int) < x5_1
              · rw [if_pos c9] at H
                have c9b0 : decide ((t103.size : Int) < x5_1) = true := decide_eq_true c9
                clear c9
                have H' := Aside0.mk H
                clear H
                have p101 : 0 ≤ (x12_1 : Int) := of_decide_eq_true (by first | (with_reducible assumption) | assumption)
                have q101 : x12_1 < (l0.length : Int) := of_decide_eq_true (by first | (with_reducible assumption) | assumption)
                obtain ⟨ad101, e101, hx101_0, hx101_1⟩ := at_T30 HR0.out x12_1 p101 q101
                cases e101
                replace hx101_0 := (HB.out.cell (World.block_lt_of_cell? w _ hx101_0)).trans hx101_0
                replace hx101_1 := (HB.out.cell (World.block_lt_of_cell? w _ hx101_1)).trans hx101_1
                replace p101 := eq_true p101
                replace q101 := eq_true q101
                go_wp2_with (first | ((with_reducible refine gate_dst (N := 8) rfl ?_); refine box_event ?hg (N := 8) ?hd (cs := #[.bool false, .string (⟨#[]⟩ : ByteArray)]) (t := 30) ?hr ?_; (case hd => rfl); (case hg => rfl); (case hr => first | (go_simp; done) | (go_simp; rfl)); intro gb102 hg w10 hbox hb; have n0_ := Aside0.mk (below_step (by repeat (first | (with_reducible first | exact HB.out | apply below_alloc | apply pw_below_drewN | apply below_drew1) | exact HB.out)) hb); have n1_ := Aside0.mk (hbox); have n2_ := Aside0.mk ((by rw [hg]; exact (below_size (by repeat (first | (with_reducible first | exact HB.out | apply below_alloc | apply pw_below_drewN | apply below_drew1) | exact HB.out))) : w.heap.size ≤ gb102)); have n3_ := Aside0.mk ((by rw [hg]; exact (below_size (by repeat (first | (with_reducible first | exact HB.out | apply below_alloc | apply pw_below_drewN | apply below_drew1) | exact HB.out))) : w.heap.size ≤ gb102)); clear HB; have HB := n0_; have BK102 := n1_; have GW102 := n2_; have GE102 := n3_; clear n0_ n1_ n2_ n3_; clear hb hbox hg; have hcz11_0 : w10.cell? ⟨gb102, 0, none⟩ = some (.bool false) := (blk_cell BK102.out 0).trans rfl; have hcz11_1 : w10.cell? ⟨gb102, 1, none⟩ = some (.string (⟨#[]⟩ : ByteArray)) := (blk_cell BK102.out 1).trans rfl; have hfz11_0 := blk_frozen BK102.out 0; have hfz11_1 := blk_frozen BK102.out 1) | ((with_reducible refine gate_callee (f := 35) rfl ?_); refine goesL_ (some 18) rfl rfl Tryd.func35 (by kernel_rfl) rfl #[.string ((rd_T30 l0 x12_1).f1)] rfl (by (try simp only [List.map_toArray, List.map_cons, List.map_nil]); first | done | rfl | (simp only [List.length_drop, List.length_take]; rfl)) ?_; (with_reducible refine (match_one.calls ((rd_T30 l0 x12_1).f1) t103 _ A6.out).mono ?_); rintro e w12 ⟨rfl, hb⟩; refine ⟨_, rfl, ?_⟩; have n0_ := Aside0.mk (blk_below (g := gb102) (o := .cells #[.bool ((rd_T30 l0 x12_1).f0), .string ((rd_T30 l0 x12_1).f1)] 30 (0, 0)) (by (with_reducible repeat (first | refine blk_drewN ?_ _ | refine blk_drew ?_ | refine blk_alloc ?_ _)); refine blk_put (cs := #[.bool ((rd_T30 l0 x12_1).f0), .string (⟨#[]⟩ : ByteArray)]) ?_ 1 _ rfl; (with_reducible repeat (first | refine blk_drewN ?_ _ | refine blk_drew ?_ | refine blk_alloc ?_ _)); refine blk_put (cs := #[.bool false, .string (⟨#[]⟩ : ByteArray)]) ?_ 0 _ rfl; (with_reducible repeat (first | refine blk_drewN ?_ _ | refine blk_drew ?_ | refine blk_alloc ?_ _)); exact BK102.out) hb); have n1_ := Aside0.mk (below_step (by repeat (first | (with_reducible first | exact HB.out | apply below_alloc | apply pw_below_drewN | apply below_drew1 | refine below_set ?_ GE102.out) | exact HB.out)) hb); clear BK102; clear HB; have BK102 := n0_; have HB := n1_; clear n0_ n1_; (try clear hb); (try clear hb2); (try clear hk); (try clear hi); have hcz13_0 : w12.cell? ⟨gb102, 0, none⟩ = some (.bool ((rd_T30 l0 x12_1).f0)) := (blk_cell BK102.out 0).trans rfl; have hcz13_1 : w12.cell? ⟨gb102, 1, none⟩ = some (.string ((rd_T30 l0 x12_1).f1)) := (blk_cell BK102.out 1).trans rfl; have hfz13_0 := blk_frozen BK102.out 0; have hfz13_1 := blk_frozen BK102.out 1) | ((with_reducible refine gate_callee (f := 36) rfl ?_); refine goesL_ (some 23) rfl rfl Tryd.func36 (by kernel_rfl) rfl #[.string ((rd_T30 l0 x12_1).f1), .string a1] rfl (by (try simp only [List.map_toArray, List.map_cons, List.map_nil]); first | done | rfl | (simp only [List.length_drop, List.length_take]; rfl)) ?_; (with_reducible refine (match_Match.calls ((rd_T30 l0 x12_1).f1) a1 true _ A7.out (Shp.below HS_.out (by repeat (first | (with_reducible first | exact HB.out | apply below_alloc | apply pw_below_drewN | apply below_drew1 | refine below_set ?_ GE102.out) | exact HB.out)))).mono ?_); rintro e w14 ⟨rfl, hb⟩; refine ⟨_, rfl, ?_⟩; have n0_ := Aside0.mk (blk_below (g := gb102) (o := .cells #[.bool ((rd_T30 l0 x12_1).f0), .string ((rd_T30 l0 x12_1).f1)] 30 (0, 0)) (by (with_reducible repeat (first | refine blk_drewN ?_ _ | refine blk_drew ?_ | refine blk_alloc ?_ _)); exact BK102.out) hb); have n1_ := Aside0.mk (below_step (by repeat (first | (with_reducible first | exact HB.out | apply below_alloc | apply pw_below_drewN | apply below_drew1 | refine below_set ?_ GE102.out) | exact HB.out)) hb); clear BK102; clear HB; have BK102 := n0_; have HB := n1_; clear n0_ n1_; (try clear hb); (try clear hb2); (try clear hk); (try clear hi)))
                go_roundg k1
                case measure => have := HK1.out; omega
                case rel => exact ⟨(x5_1), (x6_1), (wrap64 (x12_1 + 1)), (by first | rfl | (simp; done) | (simp [*]; done)), (by first | rfl | (simp; done) | (simp [*]; done)), (by first | rfl | (simp; done) | (simp [*]; done)), H', ⟨by have := HK1.out; omega⟩, ⟨by repeat (first | (with_reducible first | exact HB.out | apply below_alloc | apply pw_below_drewN | apply below_drew1 | refine below_set ?_ GE102.out) | exact HB.out)⟩⟩
              · rw [if_neg c9] at H
                have c9b0 : decide ((t103.size : Int) < x5_1) = false := decide_eq_false c9
                clear c9
                obtain ⟨bq15, hbq15⟩ : ∃ b_ : Bool, b_ = ((rd_T30 l0 x12_1).f0) := ⟨_, rfl⟩
                replace H : (if bq15 = true then (match_Allowed.l0 k1 a1 (t103.size : Int) true l0 (l0.length : Int) (wrap64 (x12_1 + 1))) else (if (t103.size : Int) = x5_1 then (match_Allowed.l0 k1 a1 (t103.size : Int) x6_1 l0 (l0.length : Int) (wrap64 (x12_1 + 1))) else (match_Allowed.l0 k1 a1 (t103.size : Int) false l0 (l0.length : Int) (wrap64 (x12_1 + 1))))) = some r := by rw [← hbq15] at H; exact H
                have Nbq15 := Aside0.mk hbq15
                clear hbq15
                by_cases c16 : bq15 = true
                · subst c16
                  have H1 : (match_Allowed.l0 k1 a1 (t103.size : Int) true l0 (l0.length : Int) (wrap64 (x12_1 + 1))) = some r := by rw [if_pos rfl] at H; exact H
                  clear H
                  have H := H1
                  clear H1
                  have H' := Aside0.mk H
                  clear H
                  have p101 : 0 ≤ (x12_1 : Int) := of_decide_eq_true (by first | (with_reducible assumption) | assumption)
                  have q101 : x12_1 < (l0.length : Int) := of_decide_eq_true (by first | (with_reducible assumption) | assumption)
                  obtain ⟨ad101, e101, hx101_0, hx101_1⟩ := at_T30 HR0.out x12_1 p101 q101
                  (try rw [← Nbq15.out] at hx101_0)
                  cases e101
                  replace hx101_0 := (HB.out.cell (World.block_lt_of_cell? w _ hx101_0)).trans hx101_0
                  replace hx101_1 := (HB.out.cell (World.block_lt_of_cell? w _ hx101_1)).trans hx101_1
                  replace p101 := eq_true p101
                  replace q101 := eq_true q101
                  go_wp2_with (first | ((with_reducible refine gate_dst (N := 8) rfl ?_); refine box_event ?hg (N := 8) ?hd (cs := #[.bool false, .string (⟨#[]⟩ : ByteArray)]) (t := 30) ?hr ?_; (case hd => rfl); (case hg => rfl); (case hr => first | (go_simp; done) | (go_simp; rfl)); intro gb102 hg w17 hbox hb; have n0_ := Aside0.mk (below_step (by repeat (first | (with_reducible first | exact HB.out | apply below_alloc | apply pw_below_drewN | apply below_drew1) | exact HB.out)) hb); have n1_ := Aside0.mk (hbox); have n2_ := Aside0.mk ((by rw [hg]; exact (below_size (by repeat (first | (with_reducible first | exact HB.out | apply below_alloc | apply pw_below_drewN | apply below_drew1) | exact HB.out))) : w.heap.size ≤ gb102)); have n3_ := Aside0.mk ((by rw [hg]; exact (below_size (by repeat (first | (with_reducible first | exact HB.out | apply below_alloc | apply pw_below_drewN | apply below_drew1) | exact HB.out))) : w.heap.size ≤ gb102)); clear HB; have HB := n0_; have BK102 := n1_; have GW102 := n2_; have GE102 := n3_; clear n0_ n1_ n2_ n3_; clear hb hbox hg; have hcz18_0 : w17.cell? ⟨gb102, 0, none⟩ = some (.bool false) := (blk_cell BK102.out 0).trans rfl; have hcz18_1 : w17.cell? ⟨gb102, 1, none⟩ = some (.string (⟨#[]⟩ : ByteArray)) := (blk_cell BK102.out 1).trans rfl; have hfz18_0 := blk_frozen BK102.out 0; have hfz18_1 := blk_frozen BK102.out 1) | ((with_reducible refine gate_callee (f := 35) rfl ?_); refine goesL_ (some 18) rfl rfl Tryd.func35 (by kernel_rfl) rfl #[.string ((rd_T30 l0 x12_1).f1)] rfl (by (try simp only [List.map_toArray, List.map_cons, List.map_nil]); first | done | rfl | (simp only [List.length_drop, List.length_take]; rfl)) ?_; (with_reducible refine (match_one.calls ((rd_T30 l0 x12_1).f1) t103 _ A6.out).mono ?_); rintro e w19 ⟨rfl, hb⟩; refine ⟨_, rfl, ?_⟩; have n0_ := Aside0.mk (blk_below (g := gb102) (o := .cells #[.bool true, .string ((rd_T30 l0 x12_1).f1)] 30 (0, 0)) (by (with_reducible repeat (first | refine blk_drewN ?_ _ | refine blk_drew ?_ | refine blk_alloc ?_ _)); refine blk_put (cs := #[.bool true, .string (⟨#[]⟩ : ByteArray)]) ?_ 1 _ rfl; (with_reducible repeat (first | refine blk_drewN ?_ _ | refine blk_drew ?_ | refine blk_alloc ?_ _)); refine blk_put (cs := #[.bool false, .string (⟨#[]⟩ : ByteArray)]) ?_ 0 _ rfl; (with_reducible repeat (first | refine blk_drewN ?_ _ | refine blk_drew ?_ | refine blk_alloc ?_ _)); exact BK102.out) hb); have n1_ := Aside0.mk (below_step (by repeat (first | (with_reducible first | exact HB.out | apply below_alloc | apply pw_below_drewN | apply below_drew1 | refine below_set ?_ GE102.out) | exact HB.out)) hb); clear BK102; clear HB; have BK102 := n0_; have HB := n1_; clear n0_ n1_; (try clear hb); (try clear hb2); (try clear hk); (try clear hi); have hcz20_0 : w19.cell? ⟨gb102, 0, none⟩ = some (.bool true) := (blk_cell BK102.out 0).trans rfl; have hcz20_1 : w19.cell? ⟨gb102, 1, none⟩ = some (.string ((rd_T30 l0 x12_1).f1)) := (blk_cell BK102.out 1).trans rfl; have hfz20_0 := blk_frozen BK102.out 0; have hfz20_1 := blk_frozen BK102.out 1) | ((with_reducible refine gate_callee (f := 36) rfl ?_); refine goesL_ (some 23) rfl rfl Tryd.func36 (by kernel_rfl) rfl #[.string ((rd_T30 l0 x12_1).f1), .string a1] rfl (by (try simp only [List.map_toArray, List.map_cons, List.map_nil]); first | done | rfl | (simp only [List.length_drop, List.length_take]; rfl)) ?_; (with_reducible refine (match_Match.calls ((rd_T30 l0 x12_1).f1) a1 true _ A7.out (Shp.below HS_.out (by repeat (first | (with_reducible first | exact HB.out | apply below_alloc | apply pw_below_drewN | apply below_drew1 | refine below_set ?_ GE102.out) | exact HB.out)))).mono ?_); rintro e w21 ⟨rfl, hb⟩; refine ⟨_, rfl, ?_⟩; have n0_ := Aside0.mk (blk_below (g := gb102) (o := .cells #[.bool true, .string ((rd_T30 l0 x12_1).f1)] 30 (0, 0)) (by (with_reducible repeat (first | refine blk_drewN ?_ _ | refine blk_drew ?_ | refine blk_alloc ?_ _)); exact BK102.out) hb); have n1_ := Aside0.mk (below_step (by repeat (first | (with_reducible first | exact HB.out | apply below_alloc | apply pw_below_drewN | apply below_drew1 | refine below_set ?_ GE102.out) | exact HB.out)) hb); clear BK102; clear HB; have BK102 := n0_; have HB := n1_; clear n0_ n1_; (try clear hb); (try clear hb2); (try clear hk); (try clear hi); have hcz22_0 : w21.cell? ⟨gb102, 0, none⟩ = some (.bool true) := (blk_cell BK102.out 0).trans rfl; have hcz22_1 : w21.cell? ⟨gb102, 1, none⟩ = some (.string ((rd_T30 l0 x12_1).f1)) := (blk_cell BK102.out 1).trans rfl; have hfz22_0 := blk_frozen BK102.out 0; have hfz22_1 := blk_frozen BK102.out 1))
                  go_roundg k1
                  case measure => have := HK1.out; omega
                  case rel => exact ⟨((t103.size : Int)), (true), (wrap64 (x12_1 + 1)), (by first | rfl | (simp; done) | (simp [*]; done)), (by first | rfl | (simp; done) | (simp [*]; done)), (by first | rfl | (simp; done) | (simp [*]; done)), H', ⟨by have := HK1.out; omega⟩, ⟨by repeat (first | (with_reducible first | exact HB.out | apply below_alloc | apply pw_below_drewN | apply below_drew1 | refine below_set ?_ GE102.out) | exact HB.out)⟩⟩
                · replace c16 := Bool.eq_false_iff.mpr c16
                  subst c16
                  have H1 : (if (t103.size : Int) = x5_1 then (match_Allowed.l0 k1 a1 (t103.size : Int) x6_1 l0 (l0.length : Int) (wrap64 (x12_1 + 1))) else (match_Allowed.l0 k1 a1 (t103.size : Int) false l0 (l0.length : Int) (wrap64 (x12_1 + 1)))) = some r := by rw [if_neg (show ¬ (false = true) by decide)] at H; exact H
                  clear H
                  have H := H1
                  clear H1
                  by_cases c23 : (t103.size : Int) = x5_1
                  · rw [if_pos c23] at H
                    have c23b0 : ((t103.size : Int) == x5_1) = true := beq_iff_eq.mpr c23
                    have c23b1 : ((t103.size : Int) != x5_1) = false := bne_eq_false_iff_eq.mpr c23
                    clear c23
                    have H' := Aside0.mk H
                    clear H
                    have p101 : 0 ≤ (x12_1 : Int) := of_decide_eq_true (by first | (with_reducible assumption) | assumption)
                    have q101 : x12_1 < (l0.length : Int) := of_decide_eq_true (by first | (with_reducible assumption) | assumption)
                    obtain ⟨ad101, e101, hx101_0, hx101_1⟩ := at_T30 HR0.out x12_1 p101 q101
                    (try rw [← Nbq15.out] at hx101_0)
                    cases e101
                    replace hx101_0 := (HB.out.cell (World.block_lt_of_cell? w _ hx101_0)).trans hx101_0
                    replace hx101_1 := (HB.out.cell (World.block_lt_of_cell? w _ hx101_1)).trans hx101_1
                    replace p101 := eq_true p101
                    replace q101 := eq_true q101
                    go_wp2_with (first | ((with_reducible refine gate_dst (N := 8) rfl ?_); refine box_event ?hg (N := 8) ?hd (cs := #[.bool false, .string (⟨#[]⟩ : ByteArray)]) (t := 30) ?hr ?_; (case hd => rfl); (case hg => rfl); (case hr => first | (go_simp; done) | (go_simp; rfl)); intro gb102 hg w24 hbox hb; have n0_ := Aside0.mk (below_step (by repeat (first | (with_reducible first | exact HB.out | apply below_alloc | apply pw_below_drewN | apply below_drew1) | exact HB.out)) hb); have n1_ := Aside0.mk (hbox); have n2_ := Aside0.mk ((by rw [hg]; exact (below_size (by repeat (first | (with_reducible first | exact HB.out | apply below_alloc | apply pw_below_drewN | apply below_drew1) | exact HB.out))) : w.heap.size ≤ gb102)); have n3_ := Aside0.mk ((by rw [hg]; exact (below_size (by repeat (first | (with_reducible first | exact HB.out | apply below_alloc | apply pw_below_drewN | apply below_drew1) | exact HB.out))) : w.heap.size ≤ gb102)); clear HB; have HB := n0_; have BK102 := n1_; have GW102 := n2_; have GE102 := n3_; clear n0_ n1_ n2_ n3_; clear hb hbox hg; have hcz25_0 : w24.cell? ⟨gb102, 0, none⟩ = some (.bool false) := (blk_cell BK102.out 0).trans rfl; have hcz25_1 : w24.cell? ⟨gb102, 1, none⟩ = some (.string (⟨#[]⟩ : ByteArray)) := (blk_cell BK102.out 1).trans rfl; have hfz25_0 := blk_frozen BK102.out 0; have hfz25_1 := blk_frozen BK102.out 1) | ((with_reducible refine gate_callee (f := 35) rfl ?_); refine goesL_ (some 18) rfl rfl Tryd.func35 (by kernel_rfl) rfl #[.string ((rd_T30 l0 x12_1).f1)] rfl (by (try simp only [List.map_toArray, List.map_cons, List.map_nil]); first | done | rfl | (simp only [List.length_drop, List.length_take]; rfl)) ?_; (with_reducible refine (match_one.calls ((rd_T30 l0 x12_1).f1) t103 _ A6.out).mono ?_); rintro e w26 ⟨rfl, hb⟩; refine ⟨_, rfl, ?_⟩; have n0_ := Aside0.mk (blk_below (g := gb102) (o := .cells #[.bool false, .string ((rd_T30 l0 x12_1).f1)] 30 (0, 0)) (by (with_reducible repeat (first | refine blk_drewN ?_ _ | refine blk_drew ?_ | refine blk_alloc ?_ _)); refine blk_put (cs := #[.bool false, .string (⟨#[]⟩ : ByteArray)]) ?_ 1 _ rfl; (with_reducible repeat (first | refine blk_drewN ?_ _ | refine blk_drew ?_ | refine blk_alloc ?_ _)); refine blk_put (cs := #[.bool false, .string (⟨#[]⟩ : ByteArray)]) ?_ 0 _ rfl; (with_reducible repeat (first | refine blk_drewN ?_ _ | refine blk_drew ?_ | refine blk_alloc ?_ _)); exact BK102.out) hb); have n1_ := Aside0.mk (below_step (by repeat (first | (with_reducible first | exact HB.out | apply below_alloc | apply pw_below_drewN | apply below_drew1 | refine below_set ?_ GE102.out) | exact HB.out)) hb); clear BK102; clear HB; have BK102 := n0_; have HB := n1_; clear n0_ n1_; (try clear hb); (try clear hb2); (try clear hk); (try clear hi); have hcz27_0 : w26.cell? ⟨gb102, 0, none⟩ = some (.bool false) := (blk_cell BK102.out 0).trans rfl; have hcz27_1 : w26.cell? ⟨gb102, 1, none⟩ = some (.string ((rd_T30 l0 x12_1).f1)) := (blk_cell BK102.out 1).trans rfl; have hfz27_0 := blk_frozen BK102.out 0; have hfz27_1 := blk_frozen BK102.out 1) | ((with_reducible refine gate_callee (f := 36) rfl ?_); refine goesL_ (some 23) rfl rfl Tryd.func36 (by kernel_rfl) rfl #[.string ((rd_T30 l0 x12_1).f1), .string a1] rfl (by (try simp only [List.map_toArray, List.map_cons, List.map_nil]); first | done | rfl | (simp only [List.length_drop, List.length_take]; rfl)) ?_; (with_reducible refine (match_Match.calls ((rd_T30 l0 x12_1).f1) a1 true _ A7.out (Shp.below HS_.out (by repeat (first | (with_reducible first | exact HB.out | apply below_alloc | apply pw_below_drewN | apply below_drew1 | refine below_set ?_ GE102.out) | exact HB.out)))).mono ?_); rintro e w28 ⟨rfl, hb⟩; refine ⟨_, rfl, ?_⟩; have n0_ := Aside0.mk (blk_below (g := gb102) (o := .cells #[.bool false, .string ((rd_T30 l0 x12_1).f1)] 30 (0, 0)) (by (with_reducible repeat (first | refine blk_drewN ?_ _ | refine blk_drew ?_ | refine blk_alloc ?_ _)); exact BK102.out) hb); have n1_ := Aside0.mk (below_step (by repeat (first | (with_reducible first | exact HB.out | apply below_alloc | apply pw_below_drewN | apply below_drew1 | refine below_set ?_ GE102.out) | exact HB.out)) hb); clear BK102; clear HB; have BK102 := n0_; have HB := n1_; clear n0_ n1_; (try clear hb); (try clear hb2); (try clear hk); (try clear hi); have hcz29_0 : w28.cell? ⟨gb102, 0, none⟩ = some (.bool false) := (blk_cell BK102.out 0).trans rfl; have hcz29_1 : w28.cell? ⟨gb102, 1, none⟩ = some (.string ((rd_T30 l0 x12_1).f1)) := (blk_cell BK102.out 1).trans rfl; have hfz29_0 := blk_frozen BK102.out 0; have hfz29_1 := blk_frozen BK102.out 1))
                    go_roundg k1
                    case measure => have := HK1.out; omega
                    case rel => exact ⟨((t103.size : Int)), (x6_1), (wrap64 (x12_1 + 1)), (by first | rfl | (simp; done) | (simp [*]; done)), (by first | rfl | (simp; done) | (simp [*]; done)), (by first | rfl | (simp; done) | (simp [*]; done)), H', ⟨by have := HK1.out; omega⟩, ⟨by repeat (first | (with_reducible first | exact HB.out | apply below_alloc | apply pw_below_drewN | apply below_drew1 | refine below_set ?_ GE102.out) | exact HB.out)⟩⟩
                  · rw [if_neg c23] at H
                    have c23b0 : ((t103.size : Int) == x5_1) = false := beq_eq_false_iff_ne.mpr c23
                    have c23b1 : ((t103.size : Int) != x5_1) = true := bne_iff_ne.mpr c23
                    have H' := Aside0.mk H
                    clear H
                    have p101 : 0 ≤ (x12_1 : Int) := of_decide_eq_true (by first | (with_reducible assumption) | assumption)
                    have q101 : x12_1 < (l0.length : Int) := of_decide_eq_true (by first | (with_reducible assumption) | assumption)
                    obtain ⟨ad101, e101, hx101_0, hx101_1⟩ := at_T30 HR0.out x12_1 p101 q101
                    (try rw [← Nbq15.out] at hx101_0)
                    cases e101
                    replace hx101_0 := (HB.out.cell (World.block_lt_of_cell? w _ hx101_0)).trans hx101_0
                    replace hx101_1 := (HB.out.cell (World.block_lt_of_cell? w _ hx101_1)).trans hx101_1
                    replace p101 := eq_true p101
                    replace q101 := eq_true q101
                    go_wp2_with (first | ((with_reducible refine gate_dst (N := 8) rfl ?_); refine box_event ?hg (N := 8) ?hd (cs := #[.bool false, .string (⟨#[]⟩ : ByteArray)]) (t := 30) ?hr ?_; (case hd => rfl); (case hg => rfl); (case hr => first | (go_simp; done) | (go_simp; rfl)); intro gb102 hg w30 hbox hb; have n0_ := Aside0.mk (below_step (by repeat (first | (with_reducible first | exact HB.out | apply below_alloc | apply pw_below_drewN | apply below_drew1) | exact HB.out)) hb); have n1_ := Aside0.mk (hbox); have n2_ := Aside0.mk ((by rw [hg]; exact (below_size (by repeat (first | (with_reducible first | exact HB.out | apply below_alloc | apply pw_below_drewN | apply below_drew1) | exact HB.out))) : w.heap.size ≤ gb102)); have n3_ := Aside0.mk ((by rw [hg]; exact (below_size (by repeat (first | (with_reducible first | exact HB.out | apply below_alloc | apply pw_below_drewN | apply below_drew1) | exact HB.out))) : w.heap.size ≤ gb102)); clear HB; have HB := n0_; have BK102 := n1_; have GW102 := n2_; have GE102 := n3_; clear n0_ n1_ n2_ n3_; clear hb hbox hg; have hcz31_0 : w30.cell? ⟨gb102, 0, none⟩ = some (.bool false) := (blk_cell BK102.out 0).trans rfl; have hcz31_1 : w30.cell? ⟨gb102, 1, none⟩ = some (.string (⟨#[]⟩ : ByteArray)) := (blk_cell BK102.out 1).trans rfl; have hfz31_0 := blk_frozen BK102.out 0; have hfz31_1 := blk_frozen BK102.out 1) | ((with_reducible refine gate_callee (f := 35) rfl ?_); refine goesL_ (some 18) rfl rfl Tryd.func35 (by kernel_rfl) rfl #[.string ((rd_T30 l0 x12_1).f1)] rfl (by (try simp only [List.map_toArray, List.map_cons, List.map_nil]); first | done | rfl | (simp only [List.length_drop, List.length_take]; rfl)) ?_; (with_reducible refine (match_one.calls ((rd_T30 l0 x12_1).f1) t103 _ A6.out).mono ?_); rintro e w32 ⟨rfl, hb⟩; refine ⟨_, rfl, ?_⟩; have n0_ := Aside0.mk (blk_below (g := gb102) (o := .cells #[.bool false, .string ((rd_T30 l0 x12_1).f1)] 30 (0, 0)) (by (with_reducible repeat (first | refine blk_drewN ?_ _ | refine blk_drew ?_ | refine blk_alloc ?_ _)); refine blk_put (cs := #[.bool false, .string (⟨#[]⟩ : ByteArray)]) ?_ 1 _ rfl; (with_reducible repeat (first | refine blk_drewN ?_ _ | refine blk_drew ?_ | refine blk_alloc ?_ _)); refine blk_put (cs := #[.bool false, .string (⟨#[]⟩ : ByteArray)]) ?_ 0 _ rfl; (with_reducible repeat (first | refine blk_drewN ?_ _ | refine blk_drew ?_ | refine blk_alloc ?_ _)); exact BK102.out) hb); have n1_ := Aside0.mk (below_step (by repeat (first | (with_reducible first | exact HB.out | apply below_alloc | apply pw_below_drewN | apply below_drew1 | refine below_set ?_ GE102.out) | exact HB.out)) hb); clear BK102; clear HB; have BK102 := n0_; have HB := n1_; clear n0_ n1_; (try clear hb); (try clear hb2); (try clear hk); (try clear hi); have hcz33_0 : w32.cell? ⟨gb102, 0, none⟩ = some (.bool false) := (blk_cell BK102.out 0).trans rfl; have hcz33_1 : w32.cell? ⟨gb102, 1, none⟩ = some (.string ((rd_T30 l0 x12_1).f1)) := (blk_cell BK102.out 1).trans rfl; have hfz33_0 := blk_frozen BK102.out 0; have hfz33_1 := blk_frozen BK102.out 1) | ((with_reducible refine gate_callee (f := 36) rfl ?_); refine goesL_ (some 23) rfl rfl Tryd.func36 (by kernel_rfl) rfl #[.string ((rd_T30 l0 x12_1).f1), .string a1] rfl (by (try simp only [List.map_toArray, List.map_cons, List.map_nil]); first | done | rfl | (simp only [List.length_drop, List.length_take]; rfl)) ?_; (with_reducible refine (match_Match.calls ((rd_T30 l0 x12_1).f1) a1 true _ A7.out (Shp.below HS_.out (by repeat (first | (with_reducible first | exact HB.out | apply below_alloc | apply pw_below_drewN | apply below_drew1 | refine below_set ?_ GE102.out) | exact HB.out)))).mono ?_); rintro e w34 ⟨rfl, hb⟩; refine ⟨_, rfl, ?_⟩; have n0_ := Aside0.mk (blk_below (g := gb102) (o := .cells #[.bool false, .string ((rd_T30 l0 x12_1).f1)] 30 (0, 0)) (by (with_reducible repeat (first | refine blk_drewN ?_ _ | refine blk_drew ?_ | refine blk_alloc ?_ _)); exact BK102.out) hb); have n1_ := Aside0.mk (below_step (by repeat (first | (with_reducible first | exact HB.out | apply below_alloc | apply pw_below_drewN | apply below_drew1 | refine below_set ?_ GE102.out) | exact HB.out)) hb); clear BK102; clear HB; have BK102 := n0_; have HB := n1_; clear n0_ n1_; (try clear hb); (try clear hb2); (try clear hk); (try clear hi); have hcz35_0 : w34.cell? ⟨gb102, 0, none⟩ = some (.bool false) := (blk_cell BK102.out 0).trans rfl; have hcz35_1 : w34.cell? ⟨gb102, 1, none⟩ = some (.string ((rd_T30 l0 x12_1).f1)) := (blk_cell BK102.out 1).trans rfl; have hfz35_0 := blk_frozen BK102.out 0; have hfz35_1 := blk_frozen BK102.out 1))
                    go_roundg k1
                    case measure => have := HK1.out; omega
                    case rel => exact ⟨((t103.size : Int)), (false), (wrap64 (x12_1 + 1)), (by first | rfl | (simp; done) | (simp [*]; done)), (by first | rfl | (simp; done) | (simp [*]; done)), (by first | rfl | (simp; done) | (simp [*]; done)), H', ⟨by have := HK1.out; omega⟩, ⟨by repeat (first | (with_reducible first | exact HB.out | apply below_alloc | apply pw_below_drewN | apply below_drew1 | refine below_set ?_ GE102.out) | exact HB.out)⟩⟩
            · replace c8 := Bool.eq_false_iff.mpr c8
              subst c8
              have H1 : (match_Allowed.l0 k1 a1 x5_1 x6_1 l0 (l0.length : Int) (wrap64 (x12_1 + 1))) = some r := by rw [if_neg (show ¬ (false = true) by decide)] at H; exact H
              clear H
              have H := H1
              clear H1
              have H' := Aside0.mk H
              clear H
              have p101 : 0 ≤ (x12_1 : Int) := of_decide_eq_true (by first | (with_reducible assumption) | assumption)
              have q101 : x12_1 < (l0.length : Int) := of_decide_eq_true (by first | (with_reducible assumption) | assumption)
              obtain ⟨ad101, e101, hx101_0, hx101_1⟩ := at_T30 HR0.out x12_1 p101 q101
              cases e101
              replace hx101_0 := (HB.out.cell (World.block_lt_of_cell? w _ hx101_0)).trans hx101_0
              replace hx101_1 := (HB.out.cell (World.block_lt_of_cell? w _ hx101_1)).trans hx101_1
              replace p101 := eq_true p101
              replace q101 := eq_true q101
              go_wp2_with (first | ((with_reducible refine gate_dst (N := 8) rfl ?_); refine box_event ?hg (N := 8) ?hd (cs := #[.bool false, .string (⟨#[]⟩ : ByteArray)]) (t := 30) ?hr ?_; (case hd => rfl); (case hg => rfl); (case hr => first | (go_simp; done) | (go_simp; rfl)); intro gb102 hg w36 hbox hb; have n0_ := Aside0.mk (below_step (by repeat (first | (with_reducible first | exact HB.out | apply below_alloc | apply pw_below_drewN | apply below_drew1) | exact HB.out)) hb); have n1_ := Aside0.mk (hbox); have n2_ := Aside0.mk ((by rw [hg]; exact (below_size (by repeat (first | (with_reducible first | exact HB.out | apply below_alloc | apply pw_below_drewN | apply below_drew1) | exact HB.out))) : w.heap.size ≤ gb102)); have n3_ := Aside0.mk ((by rw [hg]; exact (below_size (by repeat (first | (with_reducible first | exact HB.out | apply below_alloc | apply pw_below_drewN | apply below_drew1) | exact HB.out))) : w.heap.size ≤ gb102)); clear HB; have HB := n0_; have BK102 := n1_; have GW102 := n2_; have GE102 := n3_; clear n0_ n1_ n2_ n3_; clear hb hbox hg; have hcz37_0 : w36.cell? ⟨gb102, 0, none⟩ = some (.bool false) := (blk_cell BK102.out 0).trans rfl; have hcz37_1 : w36.cell? ⟨gb102, 1, none⟩ = some (.string (⟨#[]⟩ : ByteArray)) := (blk_cell BK102.out 1).trans rfl; have hfz37_0 := blk_frozen BK102.out 0; have hfz37_1 := blk_frozen BK102.out 1) | ((with_reducible refine gate_callee (f := 35) rfl ?_); refine goesL_ (some 18) rfl rfl Tryd.func35 (by kernel_rfl) rfl #[.string ((rd_T30 l0 x12_1).f1)] rfl (by (try simp only [List.map_toArray, List.map_cons, List.map_nil]); first | done | rfl | (simp only [List.length_drop, List.length_take]; rfl)) ?_; (with_reducible refine (match_one.calls ((rd_T30 l0 x12_1).f1) t103 _ A6.out).mono ?_); rintro e w38 ⟨rfl, hb⟩; refine ⟨_, rfl, ?_⟩; have n0_ := Aside0.mk (blk_below (g := gb102) (o := .cells #[.bool ((rd_T30 l0 x12_1).f0), .string ((rd_T30 l0 x12_1).f1)] 30 (0, 0)) (by (with_reducible repeat (first | refine blk_drewN ?_ _ | refine blk_drew ?_ | refine blk_alloc ?_ _)); refine blk_put (cs := #[.bool ((rd_T30 l0 x12_1).f0), .string (⟨#[]⟩ : ByteArray)]) ?_ 1 _ rfl; (with_reducible repeat (first | refine blk_drewN ?_ _ | refine blk_drew ?_ | refine blk_alloc ?_ _)); refine blk_put (cs := #[.bool false, .string (⟨#[]⟩ : ByteArray)]) ?_ 0 _ rfl; (with_reducible repeat (first | refine blk_drewN ?_ _ | refine blk_drew ?_ | refine blk_alloc ?_ _)); exact BK102.out) hb); have n1_ := Aside0.mk (below_step (by repeat (first | (with_reducible first | exact HB.out | apply below_alloc | apply pw_below_drewN | apply below_drew1 | refine below_set ?_ GE102.out) | exact HB.out)) hb); clear BK102; clear HB; have BK102 := n0_; have HB := n1_; clear n0_ n1_; (try clear hb); (try clear hb2); (try clear hk); (try clear hi); have hcz39_0 : w38.cell? ⟨gb102, 0, none⟩ = some (.bool ((rd_T30 l0 x12_1).f0)) := (blk_cell BK102.out 0).trans rfl; have hcz39_1 : w38.cell? ⟨gb102, 1, none⟩ = some (.string ((rd_T30 l0 x12_1).f1)) := (blk_cell BK102.out 1).trans rfl; have hfz39_0 := blk_frozen BK102.out 0; have hfz39_1 := blk_frozen BK102.out 1) | ((with_reducible refine gate_callee (f := 36) rfl ?_); refine goesL_ (some 23) rfl rfl Tryd.func36 (by kernel_rfl) rfl #[.string ((rd_T30 l0 x12_1).f1), .string a1] rfl (by (try simp only [List.map_toArray, List.map_cons, List.map_nil]); first | done | rfl | (simp only [List.length_drop, List.length_take]; rfl)) ?_; (with_reducible refine (match_Match.calls ((rd_T30 l0 x12_1).f1) a1 false _ A7.out (Shp.below HS_.out (by repeat (first | (with_reducible first | exact HB.out | apply below_alloc | apply pw_below_drewN | apply below_drew1 | refine below_set ?_ GE102.out) | exact HB.out)))).mono ?_); rintro e w40 ⟨rfl, hb⟩; refine ⟨_, rfl, ?_⟩; have n0_ := Aside0.mk (blk_below (g := gb102) (o := .cells #[.bool ((rd_T30 l0 x12_1).f0), .string ((rd_T30 l0 x12_1).f1)] 30 (0, 0)) (by (with_reducible repeat (first | refine blk_drewN ?_ _ | refine blk_drew ?_ | refine blk_alloc ?_ _)); exact BK102.out) hb); have n1_ := Aside0.mk (below_step (by repeat (first | (with_reducible first | exact HB.out | apply below_alloc | apply pw_below_drewN | apply below_drew1 | refine below_set ?_ GE102.out) | exact HB.out)) hb); clear BK102; clear HB; have BK102 := n0_; have HB := n1_; clear n0_ n1_; (try clear hb); (try clear hb2); (try clear hk); (try clear hi)))
              go_roundg k1
              case measure => have := HK1.out; omega
              case rel => exact ⟨(x5_1), (x6_1), (wrap64 (x12_1 + 1)), (by first | rfl | (simp; done) | (simp [*]; done)), (by first | rfl | (simp; done) | (simp [*]; done)), (by first | rfl | (simp; done) | (simp [*]; done)), H', ⟨by have := HK1.out; omega⟩, ⟨by repeat (first | (with_reducible first | exact HB.out | apply below_alloc | apply pw_below_drewN | apply below_drew1 | refine below_set ?_ GE102.out) | exact HB.out)⟩⟩
          · rw [if_neg c5] at H
            exact absurd H (by simp)
        · rw [if_neg c4] at H
          exact absurd H (by simp)
      · rw [if_neg c3] at H
        have c3b0 : decide (x12_1 < (l0.length : Int)) = false := decide_eq_false c3
        clear c3
        obtain rfl := Option.some.inj H
        go_wp2
        go_ret
        exact ⟨by first | rfl | (simp [errW_none, errW_some] <;> rfl) | (simp [*, errW_none, errW_some] <;> rfl) | (simp [wrap64]; done), by repeat (first | (with_reducible first | exact HB.out | apply below_alloc | apply pw_below_drewN | apply below_drew1) | exact HB.out)⟩

def robots_Allowed.j0 : Nat → ByteArray → Bool → Bool → Bool → List (S30) → Int → Option (Bool)
  | 0, _, _, _, _, _, _ => none
  | k + 1, x1, x5, x106000, x106001, x106002, x106003 => if x5 = true then (some true) else (if x106001 = true then (some false) else ((match_Allowed.f k x106002 x1).bind fun t106 => (some t106)))
def robots_Allowed.f (k : Nat) (a0_0 : Bool) (a0_1 : Bool) (l0_2 : List (S30)) (a0_3 : Int) (a1 : ByteArray) : Option (Bool) := if a1.toList = ([47, 114, 111, 98, 111, 116, 115, 46, 116, 120, 116] : List UInt8) then (robots_Allowed.j0 k a1 true a0_0 a0_1 l0_2 a0_3) else (robots_Allowed.j0 k a1 a0_0 a0_0 a0_1 l0_2 a0_3)
set_option maxHeartbeats 8000000 in
set_option maxRecDepth 100000 in
theorem robots_Allowed.calls (k : Nat) (a0_0 : Bool) (a0_1 : Bool) (A0_2 : Option Addr) (c0_2 : Nat) (l0_2 : List (S30)) (a0_3 : Int) (a1 : ByteArray) (r : Bool) (w : World) (hr0_2 : Kd.C k30 w A0_2 l0_2.length l0_2) (hc0_2 : l0_2.length ≤ c0_2) (h : robots_Allowed.f k a0_0 a0_1 l0_2 a0_3 a1 = some r) (hS_ : Shp w) :
    Calls Tryd.prog 11 #[.agg #[.bool a0_0, .bool a0_1, .slice A0_2 l0_2.length c0_2, .int .i64 a0_3], .string a1] w fun e w' => e = .returned (.bool r) ∧ Below w.heap.size w w' := by
  have hu26 := Tryd.underlying26
  have HR0_2 := Aside0.mk hr0_2
  have HC0_2 := Aside0.mk hc0_2
  clear hr0_2 hc0_2
  have HB := Aside0.mk (Below.refl w.heap.size w)
  have HS_ := Aside0.mk hS_
  clear hS_
  have H : (if a1.toList = ([47, 114, 111, 98, 111, 116, 115, 46, 116, 120, 116] : List UInt8) then (robots_Allowed.j0 k a1 true a0_0 a0_1 l0_2 a0_3) else (robots_Allowed.j0 k a1 a0_0 a0_0 a0_1 l0_2 a0_3)) = some r := h
  clear h
  have HC3 := Aside0.mk H
  clear H
  go_enter Tryd.func11, Tryd.ntmps11
  go_upto_region 1 with (first | ((with_reducible refine gate_dst (N := 2) rfl ?_); refine box_event ?hg (N := 2) ?hd (cs := #[.bool a0_0, .bool a0_1, .slice A0_2 l0_2.length c0_2, .int .i64 a0_3]) (t := 26) ?hr ?_; (case hd => rfl); (case hg => rfl); (case hr => first | (go_simp; done) | (go_simp; rfl)); intro gb105 hg w4 hbox hb; have n0_ := Aside0.mk (below_step (by repeat (first | (with_reducible first | exact HB.out | apply below_alloc | apply pw_below_drewN | apply below_drew1) | exact HB.out)) hb); have n1_ := Aside0.mk (hbox); have n2_ := Aside0.mk ((by rw [hg]; exact (below_size (by repeat (first | (with_reducible first | exact HB.out | apply below_alloc | apply pw_below_drewN | apply below_drew1) | exact HB.out))) : w.heap.size ≤ gb105)); have n3_ := Aside0.mk ((by rw [hg]; exact (below_size (by repeat (first | (with_reducible first | exact HB.out | apply below_alloc | apply pw_below_drewN | apply below_drew1) | exact HB.out))) : w.heap.size ≤ gb105)); clear HB; have HB := n0_; have BK105 := n1_; have GW105 := n2_; have GE105 := n3_; clear n0_ n1_ n2_ n3_; clear hb hbox hg))
  (try simp only [Act.put, List.setIfInBounds_toArray, List.set_cons_zero, List.set_cons_succ])
  go_cut [5] (fun v5 wc => ∃ (kq : Nat) (x5_2 : Bool), v5 = .bool x5_2 ∧ Aside0 (robots_Allowed.j0 kq a1 x5_2 a0_0 a0_1 l0_2 a0_3 = some r) ∧ Aside0 (kq ≤ k) ∧ Aside0 (wc.heap[gb105]? = some (.cells #[.bool a0_0, .bool a0_1, (.slice A0_2 l0_2.length c0_2), .int .i64 a0_3] 26 (0, 0))) ∧ Aside0 (Below w.heap.size w wc))
  case first =>
    have H := HC3.out
    clear HC3
    by_cases c5 : a1.toList = ([47, 114, 111, 98, 111, 116, 115, 46, 116, 120, 116] : List UInt8)
    · rw [if_pos c5] at H
      have c5b0 : (a1.toList == ([47, 114, 111, 98, 111, 116, 115, 46, 116, 120, 116] : List UInt8)) = true := beq_iff_eq.mpr c5
      have c5b1 : (a1.toList != ([47, 114, 111, 98, 111, 116, 115, 46, 116, 120, 116] : List UInt8)) = false := bne_eq_false_iff_eq.mpr c5
      clear c5
      (first | rw [c5b0] | (simp only [i64_w, i32_w]; rw [c5b0]) | skip)
      have H' := Aside0.mk H
      clear H
      go_wp2
      go_meet
      case rel => exact ⟨_, (true), (by first | rfl | (simp; done) | (simp [*]; done)), H', ⟨by first | omega | exact Nat.le_refl _⟩, ⟨by (with_reducible repeat (first | refine blk_drewN ?_ _ | refine blk_drew ?_ | refine blk_alloc ?_ _)); exact BK105.out⟩, ⟨by repeat (first | (with_reducible first | exact HB.out | apply below_alloc | apply pw_below_drewN | apply below_drew1 | refine below_set ?_ GE105.out) | exact HB.out)⟩⟩
    · rw [if_neg c5] at H
      have c5b0 : (a1.toList == ([47, 114, 111, 98, 111, 116, 115, 46, 116, 120, 116] : List UInt8)) = false := beq_eq_false_iff_ne.mpr c5
      have c5b1 : (a1.toList != ([47, 114, 111, 98, 111, 116, 115, 46, 116, 120, 116] : List UInt8)) = true := bne_iff_ne.mpr c5
      (first | rw [c5b0] | (simp only [i64_w, i32_w]; rw [c5b0]) | skip)
      have H' := Aside0.mk H
      clear H
      have hcz6_0 : w4.cell? ⟨gb105, 0, none⟩ = some (.bool a0_0) := (blk_cell BK105.out 0).trans rfl
      have hcz6_1 : w4.cell? ⟨gb105, 1, none⟩ = some (.bool a0_1) := (blk_cell BK105.out 1).trans rfl
      have hcz6_2 : w4.cell? ⟨gb105, 2, none⟩ = some (.slice A0_2 l0_2.length c0_2) := (blk_cell BK105.out 2).trans rfl
      have hcz6_3 : w4.cell? ⟨gb105, 3, none⟩ = some (.int .i64 a0_3) := (blk_cell BK105.out 3).trans rfl
      have hfz6_0 := blk_frozen BK105.out 0
      have hfz6_1 := blk_frozen BK105.out 1
      have hfz6_2 := blk_frozen BK105.out 2
      have hfz6_3 := blk_frozen BK105.out 3
      go_wp2
      go_meet
      case rel => exact ⟨_, (a0_0), (by first | rfl | (simp; done) | (simp [*]; done)), H', ⟨by first | omega | exact Nat.le_refl _⟩, ⟨by (with_reducible repeat (first | refine blk_drewN ?_ _ | refine blk_drew ?_ | refine blk_alloc ?_ _)); exact BK105.out⟩, ⟨by repeat (first | (with_reducible first | exact HB.out | apply below_alloc | apply pw_below_drewN | apply below_drew1 | refine below_set ?_ GE105.out) | exact HB.out)⟩⟩
  case rest =>
    clear HC3
    try clear c1
    try clear p2
    try clear c5
    try clear c5b0
    try clear c5b1
    try clear hcz6_0
    try clear hcz6_1
    try clear hcz6_2
    try clear hcz6_3
    try clear hfz6_0
    try clear hfz6_1
    try clear hfz6_2
    try clear hfz6_3
    obtain ⟨kq, x5_2, rfl, HA, HJ2, BK105, HB⟩ := hcut
    cases kq with
    | zero => exact absurd HA.out (by simp [robots_Allowed.j0])
    | succ kj2 =>
      have H := HA.out
      clear HA
      simp only [robots_Allowed.j0] at H
      by_cases c7 : x5_2 = true
      · subst c7
        have H1 : (some true) = some r := by rw [if_pos rfl] at H; exact H
        clear H
        have H := H1
        clear H1
        obtain rfl := Option.some.inj H
        go_wp2
        go_ret
        exact ⟨by first | rfl | (simp [errW_none, errW_some] <;> rfl) | (simp [*, errW_none, errW_some] <;> rfl) | (simp [wrap64]; done), by repeat (first | (with_reducible first | exact HB.out | apply below_alloc | apply pw_below_drewN | apply below_drew1 | refine below_set ?_ GE105.out) | exact HB.out)⟩
      · replace c7 := Bool.eq_false_iff.mpr c7
        subst c7
        have H1 : (if a0_1 = true then (some false) else ((match_Allowed.f kj2 l0_2 a1).bind fun t106 => (some t106))) = some r := by rw [if_neg (show ¬ (false = true) by decide)] at H; exact H
        clear H
        have H := H1
        clear H1
        by_cases c8 : a0_1 = true
        · subst c8
          have H1 : (some false) = some r := by rw [if_pos rfl] at H; exact H
          clear H
          have H := H1
          clear H1
          obtain rfl := Option.some.inj H
          have hcz9_0 : wc.cell? ⟨gb105, 0, none⟩ = some (.bool a0_0) := (blk_cell BK105.out 0).trans rfl
          have hcz9_1 : wc.cell? ⟨gb105, 1, none⟩ = some (.bool true) := (blk_cell BK105.out 1).trans rfl
          have hcz9_2 : wc.cell? ⟨gb105, 2, none⟩ = some (.slice A0_2 l0_2.length c0_2) := (blk_cell BK105.out 2).trans rfl
          have hcz9_3 : wc.cell? ⟨gb105, 3, none⟩ = some (.int .i64 a0_3) := (blk_cell BK105.out 3).trans rfl
          have hfz9_0 := blk_frozen BK105.out 0
          have hfz9_1 := blk_frozen BK105.out 1
          have hfz9_2 := blk_frozen BK105.out 2
          have hfz9_3 := blk_frozen BK105.out 3
          go_wp2
          go_ret
          exact ⟨by first | rfl | (simp [errW_none, errW_some] <;> rfl) | (simp [*, errW_none, errW_some] <;> rfl) | (simp [wrap64]; done), by repeat (first | (with_reducible first | exact HB.out | apply below_alloc | apply pw_below_drewN | apply below_drew1 | refine below_set ?_ GE105.out) | exact HB.out)⟩
        · replace c8 := Bool.eq_false_iff.mpr c8
          subst c8
          have H1 : ((match_Allowed.f kj2 l0_2 a1).bind fun t106 => (some t106)) = some r := by rw [if_neg (show ¬ (false = true) by decide)] at H; exact H
          clear H
          have H := H1
          clear H1
          replace H := Option.bind_eq_some_iff.mp H
          obtain ⟨t106, A100, H⟩ := H
          replace H : (some t106) = some r := H
          have A10 := Aside0.mk A100
          clear A100
          obtain rfl := Option.some.inj H
          have hcz11_0 : wc.cell? ⟨gb105, 0, none⟩ = some (.bool a0_0) := (blk_cell BK105.out 0).trans rfl
          have hcz11_1 : wc.cell? ⟨gb105, 1, none⟩ = some (.bool false) := (blk_cell BK105.out 1).trans rfl
          have hcz11_2 : wc.cell? ⟨gb105, 2, none⟩ = some (.slice A0_2 l0_2.length c0_2) := (blk_cell BK105.out 2).trans rfl
          have hcz11_3 : wc.cell? ⟨gb105, 3, none⟩ = some (.int .i64 a0_3) := (blk_cell BK105.out 3).trans rfl
          have hfz11_0 := blk_frozen BK105.out 0
          have hfz11_1 := blk_frozen BK105.out 1
          have hfz11_2 := blk_frozen BK105.out 2
          have hfz11_3 := blk_frozen BK105.out 3
          go_wp2_with (first | ((with_reducible refine gate_callee (f := 21) rfl ?_); refine goesL_ (some 18) rfl rfl Tryd.func21 (by kernel_rfl) rfl #[.slice A0_2 l0_2.length c0_2, .string a1] rfl (by (try simp only [List.map_toArray, List.map_cons, List.map_nil]); first | done | rfl | (simp only [List.length_drop, List.length_take]; rfl)) ?_; (with_reducible refine (match_Allowed.calls kj2 _ _ l0_2 a1 t106 _ ?side1 ?side2 A10.out (Shp.below HS_.out (by repeat (first | (with_reducible first | exact HB.out | apply below_alloc | apply pw_below_drewN | apply below_drew1 | refine below_set ?_ GE105.out) | exact HB.out)))).mono ?_); (case side1 => repeat (first | exact (Kd.C_below HR0_2.out HB.out) | (with_reducible refine Kd.C_alloc ?_ _) | (with_reducible refine Kd.C_drewN ?_ _) | (with_reducible refine Kd.C_drew ?_))); (case side2 => exact HC0_2.out); rintro e w12 ⟨rfl, hb⟩; refine ⟨_, rfl, ?_⟩; have n0_ := Aside0.mk (blk_below (g := gb105) (o := .cells #[.bool a0_0, .bool false, .slice A0_2 l0_2.length c0_2, .int .i64 a0_3] 26 (0, 0)) (by (with_reducible repeat (first | refine blk_drewN ?_ _ | refine blk_drew ?_ | refine blk_alloc ?_ _)); exact BK105.out) hb); have n1_ := Aside0.mk (below_step (by repeat (first | (with_reducible first | exact HB.out | apply below_alloc | apply pw_below_drewN | apply below_drew1 | refine below_set ?_ GE105.out) | exact HB.out)) hb); clear BK105; clear HB; have BK105 := n0_; have HB := n1_; clear n0_ n1_; (try clear hb); (try clear hb2); (try clear hk); (try clear hi)))
          go_ret
          exact ⟨by first | rfl | (simp [errW_none, errW_some] <;> rfl) | (simp [*, errW_none, errW_some] <;> rfl) | (simp [wrap64]; done), by repeat (first | (with_reducible first | exact HB.out | apply below_alloc | apply pw_below_drewN | apply below_drew1 | refine below_set ?_ GE105.out) | exact HB.out)⟩

def decorumref09_Read.j0 : Nat → Int → ByteArray → ByteArray → Bool → Option (Bool × Bool × (List (S30)) × Int)
  | 0, _, _, _, _ => none
  | k + 1, x0, x1, x2, x12 => if x12 = true then ((decorumref09_Parse.f k x1).bind fun t110 => ((decorumref09_Groups.f t110).bind fun t113 => ((decorumref09_Pick.f k t113 x2).bind fun bt116 => (some (bt116.1, bt116.2.1, bt116.2.2.1, bt116.2.2.2))))) else (if x0 ≥ 400 then (if x0 < 500 then (if x0 = 429 then (some (false, true, ([] : List (S30)), 0)) else (some (true, false, ([] : List (S30)), 0))) else (some (false, true, ([] : List (S30)), 0))) else (some (false, true, ([] : List (S30)), 0)))
def decorumref09_Read.f (k : Nat) (a0 : Int) (a1 : ByteArray) (a2 : ByteArray) : Option (Bool × Bool × (List (S30)) × Int) := if a0 ≥ 200 then (decorumref09_Read.j0 k a0 a1 a2 (decide (a0 < 300))) else (decorumref09_Read.j0 k a0 a1 a2 false)
set_option maxHeartbeats 8000000 in
set_option maxRecDepth 100000 in
theorem decorumref09_Read.calls (k : Nat) (a0 : Int) (a1 : ByteArray) (a2 : ByteArray) (r1 : Bool) (r2 : Bool) (r3 : List (S30)) (r4 : Int) (w : World) (h : decorumref09_Read.f k a0 a1 a2 = some (r1, r2, r3, r4)) :
    Calls Tryd.prog 10 #[.int .i64 a0, .string a1, .string a2] w fun e w' => ∃ v2_ : Value, e = .returned (.agg #[.bool r1, .bool r2, v2_, .int .i64 r4]) ∧ Kd.R k30 30 w' w.heap.size (fun _ => True) v2_ r3 ∧ Below w.heap.size w w' := by
  have hu26 := Tryd.underlying26
  have HB := Aside0.mk (Below.refl w.heap.size w)
  have H : (if a0 ≥ 200 then (decorumref09_Read.j0 k a0 a1 a2 (decide (a0 < 300))) else (decorumref09_Read.j0 k a0 a1 a2 false)) = some (r1, r2, r3, r4) := h
  clear h
  have HC4 := Aside0.mk H
  clear H
  go_enter Tryd.func10, Tryd.ntmps10
  go_upto_region 1 with (first | ((with_reducible refine gate_dst (N := 6) rfl ?_); refine box_event ?hg (N := 6) ?hd (cs := #[.bool false, .bool false, .slice none 0 0, .int .i64 0]) (t := 26) ?hr ?_; (case hd => rfl); (case hg => rfl); (case hr => first | (go_simp; done) | (go_simp; rfl)); intro gb109 hg w5 hbox hb; have n0_ := Aside0.mk (below_step (by repeat (first | (with_reducible first | exact HB.out | apply below_alloc | apply pw_below_drewN | apply below_drew1) | exact HB.out)) hb); have n1_ := Aside0.mk (hbox); have n2_ := Aside0.mk ((by rw [hg]; exact (below_size (by repeat (first | (with_reducible first | exact HB.out | apply below_alloc | apply pw_below_drewN | apply below_drew1) | exact HB.out))) : w.heap.size ≤ gb109)); have n3_ := Aside0.mk ((by rw [hg]; exact (below_size (by repeat (first | (with_reducible first | exact HB.out | apply below_alloc | apply pw_below_drewN | apply below_drew1) | exact HB.out))) : w.heap.size ≤ gb109)); clear HB; have HB := n0_; have BK109 := n1_; have GW109 := n2_; have GE109 := n3_; clear n0_ n1_ n2_ n3_; clear hb hbox hg))
  (try simp only [Act.put, List.setIfInBounds_toArray, List.set_cons_zero, List.set_cons_succ])
  go_cut [12] (fun v12 wc => ∃ (kq : Nat) (x12_3 : Bool), v12 = .bool x12_3 ∧ Aside0 (decorumref09_Read.j0 kq a0 a1 a2 x12_3 = some (r1, r2, r3, r4)) ∧ Aside0 (kq ≤ k) ∧ Aside0 (wc.heap[gb109]? = some (.cells #[.bool false, .bool false, (.slice none 0 0), .int .i64 0] 26 (0, 0))) ∧ Aside0 (Below w.heap.size w wc))
  case first =>
    have H := HC4.out
    clear HC4
    by_cases c6 : a0 ≥ 200
    · rw [if_pos c6] at H
      have c6b0 : decide (200 ≤ a0) = true := decide_eq_true c6
      clear c6
      (first | rw [c6b0] | (simp only [i64_w, i32_w]; rw [c6b0]) | skip)
      have H' := Aside0.mk H
      clear H
      go_wp2
      go_meet
      case rel => exact ⟨_, (decide (a0 < 300)), (by first | rfl | (simp; done) | (simp [*]; done)), H', ⟨by first | omega | exact Nat.le_refl _⟩, ⟨by (with_reducible repeat (first | refine blk_drewN ?_ _ | refine blk_drew ?_ | refine blk_alloc ?_ _)); exact BK109.out⟩, ⟨by repeat (first | (with_reducible first | exact HB.out | apply below_alloc | apply pw_below_drewN | apply below_drew1 | refine below_set ?_ GE109.out) | exact HB.out)⟩⟩
    · rw [if_neg c6] at H
      have c6b0 : decide (200 ≤ a0) = false := decide_eq_false c6
      clear c6
      (first | rw [c6b0] | (simp only [i64_w, i32_w]; rw [c6b0]) | skip)
      have H' := Aside0.mk H
      clear H
      go_wp2
      go_meet
      case rel => exact ⟨_, (false), (by first | rfl | (simp; done) | (simp [*]; done)), H', ⟨by first | omega | exact Nat.le_refl _⟩, ⟨by (with_reducible repeat (first | refine blk_drewN ?_ _ | refine blk_drew ?_ | refine blk_alloc ?_ _)); exact BK109.out⟩, ⟨by repeat (first | (with_reducible first | exact HB.out | apply below_alloc | apply pw_below_drewN | apply below_drew1 | refine below_set ?_ GE109.out) | exact HB.out)⟩⟩
  case rest =>
    clear HC4
    try clear c1
    try clear p2
    try clear c6
    try clear c6b0
    obtain ⟨kq, x12_3, rfl, HA, HJ3, BK109, HB⟩ := hcut
    cases kq with
    | zero => exact absurd HA.out (by simp [decorumref09_Read.j0])
    | succ kj3 =>
      have H := HA.out
      clear HA
      simp only [decorumref09_Read.j0] at H
      by_cases c7 : x12_3 = true
      · subst c7
        have H1 : ((decorumref09_Parse.f kj3 a1).bind fun t110 => ((decorumref09_Groups.f t110).bind fun t113 => ((decorumref09_Pick.f kj3 t113 a2).bind fun bt116 => (some (bt116.1, bt116.2.1, bt116.2.2.1, bt116.2.2.2))))) = some (r1, r2, r3, r4) := by rw [if_pos rfl] at H; exact H
        clear H
        have H := H1
        clear H1
        replace H := Option.bind_eq_some_iff.mp H
        obtain ⟨t110, A80, H⟩ := H
        replace H : ((decorumref09_Groups.f t110).bind fun t113 => ((decorumref09_Pick.f kj3 t113 a2).bind fun bt116 => (some (bt116.1, bt116.2.1, bt116.2.2.1, bt116.2.2.2)))) = some (r1, r2, r3, r4) := H
        have A8 := Aside0.mk A80
        clear A80
        replace H := Option.bind_eq_some_iff.mp H
        obtain ⟨t113, A90, H⟩ := H
        replace H : ((decorumref09_Pick.f kj3 t113 a2).bind fun bt116 => (some (bt116.1, bt116.2.1, bt116.2.2.1, bt116.2.2.2))) = some (r1, r2, r3, r4) := H
        have A9 := Aside0.mk A90
        clear A90
        replace H := Option.bind_eq_some_iff.mp H
        obtain ⟨⟨t116, t117, t118, t121⟩, A100, H⟩ := H
        replace H : (some (t116, t117, t118, t121)) = some (r1, r2, r3, r4) := H
        have A10 := Aside0.mk A100
        clear A100
        simp only [Option.some.injEq, Prod.mk.injEq] at H
        obtain ⟨rfl, rfl, rfl, rfl⟩ := H
        go_wp2_with (first | ((with_reducible refine gate_callee (f := 20) rfl ?_); refine goesL_ (some 14) rfl rfl Tryd.func20 (by kernel_rfl) rfl #[.string a1] rfl (by (try simp only [List.map_toArray, List.map_cons, List.map_nil]); first | done | rfl | (simp only [List.length_drop, List.length_take]; rfl)) ?_; (with_reducible refine (decorumref09_Parse.calls kj3 a1 t110 _ A8.out).mono ?_); rintro e w11 ⟨v111, rfl, ho0, hb⟩; refine ⟨_, rfl, ?_⟩; have n0_ := Aside0.mk (Kd.R_lower ho0 (below_size (by repeat (first | (with_reducible first | exact HB.out | apply below_alloc | apply pw_below_drewN | apply below_drew1 | refine below_set ?_ GE109.out) | exact HB.out)))); have n1_ := Aside0.mk (blk_below (g := gb109) (o := .cells #[.bool false, .bool false, .slice none 0 0, .int .i64 0] 26 (0, 0)) (by (with_reducible repeat (first | refine blk_drewN ?_ _ | refine blk_drew ?_ | refine blk_alloc ?_ _)); exact BK109.out) hb); have n2_ := Aside0.mk (below_step (by repeat (first | (with_reducible first | exact HB.out | apply below_alloc | apply pw_below_drewN | apply below_drew1 | refine below_set ?_ GE109.out) | exact HB.out)) hb); clear BK109; clear HB; have HO112 := n0_; have BK109 := n1_; have HB := n2_; clear n0_ n1_ n2_; (try clear hb); (try clear hb2); (try clear hk); (try clear hi); (try clear ho0); obtain ⟨Ao12, co12, eo12⟩ := Kd.R_slice HO112.out; subst eo12) | ((with_reducible refine gate_callee (f := 19) rfl ?_); refine goesL_ (some 15) rfl rfl Tryd.func19 (by kernel_rfl) rfl #[.slice Ao12 t110.length co12] rfl (by (try simp only [List.map_toArray, List.map_cons, List.map_nil]); first | done | rfl | (simp only [List.length_drop, List.length_take]; rfl)) ?_; (with_reducible refine (decorumref09_Groups.calls _ _ t110 t113 _ ?side1 ?side2 A9.out).mono ?_); (case side1 => repeat (first | exact (Kd.R_reads' HO112.out).2.2 | (with_reducible refine Kd.C_alloc ?_ _) | (with_reducible refine Kd.C_drewN ?_ _) | (with_reducible refine Kd.C_drew ?_))); (case side2 => exact (Kd.R_reads' HO112.out).2.1); rintro e w13 ⟨v114, rfl, ho0, hb⟩; refine ⟨_, rfl, ?_⟩; have n0_ := Aside0.mk (Kd.R_below (by (with_reducible repeat (first | apply Kd.R_alloc | apply Kd.R_drewN | apply Kd.R_drew)); exact HO112.out) hb); have n1_ := Aside0.mk (Kd.S_lower ho0 (below_size (by repeat (first | (with_reducible first | exact HB.out | apply below_alloc | apply pw_below_drewN | apply below_drew1 | refine below_set ?_ GE109.out) | exact HB.out)))); have n2_ := Aside0.mk (blk_below (g := gb109) (o := .cells #[.bool false, .bool false, .slice none 0 0, .int .i64 0] 26 (0, 0)) (by (with_reducible repeat (first | refine blk_drewN ?_ _ | refine blk_drew ?_ | refine blk_alloc ?_ _)); exact BK109.out) hb); have n3_ := Aside0.mk (below_step (by repeat (first | (with_reducible first | exact HB.out | apply below_alloc | apply pw_below_drewN | apply below_drew1 | refine below_set ?_ GE109.out) | exact HB.out)) hb); clear HO112; clear BK109; clear HB; have HO112 := n0_; have HO115 := n1_; have BK109 := n2_; have HB := n3_; clear n0_ n1_ n2_ n3_; (try clear hb); (try clear hb2); (try clear hk); (try clear hi); (try clear ho0); obtain ⟨Ao14, co14, eo14⟩ := Kd.S_slice HO115.out; subst eo14) | ((with_reducible refine gate_callee (f := 18) rfl ?_); refine goesL_ (some 17) rfl rfl Tryd.func18 (by kernel_rfl) rfl #[.slice Ao14 t113.length co14, .string a2] rfl (by (try simp only [List.map_toArray, List.map_cons, List.map_nil]); first | done | rfl | (simp only [List.length_drop, List.length_take]; rfl)) ?_; (with_reducible refine (decorumref09_Pick.calls kj3 _ _ t113 a2 t116 t117 t118 t121 _ ?side1 ?side2 A10.out).mono ?_); (case side1 => repeat (first | exact (Kd.S_reads' HO115.out).2.2 | (with_reducible refine Kd.C_alloc ?_ _) | (with_reducible refine Kd.C_drewN ?_ _) | (with_reducible refine Kd.C_drew ?_))); (case side2 => exact (Kd.S_reads' HO115.out).2.1); rintro e w15 ⟨v119, rfl, ho0, hb⟩; refine ⟨_, rfl, ?_⟩; have n0_ := Aside0.mk (Kd.R_below (by (with_reducible repeat (first | apply Kd.R_alloc | apply Kd.R_drewN | apply Kd.R_drew)); exact HO112.out) hb); have n1_ := Aside0.mk (Kd.S_elder' (by (with_reducible repeat (first | apply Kd.S_alloc | apply Kd.S_drewN | apply Kd.S_drew)); exact HO115.out) (Kd.R_base ho0) hb); have n2_ := Aside0.mk (Kd.R_lower ho0 (below_size (by repeat (first | (with_reducible first | exact HB.out | apply below_alloc | apply pw_below_drewN | apply below_drew1 | refine below_set ?_ GE109.out) | exact HB.out)))); have n3_ := Aside0.mk (blk_below (g := gb109) (o := .cells #[.bool false, .bool false, .slice none 0 0, .int .i64 0] 26 (0, 0)) (by (with_reducible repeat (first | refine blk_drewN ?_ _ | refine blk_drew ?_ | refine blk_alloc ?_ _)); exact BK109.out) hb); have n4_ := Aside0.mk (below_step (by repeat (first | (with_reducible first | exact HB.out | apply below_alloc | apply pw_below_drewN | apply below_drew1 | refine below_set ?_ GE109.out) | exact HB.out)) hb); clear HO112; clear HO115; clear BK109; clear HB; have HO112 := n0_; have HO115 := n1_; have HO120 := n2_; have BK109 := n3_; have HB := n4_; clear n0_ n1_ n2_ n3_ n4_; (try clear hb); (try clear hb2); (try clear hk); (try clear hi); (try clear ho0); have hcz16_0 : w15.cell? ⟨gb109, 0, none⟩ = some (.bool false) := (blk_cell BK109.out 0).trans rfl; have hcz16_1 : w15.cell? ⟨gb109, 1, none⟩ = some (.bool false) := (blk_cell BK109.out 1).trans rfl; have hcz16_2 : w15.cell? ⟨gb109, 2, none⟩ = some (.slice none 0 0) := (blk_cell BK109.out 2).trans rfl; have hcz16_3 : w15.cell? ⟨gb109, 3, none⟩ = some (.int .i64 0) := (blk_cell BK109.out 3).trans rfl; have hfz16_0 := blk_frozen BK109.out 0; have hfz16_1 := blk_frozen BK109.out 1; have hfz16_2 := blk_frozen BK109.out 2; have hfz16_3 := blk_frozen BK109.out 3; obtain ⟨Ao17, co17, eo17⟩ := Kd.R_slice HO120.out; subst eo17))
        refine bodyPost_ret (results_cell_row rfl _ _ gb109 26 #[.bool t116, .bool t117, .slice Ao17 t118.length co17, .int .i64 t121] (0, 0) _ rfl (by (with_reducible repeat (first | refine blk_drewN ?_ _ | refine blk_drew ?_ | refine blk_alloc ?_ _)); refine blk_put (cs := #[.bool t116, .bool t117, .slice Ao17 t118.length co17, .int .i64 0]) ?_ 3 _ rfl; (with_reducible repeat (first | refine blk_drewN ?_ _ | refine blk_drew ?_ | refine blk_alloc ?_ _)); refine blk_put (cs := #[.bool t116, .bool t117, .slice none 0 0, .int .i64 0]) ?_ 2 _ rfl; (with_reducible repeat (first | refine blk_drewN ?_ _ | refine blk_drew ?_ | refine blk_alloc ?_ _)); refine blk_put (cs := #[.bool t116, .bool false, .slice none 0 0, .int .i64 0]) ?_ 1 _ rfl; (with_reducible repeat (first | refine blk_drewN ?_ _ | refine blk_drew ?_ | refine blk_alloc ?_ _)); refine blk_put (cs := #[.bool false, .bool false, .slice none 0 0, .int .i64 0]) ?_ 0 _ rfl; (with_reducible repeat (first | refine blk_drewN ?_ _ | refine blk_drew ?_ | refine blk_alloc ?_ _)); exact BK109.out) Tryd.underlying26 rfl (by kernel_rfl)) rfl ?_
        exact ⟨_, by first | rfl | (simp [errW_none, errW_some] <;> rfl) | (simp [*, errW_none, errW_some] <;> rfl) | (simp [wrap64]; done), by (with_reducible repeat (first | apply Kd.R_alloc | apply Kd.R_drewN | apply Kd.R_drew)); exact Kd.R_mono (Kd.R_far (p := ⟨gb109, 3, none⟩) (Kd.R_far (p := ⟨gb109, 2, none⟩) (Kd.R_far (p := ⟨gb109, 1, none⟩) (Kd.R_far (p := ⟨gb109, 0, none⟩) (Kd.R_types HO120.out BK109.out (by decide)) (fun _ hk => hk.2) (.bool t116)) (fun _ hk => hk.2) (.bool t117)) (fun _ hk => hk.2) (.slice Ao17 t118.length co17)) (fun _ hk => hk.2) (.int .i64 t121)) (fun _ hk => trivial), by repeat (first | (with_reducible first | exact HB.out | apply below_alloc | apply pw_below_drewN | apply below_drew1 | refine below_set ?_ GE109.out) | exact HB.out)⟩
      · replace c7 := Bool.eq_false_iff.mpr c7
        subst c7
        have H1 : (if a0 ≥ 400 then (if a0 < 500 then (if a0 = 429 then (some (false, true, ([] : List (S30)), 0)) else (some (true, false, ([] : List (S30)), 0))) else (some (false, true, ([] : List (S30)), 0))) else (some (false, true, ([] : List (S30)), 0))) = some (r1, r2, r3, r4) := by rw [if_neg (show ¬ (false = true) by decide)] at H; exact H
        clear H
        have H := H1
        clear H1
        by_cases c18 : a0 ≥ 400
        · rw [if_pos c18] at H
          have c18b0 : decide (400 ≤ a0) = true := decide_eq_true c18
          clear c18
          by_cases c19 : a0 < 500
          · rw [if_pos c19] at H
            have c19b0 : decide (a0 < 500) = true := decide_eq_true c19
            clear c19
            by_cases c20 : a0 = 429
            · rw [if_pos c20] at H
              have c20b0 : (a0 == 429) = true := beq_iff_eq.mpr c20
              have c20b1 : (a0 != 429) = false := bne_eq_false_iff_eq.mpr c20
              clear c20
              simp only [Option.some.injEq, Prod.mk.injEq] at H
              obtain ⟨rfl, rfl, rfl, rfl⟩ := H
              have hcz21_0 : wc.cell? ⟨gb109, 0, none⟩ = some (.bool false) := (blk_cell BK109.out 0).trans rfl
              have hcz21_1 : wc.cell? ⟨gb109, 1, none⟩ = some (.bool false) := (blk_cell BK109.out 1).trans rfl
              have hcz21_2 : wc.cell? ⟨gb109, 2, none⟩ = some (.slice none 0 0) := (blk_cell BK109.out 2).trans rfl
              have hcz21_3 : wc.cell? ⟨gb109, 3, none⟩ = some (.int .i64 0) := (blk_cell BK109.out 3).trans rfl
              have hfz21_0 := blk_frozen BK109.out 0
              have hfz21_1 := blk_frozen BK109.out 1
              have hfz21_2 := blk_frozen BK109.out 2
              have hfz21_3 := blk_frozen BK109.out 3
              go_wp2
              refine bodyPost_ret (results_cell_row rfl _ _ gb109 26 #[.bool false, .bool true, .slice none 0 0, .int .i64 0] (0, 0) _ rfl (by (with_reducible repeat (first | refine blk_drewN ?_ _ | refine blk_drew ?_ | refine blk_alloc ?_ _)); refine blk_put (cs := #[.bool false, .bool true, .slice none 0 0, .int .i64 0]) ?_ 3 _ rfl; (with_reducible repeat (first | refine blk_drewN ?_ _ | refine blk_drew ?_ | refine blk_alloc ?_ _)); refine blk_put (cs := #[.bool false, .bool true, .slice none 0 0, .int .i64 0]) ?_ 2 _ rfl; (with_reducible repeat (first | refine blk_drewN ?_ _ | refine blk_drew ?_ | refine blk_alloc ?_ _)); refine blk_put (cs := #[.bool false, .bool false, .slice none 0 0, .int .i64 0]) ?_ 1 _ rfl; (with_reducible repeat (first | refine blk_drewN ?_ _ | refine blk_drew ?_ | refine blk_alloc ?_ _)); refine blk_put (cs := #[.bool false, .bool false, .slice none 0 0, .int .i64 0]) ?_ 0 _ rfl; (with_reducible repeat (first | refine blk_drewN ?_ _ | refine blk_drew ?_ | refine blk_alloc ?_ _)); exact BK109.out) Tryd.underlying26 rfl (by kernel_rfl)) rfl ?_
              exact ⟨_, by first | rfl | (simp [errW_none, errW_some] <;> rfl) | (simp [*, errW_none, errW_some] <;> rfl) | (simp [wrap64]; done), by first | exact Kd.R_nil _ _ _ _ _ | exact Kd.N_nil _ _ _ _ _ | exact Kd.V_nil _ _ _ _ _ | exact Kd.Q_nil _ _ _ _ _ | exact Kd.S_nil _ _ _ _ _, by repeat (first | (with_reducible first | exact HB.out | apply below_alloc | apply pw_below_drewN | apply below_drew1 | refine below_set ?_ GE109.out) | exact HB.out)⟩
            · rw [if_neg c20] at H
              have c20b0 : (a0 == 429) = false := beq_eq_false_iff_ne.mpr c20
              have c20b1 : (a0 != 429) = true := bne_iff_ne.mpr c20
              simp only [Option.some.injEq, Prod.mk.injEq] at H
              obtain ⟨rfl, rfl, rfl, rfl⟩ := H
              have hcz22_0 : wc.cell? ⟨gb109, 0, none⟩ = some (.bool false) := (blk_cell BK109.out 0).trans rfl
              have hcz22_1 : wc.cell? ⟨gb109, 1, none⟩ = some (.bool false) := (blk_cell BK109.out 1).trans rfl
              have hcz22_2 : wc.cell? ⟨gb109, 2, none⟩ = some (.slice none 0 0) := (blk_cell BK109.out 2).trans rfl
              have hcz22_3 : wc.cell? ⟨gb109, 3, none⟩ = some (.int .i64 0) := (blk_cell BK109.out 3).trans rfl
              have hfz22_0 := blk_frozen BK109.out 0
              have hfz22_1 := blk_frozen BK109.out 1
              have hfz22_2 := blk_frozen BK109.out 2
              have hfz22_3 := blk_frozen BK109.out 3
              go_wp2
              refine bodyPost_ret (results_cell_row rfl _ _ gb109 26 #[.bool true, .bool false, .slice none 0 0, .int .i64 0] (0, 0) _ rfl (by (with_reducible repeat (first | refine blk_drewN ?_ _ | refine blk_drew ?_ | refine blk_alloc ?_ _)); refine blk_put (cs := #[.bool true, .bool false, .slice none 0 0, .int .i64 0]) ?_ 3 _ rfl; (with_reducible repeat (first | refine blk_drewN ?_ _ | refine blk_drew ?_ | refine blk_alloc ?_ _)); refine blk_put (cs := #[.bool true, .bool false, .slice none 0 0, .int .i64 0]) ?_ 2 _ rfl; (with_reducible repeat (first | refine blk_drewN ?_ _ | refine blk_drew ?_ | refine blk_alloc ?_ _)); refine blk_put (cs := #[.bool true, .bool false, .slice none 0 0, .int .i64 0]) ?_ 1 _ rfl; (with_reducible repeat (first | refine blk_drewN ?_ _ | refine blk_drew ?_ | refine blk_alloc ?_ _)); refine blk_put (cs := #[.bool false, .bool false, .slice none 0 0, .int .i64 0]) ?_ 0 _ rfl; (with_reducible repeat (first | refine blk_drewN ?_ _ | refine blk_drew ?_ | refine blk_alloc ?_ _)); exact BK109.out) Tryd.underlying26 rfl (by kernel_rfl)) rfl ?_
              exact ⟨_, by first | rfl | (simp [errW_none, errW_some] <;> rfl) | (simp [*, errW_none, errW_some] <;> rfl) | (simp [wrap64]; done), by first | exact Kd.R_nil _ _ _ _ _ | exact Kd.N_nil _ _ _ _ _ | exact Kd.V_nil _ _ _ _ _ | exact Kd.Q_nil _ _ _ _ _ | exact Kd.S_nil _ _ _ _ _, by repeat (first | (with_reducible first | exact HB.out | apply below_alloc | apply pw_below_drewN | apply below_drew1 | refine below_set ?_ GE109.out) | exact HB.out)⟩
          · rw [if_neg c19] at H
            have c19b0 : decide (a0 < 500) = false := decide_eq_false c19
            clear c19
            simp only [Option.some.injEq, Prod.mk.injEq] at H
            obtain ⟨rfl, rfl, rfl, rfl⟩ := H
            have hcz23_0 : wc.cell? ⟨gb109, 0, none⟩ = some (.bool false) := (blk_cell BK109.out 0).trans rfl
            have hcz23_1 : wc.cell? ⟨gb109, 1, none⟩ = some (.bool false) := (blk_cell BK109.out 1).trans rfl
            have hcz23_2 : wc.cell? ⟨gb109, 2, none⟩ = some (.slice none 0 0) := (blk_cell BK109.out 2).trans rfl
            have hcz23_3 : wc.cell? ⟨gb109, 3, none⟩ = some (.int .i64 0) := (blk_cell BK109.out 3).trans rfl
            have hfz23_0 := blk_frozen BK109.out 0
            have hfz23_1 := blk_frozen BK109.out 1
            have hfz23_2 := blk_frozen BK109.out 2
            have hfz23_3 := blk_frozen BK109.out 3
            go_wp2
            refine bodyPost_ret (results_cell_row rfl _ _ gb109 26 #[.bool false, .bool true, .slice none 0 0, .int .i64 0] (0, 0) _ rfl (by (with_reducible repeat (first | refine blk_drewN ?_ _ | refine blk_drew ?_ | refine blk_alloc ?_ _)); refine blk_put (cs := #[.bool false, .bool true, .slice none 0 0, .int .i64 0]) ?_ 3 _ rfl; (with_reducible repeat (first | refine blk_drewN ?_ _ | refine blk_drew ?_ | refine blk_alloc ?_ _)); refine blk_put (cs := #[.bool false, .bool true, .slice none 0 0, .int .i64 0]) ?_ 2 _ rfl; (with_reducible repeat (first | refine blk_drewN ?_ _ | refine blk_drew ?_ | refine blk_alloc ?_ _)); refine blk_put (cs := #[.bool false, .bool false, .slice none 0 0, .int .i64 0]) ?_ 1 _ rfl; (with_reducible repeat (first | refine blk_drewN ?_ _ | refine blk_drew ?_ | refine blk_alloc ?_ _)); refine blk_put (cs := #[.bool false, .bool false, .slice none 0 0, .int .i64 0]) ?_ 0 _ rfl; (with_reducible repeat (first | refine blk_drewN ?_ _ | refine blk_drew ?_ | refine blk_alloc ?_ _)); exact BK109.out) Tryd.underlying26 rfl (by kernel_rfl)) rfl ?_
            exact ⟨_, by first | rfl | (simp [errW_none, errW_some] <;> rfl) | (simp [*, errW_none, errW_some] <;> rfl) | (simp [wrap64]; done), by first | exact Kd.R_nil _ _ _ _ _ | exact Kd.N_nil _ _ _ _ _ | exact Kd.V_nil _ _ _ _ _ | exact Kd.Q_nil _ _ _ _ _ | exact Kd.S_nil _ _ _ _ _, by repeat (first | (with_reducible first | exact HB.out | apply below_alloc | apply pw_below_drewN | apply below_drew1 | refine below_set ?_ GE109.out) | exact HB.out)⟩
        · rw [if_neg c18] at H
          have c18b0 : decide (400 ≤ a0) = false := decide_eq_false c18
          clear c18
          simp only [Option.some.injEq, Prod.mk.injEq] at H
          obtain ⟨rfl, rfl, rfl, rfl⟩ := H
          have hcz24_0 : wc.cell? ⟨gb109, 0, none⟩ = some (.bool false) := (blk_cell BK109.out 0).trans rfl
          have hcz24_1 : wc.cell? ⟨gb109, 1, none⟩ = some (.bool false) := (blk_cell BK109.out 1).trans rfl
          have hcz24_2 : wc.cell? ⟨gb109, 2, none⟩ = some (.slice none 0 0) := (blk_cell BK109.out 2).trans rfl
          have hcz24_3 : wc.cell? ⟨gb109, 3, none⟩ = some (.int .i64 0) := (blk_cell BK109.out 3).trans rfl
          have hfz24_0 := blk_frozen BK109.out 0
          have hfz24_1 := blk_frozen BK109.out 1
          have hfz24_2 := blk_frozen BK109.out 2
          have hfz24_3 := blk_frozen BK109.out 3
          go_wp2
          refine bodyPost_ret (results_cell_row rfl _ _ gb109 26 #[.bool false, .bool true, .slice none 0 0, .int .i64 0] (0, 0) _ rfl (by (with_reducible repeat (first | refine blk_drewN ?_ _ | refine blk_drew ?_ | refine blk_alloc ?_ _)); refine blk_put (cs := #[.bool false, .bool true, .slice none 0 0, .int .i64 0]) ?_ 3 _ rfl; (with_reducible repeat (first | refine blk_drewN ?_ _ | refine blk_drew ?_ | refine blk_alloc ?_ _)); refine blk_put (cs := #[.bool false, .bool true, .slice none 0 0, .int .i64 0]) ?_ 2 _ rfl; (with_reducible repeat (first | refine blk_drewN ?_ _ | refine blk_drew ?_ | refine blk_alloc ?_ _)); refine blk_put (cs := #[.bool false, .bool false, .slice none 0 0, .int .i64 0]) ?_ 1 _ rfl; (with_reducible repeat (first | refine blk_drewN ?_ _ | refine blk_drew ?_ | refine blk_alloc ?_ _)); refine blk_put (cs := #[.bool false, .bool false, .slice none 0 0, .int .i64 0]) ?_ 0 _ rfl; (with_reducible repeat (first | refine blk_drewN ?_ _ | refine blk_drew ?_ | refine blk_alloc ?_ _)); exact BK109.out) Tryd.underlying26 rfl (by kernel_rfl)) rfl ?_
          exact ⟨_, by first | rfl | (simp [errW_none, errW_some] <;> rfl) | (simp [*, errW_none, errW_some] <;> rfl) | (simp [wrap64]; done), by first | exact Kd.R_nil _ _ _ _ _ | exact Kd.N_nil _ _ _ _ _ | exact Kd.V_nil _ _ _ _ _ | exact Kd.Q_nil _ _ _ _ _ | exact Kd.S_nil _ _ _ _ _, by repeat (first | (with_reducible first | exact HB.out | apply below_alloc | apply pw_below_drewN | apply below_drew1 | refine below_set ?_ GE109.out) | exact HB.out)⟩

end Go.Proofs.YtdnaddignhjihaaDoor.QU
namespace Go.Proofs.YtdnaddignhjihaaDoor.Given
open Go.RowKit Go.Proofs.YtdnaddignhjihaaDoor.QBase Go.Proofs.YtdnaddignhjihaaDoor.QU Go.Proofs.YtdnaddignhjihaaDoorW.PrintWords Go.Proofs.YtdnaddignhjihaaDoorW.PrintLast Go.Proofs.YtdnaddignhjihaaDoorW.PrintMore
set_option linter.unusedVariables false
namespace Aw
theorem v1 : readV 200 (⟨#[117, 115, 101, 114, 45, 97, 103, 101, 110, 116, 58, 32, 42, 10, 100, 105, 115, 97, 108, 108, 111, 119, 58, 32, 47, 10, 117, 115, 101, 114, 45, 97, 103, 101, 110, 116, 58, 32, 66, 111, 116, 10, 99, 114, 97, 119, 108, 45, 100, 101, 108, 97, 121, 58, 32, 51, 10, 97, 108, 108, 111, 119, 58, 32, 47]⟩ : ByteArray) (⟨#[98, 111, 116, 47, 50, 46, 49]⟩ : ByteArray) = (false, false, [(⟨true, ⟨#[47]⟩⟩ : S30)], 3000) := by kernel_rfl
theorem c1 (w : World) (hS : Shp w) : Calls Tryd.prog 9 #[.int .i64 200, .string (⟨#[117, 115, 101, 114, 45, 97, 103, 101, 110, 116, 58, 32, 42, 10, 100, 105, 115, 97, 108, 108, 111, 119, 58, 32, 47, 10, 117, 115, 101, 114, 45, 97, 103, 101, 110, 116, 58, 32, 66, 111, 116, 10, 99, 114, 97, 119, 108, 45, 100, 101, 108, 97, 121, 58, 32, 51, 10, 97, 108, 108, 111, 119, 58, 32, 47]⟩ : ByteArray), .string (⟨#[98, 111, 116, 47, 50, 46, 49]⟩ : ByteArray)] w fun e w' => ∃ (A : Option Addr) (c : Nat) (rs : List S30), e = .returned (.agg #[.bool false, .bool false, .slice A rs.length c, .int .i64 3000]) ∧ rs = [(⟨true, ⟨#[47]⟩⟩ : S30)] ∧ Rls w.heap.size w' A c rs ∧ Below w.heap.size w w' := by
  have h := read_calls 200 (⟨#[117, 115, 101, 114, 45, 97, 103, 101, 110, 116, 58, 32, 42, 10, 100, 105, 115, 97, 108, 108, 111, 119, 58, 32, 47, 10, 117, 115, 101, 114, 45, 97, 103, 101, 110, 116, 58, 32, 66, 111, 116, 10, 99, 114, 97, 119, 108, 45, 100, 101, 108, 97, 121, 58, 32, 51, 10, 97, 108, 108, 111, 119, 58, 32, 47]⟩ : ByteArray) (⟨#[98, 111, 116, 47, 50, 46, 49]⟩ : ByteArray) w (by decide) (by decide) hS
  rw [v1] at h
  exact h
theorem v2 : readV 200 (⟨#[117, 115, 101, 114, 45, 97, 103, 101, 110, 116, 58, 32, 42, 10, 100, 105, 115, 97, 108, 108, 111, 119, 58, 32, 47, 97]⟩ : ByteArray) (⟨#[98]⟩ : ByteArray) = (false, false, [(⟨false, ⟨#[47, 97]⟩⟩ : S30)], 0) := by kernel_rfl
theorem c2 (w : World) (hS : Shp w) : Calls Tryd.prog 9 #[.int .i64 200, .string (⟨#[117, 115, 101, 114, 45, 97, 103, 101, 110, 116, 58, 32, 42, 10, 100, 105, 115, 97, 108, 108, 111, 119, 58, 32, 47, 97]⟩ : ByteArray), .string (⟨#[98]⟩ : ByteArray)] w fun e w' => ∃ (A : Option Addr) (c : Nat) (rs : List S30), e = .returned (.agg #[.bool false, .bool false, .slice A rs.length c, .int .i64 0]) ∧ rs = [(⟨false, ⟨#[47, 97]⟩⟩ : S30)] ∧ Rls w.heap.size w' A c rs ∧ Below w.heap.size w w' := by
  have h := read_calls 200 (⟨#[117, 115, 101, 114, 45, 97, 103, 101, 110, 116, 58, 32, 42, 10, 100, 105, 115, 97, 108, 108, 111, 119, 58, 32, 47, 97]⟩ : ByteArray) (⟨#[98]⟩ : ByteArray) w (by decide) (by decide) hS
  rw [v2] at h
  exact h
theorem v3 : readV 404 (⟨#[]⟩ : ByteArray) (⟨#[98]⟩ : ByteArray) = (true, false, [], 0) := by kernel_rfl
theorem c3 (w : World) (hS : Shp w) : Calls Tryd.prog 9 #[.int .i64 404, .string (⟨#[]⟩ : ByteArray), .string (⟨#[98]⟩ : ByteArray)] w fun e w' => ∃ (A : Option Addr) (c : Nat) (rs : List S30), e = .returned (.agg #[.bool true, .bool false, .slice A rs.length c, .int .i64 0]) ∧ rs = [] ∧ Rls w.heap.size w' A c rs ∧ Below w.heap.size w w' := by
  have h := read_calls 404 (⟨#[]⟩ : ByteArray) (⟨#[98]⟩ : ByteArray) w (by decide) (by decide) hS
  rw [v3] at h
  exact h
theorem v4 : readV 500 (⟨#[]⟩ : ByteArray) (⟨#[98]⟩ : ByteArray) = (false, true, [], 0) := by kernel_rfl
theorem c4 (w : World) (hS : Shp w) : Calls Tryd.prog 9 #[.int .i64 500, .string (⟨#[]⟩ : ByteArray), .string (⟨#[98]⟩ : ByteArray)] w fun e w' => ∃ (A : Option Addr) (c : Nat) (rs : List S30), e = .returned (.agg #[.bool false, .bool true, .slice A rs.length c, .int .i64 0]) ∧ rs = [] ∧ Rls w.heap.size w' A c rs ∧ Below w.heap.size w w' := by
  have h := read_calls 500 (⟨#[]⟩ : ByteArray) (⟨#[98]⟩ : ByteArray) w (by decide) (by decide) hS
  rw [v4] at h
  exact h
theorem x1 : robots_Allowed.f 1000 false false [(⟨true, ⟨#[47]⟩⟩ : S30)] 3000 (⟨#[47, 120]⟩ : ByteArray) = some true := by decide +kernel
theorem x2 : robots_Allowed.f 1000 false false [(⟨false, ⟨#[47, 97]⟩⟩ : S30)] 0 (⟨#[47, 97, 98]⟩ : ByteArray) = some false := by decide +kernel
theorem x2r (rs : List S30) (h : rs = [(⟨false, ⟨#[47, 97]⟩⟩ : S30)]) : robots_Allowed.f 1000 false false rs 0 (⟨#[47, 97, 98]⟩ : ByteArray) = some false := by rw [h]; exact x2
theorem x3 : decorumref09_Token.f 1000 (⟨#[65]⟩ : ByteArray) = some (⟨#[97]⟩ : ByteArray) := by decide +kernel
theorem x4 : tokV (⟨#[65, 98, 45, 99, 95, 49]⟩ : ByteArray).data.toList = [97, 98, 45, 99, 95] := by decide +kernel
theorem c5 (w : World) : Calls Tryd.prog 14 #[.string (⟨#[65, 98, 45, 99, 95, 49]⟩ : ByteArray)] w fun e w' => e = .returned (.string (⟨#[97, 98, 45, 99, 95]⟩ : ByteArray)) ∧ Below w.heap.size w w' := by
  have h := token_calls (⟨#[65, 98, 45, 99, 95, 49]⟩ : ByteArray) w (by decide)
  rw [x4] at h
  exact h
end Aw
theorem Rls.le {base : Nat} {w : World} {A : Option Addr} {c : Nat} {rs : List S30} (h : Rls base w A c rs) : rs.length ≤ c := h.1
set_option maxHeartbeats 8000000 in
set_option maxRecDepth 1000000 in
theorem awake_calls (w : World) (hS : Shp w) : Calls Tryd.prog 7 #[] w fun e w' => e = .returned (.bool true) ∧ Below w.heap.size w w' := by
  have hfd0 : ∀ (x y : Bool) (A : Option Addr) (n c : Nat) (d : Int) (w : World), (Instr.field 26 (.agg #[.bool x, .bool y, .slice A n c, .int .i64 d]) 0).run Tryd.prog w = .ok (.bool x) w := fun _ _ _ _ _ _ _ => by kernel_rfl
  have hfd1 : ∀ (x y : Bool) (A : Option Addr) (n c : Nat) (d : Int) (w : World), (Instr.field 26 (.agg #[.bool x, .bool y, .slice A n c, .int .i64 d]) 1).run Tryd.prog w = .ok (.bool y) w := fun _ _ _ _ _ _ _ => by kernel_rfl
  have HS := Aside0.mk hS
  have HB := Aside0.mk (Below.refl w.heap.size w)
  clear hS
  go_enter Tryd.func7, Tryd.ntmps7
  go_upto_region 2 with (first
    | (go_at_call 9; with_reducible refine (Aw.c1 _ (Shp.below HS.out HB.out)).mono ?_; rintro e w1 ⟨A, c, rs, rfl, hrs0, hR0, b1⟩; have HB1 := Aside0.mk (below_step HB.out b1); have hrs := Aside0.mk hrs0; have hR := Aside0.mk (hR0.lower HB.out.size); clear hrs0 hR0 b1)
    | ((with_reducible refine gate_dst (N := 1) rfl ?_); refine box_event ?hg (N := 1) ?hd (cs := #[.bool false, .bool false, .slice none 0 0, .int .i64 0]) (t := 26) ?hr ?_; (case hd => rfl); (case hg => rfl); (case hr => first | (go_simp; done) | (go_simp; rfl)); intro b5 hb5 w3 hbox hb; have hB3 := Aside0.mk (below_step HB1.out hb); have hR3 := Aside0.mk (hR.out.below hb); have Hbx := Aside0.mk hbox; have hf50 := blk_frozen hbox 0; have hf51 := blk_frozen hbox 1; have hf52 := blk_frozen hbox 2; have hf53 := blk_frozen hbox 3; have hz0 := blk_cell hbox 0; have hz1 := blk_cell hbox 1; have hz2 := blk_cell hbox 2; have hz3 := blk_cell hbox 3; simp only [List.getElem?_toArray, List.getElem?_cons_zero, List.getElem?_cons_succ] at hz0 hz1 hz2 hz3; have hlb := Aside0.mk (by rw [hb5]; exact HB1.out.size : w.heap.size ≤ b5); clear HB1 hR hbox hb hb5))
  have x0 := blk_put Hbx.out 0 (.bool false) (cs' := #[.bool false, .bool false, .slice none 0 0, .int .i64 0]) rfl
  have x1 := blk_put x0 1 (.bool false) (cs' := #[.bool false, .bool false, .slice none 0 0, .int .i64 0]) rfl
  have x2 := blk_put x1 2 (.slice A rs.length c) (cs' := #[.bool false, .bool false, .slice A rs.length c, .int .i64 0]) rfl
  have Hbx4 := Aside0.mk (blk_put x2 3 (.int .i64 3000) (cs' := #[.bool false, .bool false, .slice A rs.length c, .int .i64 3000]) rfl)
  have HR4 := Aside0.mk ((((hR3.out.set Hbx.out 0 (.bool false)).set x0 1 (.bool false)).set x1 2 (.slice A rs.length c)).set x2 3 (.int .i64 3000))
  have HB4 := Aside0.mk (below_set (below_set (below_set (below_set hB3.out hlb.out (j := 0) (v := .bool false)) hlb.out (j := 1) (v := .bool false)) hlb.out (j := 2) (v := .slice A rs.length c)) hlb.out (j := 3) (v := .int .i64 3000))
  clear x0 x1 x2 hf50 hf51 hf52 hf53 hz0 hz1 hz2 hz3 hB3 Hbx hR3 HB
  generalize ((((w3.setCell ⟨b5, 0, none⟩ (.bool false)).setCell ⟨b5, 1, none⟩ (.bool false)).setCell ⟨b5, 2, none⟩ (.slice A rs.length c)).setCell ⟨b5, 3, none⟩ (.int .i64 3000)) = w4 at *
  have k0 : w4.cell? ⟨b5, 0, none⟩ = some (.bool false) := blk_cell Hbx4.out 0
  have k1 : w4.cell? ⟨b5, 1, none⟩ = some (.bool false) := blk_cell Hbx4.out 1
  have k2 : w4.cell? ⟨b5, 2, none⟩ = some (.slice A rs.length c) := blk_cell Hbx4.out 2
  have k3 : w4.cell? ⟨b5, 3, none⟩ = some (.int .i64 3000) := blk_cell Hbx4.out 3
  have hx1 : Aside0 (robots_Allowed.f 1000 false false rs 3000 (⟨#[47, 120]⟩ : ByteArray) = some true) := ⟨by rw [hrs.out]; exact Aw.x1⟩
  have ha1 := Aside0.mk (robots_Allowed.calls 1000 false false A c rs 3000 (⟨#[47, 120]⟩ : ByteArray) true w4 HR4.out.C HR4.out.1 hx1.out (Shp.below HS.out HB4.out))
  go_wp2_with (first
    | (go_at_call 11; with_reducible refine ha1.out.mono ?_; rintro e w5 ⟨rfl, b5_⟩; have HB5 := Aside0.mk (below_step HB4.out b5_); have k5 := blk_cell (blk_below Hbx4.out b5_) 3; simp only [List.getElem?_toArray, List.getElem?_cons_zero, List.getElem?_cons_succ] at k5; clear ha1 hx1 k0 k1 k2 k3 Hbx4 HR4 HB4 b5_ hrs)
    | (go_at_call 9; (with_reducible refine (Aw.c2 _ (Shp.below HS.out HB5.out)).mono ?_; rintro e w6 ⟨A2, c2, rs2, rfl, hrs2, hR2, b6⟩; have HB6 := Aside0.mk (below_step HB5.out b6); have ha2 := Aside0.mk (robots_Allowed.calls 1000 false false A2 c2 rs2 0 (⟨#[47, 97, 98]⟩ : ByteArray) false w6 hR2.C hR2.le (Aw.x2r rs2 hrs2) (Shp.below HS.out HB6.out)); clear k5 HB5 b6 hrs2 hR2))
    | (go_at_call 11; with_reducible refine ha2.out.mono ?_; rintro e w7 ⟨rfl, b7⟩; have HB7 := Aside0.mk (below_step HB6.out b7); clear ha2 HB6 b7)
    | (go_at_call 9; with_reducible refine (Aw.c3 _ (Shp.below HS.out HB7.out)).mono ?_; rintro e w8 ⟨A3, c3, rs3, rfl, hrs3, hR3, b8⟩; have HB8 := Aside0.mk (below_step HB7.out b8); clear HB7 b8 hrs3 hR3)
    | (go_at_call 9; with_reducible refine (Aw.c4 _ (Shp.below HS.out HB8.out)).mono ?_; rintro e w9 ⟨A4, c4, rs4, rfl, hrs4, hR4, b9⟩; have HB9 := Aside0.mk (below_step HB8.out b9); clear HB8 b9 hrs4 hR4)
    | (go_at_call 14; with_reducible refine (Aw.c5 _).mono ?_; rintro e w10 ⟨rfl, b10⟩; have HB10 := Aside0.mk (below_step HB9.out b10); clear HB9 b10)
    | (go_at_call 15; with_reducible refine (decorumref09_Token.calls 1000 _ _ _ Aw.x3).mono ?_; rintro e w11 ⟨rfl, b11⟩; have HB11 := Aside0.mk (below_step HB10.out b11); clear HB10 b11))
  go_ret
  exact ⟨rfl, HB11.out⟩
end Go.Proofs.YtdnaddignhjihaaDoor.Given
namespace Go.Proofs.YtdnaddignhjihaaDoor.Pure
open Go Go.RowKit Go.Proofs.YtdnaddignhjihaaDoor.QBase Go.Proofs.YtdnaddignhjihaaDoor.QU Go.Proofs.YtdnaddignhjihaaDoor.Given Go.Proofs.YtdnaddignhjihaaDoorW.PrintWords Go.Proofs.YtdnaddignhjihaaDoorW.PrintLast
set_option linter.unusedVariables false
set_option linter.unusedSimpArgs false
def lowT (c : UInt8) : Bool := (decide (97 ≤ c.toNat) && decide (c.toNat ≤ 122)) || c.toNat == 45 || c.toNat == 95
theorem lowT_low : ∀ c : UInt8, lowT (lowB c) = tokB c := by
  have h : ∀ n : Fin 256, lowT (lowB (UInt8.ofNat n.val)) = tokB (UInt8.ofNat n.val) := by decide +kernel
  intro c
  have := h ⟨c.toNat, c.toNat_lt⟩
  simpa using this
theorem tok_low (l : List UInt8) : (lowL l).takeWhile lowT = tokV l := by
  induction l with
  | nil => rfl
  | cons c t ih =>
    show ((lowB c) :: lowL t).takeWhile lowT = ((c :: t).takeWhile tokB).map lowB
    rw [List.takeWhile_cons, List.takeWhile_cons, lowT_low]
    cases tokB c
    · rfl
    · simp only [if_true, List.map_cons]; rw [ih]; rfl
theorem tok_l0 : ∀ (r u : List UInt8) (k : Nat), (u ++ r).length < 4611686018427387904 → r.length + 1 ≤ k → decorumref09_Token.l0 k (mk (u ++ r)) (u.length : Int) = some (mk (u ++ r.takeWhile lowT))
  | [], u, k, hn, hk => by
    obtain ⟨k, rfl⟩ : ∃ k', k = k' + 1 := ⟨k - 1, by omega⟩
    have hs : (mk (u ++ [])).size = u.length := by rw [mk_size]; simp
    simp only [decorumref09_Token.l0]
    rw [hs, if_neg (by omega), if_pos (by omega), if_pos (by omega), ext_l]
    simp
  | c :: r, u, k, hn, hk => by
    obtain ⟨k, rfl⟩ : ∃ k', k = k' + 1 := ⟨k - 1, by omega⟩
    have hs : (mk (u ++ c :: r)).size = u.length + (r.length + 1) := by rw [mk_size]; simp
    have hb := bt_mk u c r
    have hw : wrap64 ((u.length : Int) + 1) = (((u ++ [c]).length : Nat) : Int) := by
      rw [List.length_append] at hn ⊢
      simp only [wrap64, List.length_cons, List.length_nil] at hn ⊢; omega
    have ih := tok_l0 r (u ++ [c]) k (by simpa using hn) (by simp at hk; omega)
    rw [List.append_assoc, List.singleton_append] at ih
    have stop : (mk (u ++ c :: r)).extract 0 ((u.length : Int)).toNat = mk u := by rw [ext_l]; simp
    simp only [decorumref09_Token.l0]
    rw [hs, if_pos (by omega), if_pos (by omega), hb, hw, List.takeWhile_cons]
    by_cases h1 : 97 ≤ c.toNat ∧ c.toNat ≤ 122
    · have : lowT c = true := by simp [lowT, h1]
      rw [if_pos (by omega), if_pos (by omega), ih, this]; simp
    by_cases h2 : c.toNat = 45
    · have : lowT c = true := by simp [lowT, h2]
      rw [if_neg (by omega), if_pos (by omega), ih, this]; simp
    by_cases h3 : c.toNat = 95
    · have : lowT c = true := by simp [lowT, h3]
      rw [if_neg (by omega), if_neg (by omega), if_pos (by omega), ih, this]; simp
    have hl : lowT c = false := by simp [lowT]; omega
    rw [hl]
    by_cases h4 : 97 ≤ c.toNat
    · rw [if_pos (by omega), if_neg (by omega), if_neg (by omega), if_neg (by omega), if_pos (by omega), stop]; simp
    · rw [if_neg (by omega), if_neg (by omega), if_neg (by omega), if_pos (by omega), stop]; simp
theorem token_f (a : ByteArray) (ha : a.size ≤ 140737488351232) (k : Nat) (hk : a.size + 1 ≤ k) : decorumref09_Token.f k a = some (tokA a) := by
  have hl : (lowL a.data.toList).length = a.size := by simp [lowL]
  rw [decorumref09_Token.f, decorumref09_Lower.f, if_pos ha, Option.bind_some]
  have := tok_l0 (lowL a.data.toList) [] k (by simp only [List.nil_append]; omega) (by omega)
  rw [List.nil_append, tok_low] at this
  exact this

theorem rd71 (X : List S71) (i : Nat) (hi : i < X.length) : rd_T71 X (i : Int) = X[i] := by simp [rd_T71, hi]
theorem rdB (l : List ByteArray) (j : Nat) (hj : j < l.length) : rdOf ByteArray.empty l (j : Int) = l[j] := by simp [rdOf, hj]
theorem w1 (i : Nat) (h : i < 4611686018427387904) : wrap64 ((i : Int) + 1) = ((i + 1 : Nat) : Int) := by simp only [wrap64]; omega

/-- Is a name of a group one that the document's Pick looks for in a round? -/
def askB (rd : Int) (nm a : ByteArray) : Bool := if rd = 0 then (!(nm.toList == []) && (tokA a).toList == nm.toList) else (a.toList == [42])
def pStep (rd : Int) (nm : ByteArray) (st : Bool × List S30 × Int) (g : S71) : Bool × List S30 × Int :=
  if g.f0.any (askB rd nm) = true then (true, st.2.1 ++ g.f1, if st.2.2 < g.f2 then g.f2 else st.2.2) else st

theorem pick_l2 (X : List S71) (nm : ByteArray) (rd : Int) (hrd : rd = 0 ∨ rd = 1) (x8 : Bool) (i : Nat) (hi : i < X.length) (hX : X.length < 1000000) (rs : List S30) (dl : Int) (R : Bool × Bool × List S30 × Int)
    (hag : ∀ a ∈ X[i].f0, a.size ≤ 140737488351232) (hl : X[i].f0.length < 1000000) (hlen : rs.length + X[i].f1.length < 5864062014805) (fin : Bool) (K0 : Nat)
    (hfin : ∀ k, K0 ≤ k → (if fin = true then decorumref09_Pick.l1 k X nm rd true ((i + 1 : Nat) : Int) false false (rs ++ X[i].f1) (if dl < X[i].f2 then X[i].f2 else dl) else decorumref09_Pick.l1 k X nm rd x8 ((i + 1 : Nat) : Int) false false rs dl) = some R) :
    ∀ (m j : Nat) (b : Bool), X[i].f0.length - j = m → j ≤ X[i].f0.length → (b || (X[i].f0.drop j).any (askB rd nm)) = fin → ∃ K, ∀ k, K ≤ k → decorumref09_Pick.l2 k X nm rd x8 (i : Int) b (j : Int) false false rs dl = some R := by
  intro m
  induction m with
  | zero =>
    intro j b hm hj hf
    obtain rfl : j = X[i].f0.length := by omega
    rw [List.drop_length, List.any_nil, Bool.or_false] at hf
    subst hf
    refine ⟨K0 + 1, fun k hk => ?_⟩
    obtain ⟨k, rfl⟩ : ∃ k', k = k' + 1 := ⟨k - 1, by omega⟩
    simp only [decorumref09_Pick.l2]
    rw [if_pos (by omega), if_pos (by omega), rd71 X i hi, if_neg (by omega)]
    have h := hfin k (by omega)
    cases b with
    | true =>
      rw [if_pos rfl] at h ⊢
      rw [if_pos hlen, Option.bind_some, w1 i (by omega)]
      by_cases hd : dl < X[i].f2
      · rw [if_pos hd] at h; rw [if_pos (by omega)]; exact h
      · rw [if_neg hd] at h; rw [if_neg (by omega)]; exact h
    | false =>
      rw [if_neg (by decide)] at h ⊢
      rw [w1 i (by omega)]; exact h
  | succ m ih =>
    intro j b hm hj hf
    have hjl : j < X[i].f0.length := by omega
    have hsz := hag _ (List.getElem_mem hjl)
    rw [List.drop_eq_getElem_cons hjl, List.any_cons, ← Bool.or_assoc] at hf
    obtain ⟨K, hK⟩ := ih (j + 1) (b || askB rd nm X[i].f0[j]) (by omega) (by omega) hf
    refine ⟨K + X[i].f0[j].size + 2, fun k hk => ?_⟩
    obtain ⟨k, rfl⟩ : ∃ k', k = k' + 1 := ⟨k - 1, by omega⟩
    have h := hK k (by omega)
    simp only [decorumref09_Pick.l2]
    rw [if_pos (by omega), if_pos (by omega), rd71 X i hi, if_pos (by omega), if_pos (by omega), rdB _ j hjl, w1 j (by omega)]
    cases b with
    | true => rw [if_pos rfl]; exact h
    | false =>
      rw [if_neg (by decide)]
      rw [Bool.false_or] at h
      rcases hrd with rfl | rfl
      · rw [if_pos rfl]
        by_cases hn : nm.toList = []
        · have e : askB 0 nm X[i].f0[j] = false := by simp [askB, hn]
          rw [e] at h
          rw [if_pos hn, if_neg (by decide)]; exact h
        · rw [if_neg hn, token_f _ hsz k (by omega), Option.bind_some]
          by_cases ht : (tokA X[i].f0[j]).toList = nm.toList
          · have e : askB 0 nm X[i].f0[j] = true := by simp [askB, hn, ht]
            rw [e] at h
            rw [if_pos ht]; exact h
          · have e : askB 0 nm X[i].f0[j] = false := by simp [askB, hn, ht]
            rw [e] at h
            rw [if_neg ht, if_neg (by decide)]; exact h
      · rw [if_neg (by decide), if_pos rfl]
        have e : askB 1 nm X[i].f0[j] = (X[i].f0[j].toList == [42]) := by simp [askB]
        rw [e] at h
        exact h

theorem pick_l1 (X : List S71) (nm : ByteArray) (rd : Int) (hrd : rd = 0 ∨ rd = 1) (hX : X.length < 1000000) (hag : ∀ g ∈ X, g.f1.length ≤ 1000000 ∧ g.f0.length < 1000000 ∧ ∀ a ∈ g.f0, a.size ≤ 140737488351232) (R : Bool × Bool × List S30 × Int) :
    ∀ (m i : Nat) (x8 : Bool) (rs : List S30) (dl : Int), X.length - i = m → i ≤ X.length → rs.length ≤ i * 1000000 →
      (if ((X.drop i).foldl (pStep rd nm) (x8, rs, dl)).1 = true ∨ rd = 1 then R = (false, false, ((X.drop i).foldl (pStep rd nm) (x8, rs, dl)).2.1.take 64, ((X.drop i).foldl (pStep rd nm) (x8, rs, dl)).2.2) else ∃ K, ∀ k, K ≤ k → decorumref09_Pick.l0 k X nm (wrap64 (rd + 1)) = some R) →
      ∃ K, ∀ k, K ≤ k → decorumref09_Pick.l1 k X nm rd x8 (i : Int) false false rs dl = some R := by
  intro m
  induction m with
  | zero =>
    intro i x8 rs dl hm hi hlen h
    obtain rfl : i = X.length := by omega
    rw [List.drop_length, List.foldl_nil] at h
    simp only at h
    have main : ∃ K, ∀ k, K ≤ k → ∀ rs', rs' = rs.take 64 → (if x8 = true then some (false, false, rs', dl) else if rd = 1 then some (false, false, rs', dl) else decorumref09_Pick.l0 k X nm (wrap64 (rd + 1))) = some R := by
      by_cases hc : x8 = true ∨ rd = 1
      · rw [if_pos hc] at h
        subst h
        refine ⟨0, fun k _ rs' hr => ?_⟩
        subst hr
        rcases hc with hc | hc
        · rw [if_pos hc]
        · by_cases h8 : x8 = true
          · rw [if_pos h8]
          · rw [if_neg h8, if_pos hc]
      · rw [if_neg hc] at h
        obtain ⟨K, hK⟩ := h
        exact ⟨K, fun k hk rs' _ => by rw [if_neg (fun e => hc (.inl e)), if_neg (fun e => hc (.inr e))]; exact hK k hk⟩
    obtain ⟨K, hK⟩ := main
    refine ⟨K + 1, fun k hk => ?_⟩
    obtain ⟨k, rfl⟩ : ∃ k', k = k' + 1 := ⟨k - 1, by omega⟩
    simp only [decorumref09_Pick.l1]
    rw [if_neg (by omega)]
    by_cases h64 : (rs.length : Int) > 64
    · rw [if_pos h64, if_pos (by omega), Option.bind_some]
      exact hK k (by omega) _ rfl
    · rw [if_neg h64]
      exact hK k (by omega) rs (by rw [List.take_of_length_le (by omega)])
  | succ m ih =>
    intro i x8 rs dl hm hi hlen h
    have hil : i < X.length := by omega
    rw [List.drop_eq_getElem_cons hil, List.foldl_cons] at h
    obtain ⟨h1, h0, ha⟩ := hag _ (List.getElem_mem hil)
    have step : ∃ K, ∀ k, K ≤ k → (if X[i].f0.any (askB rd nm) = true then decorumref09_Pick.l1 k X nm rd true ((i + 1 : Nat) : Int) false false (rs ++ X[i].f1) (if dl < X[i].f2 then X[i].f2 else dl) else decorumref09_Pick.l1 k X nm rd x8 ((i + 1 : Nat) : Int) false false rs dl) = some R := by
      by_cases hany : X[i].f0.any (askB rd nm) = true
      · simp only [if_pos hany]
        have e : pStep rd nm (x8, rs, dl) X[i] = (true, rs ++ X[i].f1, if dl < X[i].f2 then X[i].f2 else dl) := by simp only [pStep]; rw [if_pos hany]
        rw [e] at h
        exact ih (i + 1) true _ _ (by omega) (by omega) (by rw [List.length_append]; omega) h
      · simp only [if_neg hany]
        have e : pStep rd nm (x8, rs, dl) X[i] = (x8, rs, dl) := by simp only [pStep]; rw [if_neg hany]
        rw [e] at h
        exact ih (i + 1) x8 _ _ (by omega) (by omega) (Nat.le_trans hlen (Nat.mul_le_mul_right _ (Nat.le_succ i))) h
    obtain ⟨K0, hK0⟩ := step
    obtain ⟨K, hK⟩ := pick_l2 X nm rd hrd x8 i hil hX rs dl R ha h0 (by have : rs.length ≤ 1000000 * 1000000 := Nat.le_trans hlen (Nat.mul_le_mul_right _ (by omega)); omega) (X[i].f0.any (askB rd nm)) K0 hK0 X[i].f0.length 0 false (by omega) (by omega) (by simp)
    refine ⟨K + 1, fun k hk => ?_⟩
    obtain ⟨k, rfl⟩ : ∃ k', k = k' + 1 := ⟨k - 1, by omega⟩
    have h := hK k (by omega)
    simp only [decorumref09_Pick.l1]
    rw [if_pos (by omega)]
    exact h

theorem tokA_low (a : ByteArray) : ∀ c ∈ (tokA a).toList, lowT c = true := by
  rw [tokA_list, ← tok_low]
  intro c hc
  have : ∀ (l : List UInt8), c ∈ l.takeWhile lowT → lowT c = true := by
    intro l
    induction l with
    | nil => intro h; cases h
    | cons d t ih =>
      rw [List.takeWhile_cons]
      intro h
      cases hd : lowT d with
      | false => rw [hd] at h; simp at h
      | true =>
        rw [hd] at h
        rcases List.mem_cons.mp h with rfl | h
        · exact hd
        · exact ih h
  exact this _ hc
theorem tok_id : ∀ l : List UInt8, (∀ c ∈ l, lowT c = true) → tokV l = l := by
  have h0 : ∀ n : Fin 256, lowT (UInt8.ofNat n.val) = true → lowB (UInt8.ofNat n.val) = UInt8.ofNat n.val := by decide +kernel
  have h1 : ∀ c : UInt8, lowT c = true → lowB c = c := by
    intro c hc
    have := h0 ⟨c.toNat, c.toNat_lt⟩
    simp at this
    exact this hc
  intro l h
  induction l with
  | nil => rfl
  | cons c t ih =>
    have hc := h c (List.mem_cons_self ..)
    have ht := ih (fun d hd => h d (List.mem_cons_of_mem _ hd))
    have hb : tokB c = true := by rw [← lowT_low, h1 c hc]; exact hc
    show ((c :: t).takeWhile tokB).map lowB = c :: t
    rw [List.takeWhile_cons, hb, if_pos rfl, List.map_cons, h1 c hc]
    exact congrArg _ ht
theorem isFor_name (ag a : ByteArray) (h : (tokV ag.data.toList).isEmpty = false) : isFor (tokA ag) a = askB 0 (tokA ag) a := by
  have hne : ((tokA ag).toList == []) = false := by rw [tokA_list]; cases hl : tokV ag.data.toList with
    | nil => rw [hl] at h; cases h
    | cons c t => rfl
  have h42 : ((tokA ag).toList == [42]) = false := by
    rw [Bool.eq_false_iff]
    intro e
    have e := eq_of_beq e
    have := tokA_low ag 42 (by rw [e]; simp)
    exact absurd this (by decide)
  simp only [isFor, askB, h42, hne, Bool.not_false, Bool.true_and, if_true]
  cases hs : (a.toList == (tokA ag).toList) with
  | false => simp
  | true =>
    have e := eq_of_beq hs
    have e2 : (tokA a).toList = (tokA ag).toList := by
      rw [tokA_list, ← Lib.toList_data, e]
      exact tok_id _ (tokA_low ag)
    simp [e2]
theorem isFor_all (nm a : ByteArray) : isFor ⟨#[42]⟩ a = askB 1 nm a := by
  have e0 : (⟨#[42]⟩ : ByteArray).toList = [42] := by rw [Lib.toList_data]
  have e : ((⟨#[42]⟩ : ByteArray).toList == [42]) = true := by rw [e0]; rfl
  simp only [isFor, askB, e, Bool.not_true, Bool.false_and, Bool.or_false]
  rw [if_neg (by decide)]
  rw [e0]
theorem fold_of (rd : Int) (nm nm' : ByteArray) (h : ∀ a, isFor nm' a = askB rd nm a) : ∀ (l : List S86) (st : Bool × List S30 × Int), (l.map c57).foldl (pStep rd nm) st = l.foldl (ofStep nm') st
  | [], st => rfl
  | g :: l, st => by
    rw [List.map_cons, List.foldl_cons, List.foldl_cons]
    have e : pStep rd nm st (c57 g) = ofStep nm' st g := by
      have : isFor nm' = askB rd nm := funext h
      simp only [pStep, ofStep, this]; rfl
    rw [e]
    exact fold_of rd nm nm' h l _

theorem pick_f (gs : List S86) (ag : ByteArray) (hok : ofOk gs) (ha : ag.size ≤ 140737488351232) : ∃ K, ∀ k, K ≤ k → decorumref09_Pick.f k (gs.map c57) ag = some (false, false, (pickV gs ag).1, (pickV gs ag).2) := by
  have hX : (gs.map c57).length < 1000000 := by rw [List.length_map]; exact hok.1
  have hag : ∀ g ∈ gs.map c57, g.f1.length ≤ 1000000 ∧ g.f0.length < 1000000 ∧ ∀ a ∈ g.f0, a.size ≤ 140737488351232 := by
    intro g hg
    obtain ⟨x, hx, rfl⟩ := List.mem_map.mp hg
    exact hok.2 x hx
  have two : ∀ R, R = (false, false, (ofL ⟨#[42]⟩ gs).2.1.take 64, (ofL ⟨#[42]⟩ gs).2.2) → ∃ K, ∀ k, K ≤ k → decorumref09_Pick.l0 k (gs.map c57) (tokA ag) 1 = some R := by
    intro R hR
    have h := fold_of 1 (tokA ag) ⟨#[42]⟩ (isFor_all (tokA ag)) gs (false, [], 0)
    obtain ⟨K, hK⟩ := pick_l1 (gs.map c57) (tokA ag) 1 (.inr rfl) hX hag R (gs.map c57).length 0 false [] 0 (by omega) (by omega) (by simp) (by
      rw [if_pos (.inr rfl), List.drop_zero, h]; exact hR)
    refine ⟨K + 1, fun k hk => ?_⟩
    obtain ⟨k, rfl⟩ : ∃ k', k = k' + 1 := ⟨k - 1, by omega⟩
    simp only [decorumref09_Pick.l0]
    rw [if_pos (by decide)]
    exact hK k (by omega)
  have one : ∀ R, (if (((gs.map c57).drop 0).foldl (pStep 0 (tokA ag)) (false, [], 0)).1 = true then R = (false, false, (((gs.map c57).drop 0).foldl (pStep 0 (tokA ag)) (false, [], 0)).2.1.take 64, (((gs.map c57).drop 0).foldl (pStep 0 (tokA ag)) (false, [], 0)).2.2) else ∃ K, ∀ k, K ≤ k → decorumref09_Pick.l0 k (gs.map c57) (tokA ag) (wrap64 (0 + 1)) = some R) → ∃ K, ∀ k, K ≤ k → decorumref09_Pick.l0 k (gs.map c57) (tokA ag) 0 = some R := by
    intro R hR
    obtain ⟨K, hK⟩ := pick_l1 (gs.map c57) (tokA ag) 0 (.inl rfl) hX hag R (gs.map c57).length 0 false [] 0 (by omega) (by omega) (by simp) (by
      by_cases hc : (((gs.map c57).drop 0).foldl (pStep 0 (tokA ag)) (false, [], 0)).1 = true
      · rw [if_pos hc] at hR
        rw [if_pos (.inl hc)]; exact hR
      · rw [if_neg hc] at hR
        rw [if_neg (by rintro (h | h); exact hc h; exact absurd h (by decide))]; exact hR)
    refine ⟨K + 1, fun k hk => ?_⟩
    obtain ⟨k, rfl⟩ : ∃ k', k = k' + 1 := ⟨k - 1, by omega⟩
    simp only [decorumref09_Pick.l0]
    rw [if_pos (by decide)]
    exact hK k (by omega)
  have main : ∃ K, ∀ k, K ≤ k → decorumref09_Pick.l0 k (gs.map c57) (tokA ag) 0 = some (false, false, (pickV gs ag).1, (pickV gs ag).2) := by
    refine one _ ?_
    rw [List.drop_zero]
    cases he : (tokV ag.data.toList).isEmpty with
    | false =>
      have h := fold_of 0 (tokA ag) (tokA ag) (fun a => isFor_name ag a he) gs (false, [], 0)
      rw [h]
      by_cases hc : (ofL (tokA ag) gs).1 = true
      · have e : pickV gs ag = ((ofL (tokA ag) gs).2.1.take 64, (ofL (tokA ag) gs).2.2) := by rw [pickV, if_pos ⟨he, hc⟩]
        rw [e]
        have hc' : (gs.foldl (ofStep (tokA ag)) (false, [], 0)).1 = true := hc
        rw [if_pos hc']; rfl
      · have e : pickV gs ag = ((ofL ⟨#[42]⟩ gs).2.1.take 64, (ofL ⟨#[42]⟩ gs).2.2) := by rw [pickV, if_neg (fun h => hc h.2)]
        have hc' : ¬ (gs.foldl (ofStep (tokA ag)) (false, [], 0)).1 = true := hc
        rw [if_neg hc', e, show wrap64 (0 + 1) = 1 from by simp [wrap64]]
        exact two _ rfl
    | true =>
      have hnil : (tokA ag).toList = [] := by rw [tokA_list]; exact List.isEmpty_iff.mp he
      have e : pickV gs ag = ((ofL ⟨#[42]⟩ gs).2.1.take 64, (ofL ⟨#[42]⟩ gs).2.2) := by rw [pickV, if_neg (fun h => by rw [he] at h; exact absurd h.1 (by decide))]
      have hno : ∀ (l : List S71) (st : Bool × List S30 × Int), l.foldl (pStep 0 (tokA ag)) st = st := by
        intro l
        induction l with
        | nil => intro st; rfl
        | cons g l ih =>
          intro st
          rw [List.foldl_cons]
          have e : pStep 0 (tokA ag) st g = st := by
            have : g.f0.any (askB 0 (tokA ag)) = false := by
              rw [Bool.eq_false_iff]
              intro h
              obtain ⟨a, _, h⟩ := List.any_eq_true.mp h
              simp [askB, hnil] at h
            simp only [pStep, this]; rfl
          rw [e]; exact ih st
      rw [hno, if_neg (by decide), e, show wrap64 (0 + 1) = 1 from by simp [wrap64]]
      exact two _ rfl
  obtain ⟨K, hK⟩ := main
  refine ⟨K + ag.size + 1, fun k hk => ?_⟩
  rw [decorumref09_Pick.f, token_f ag ha k (by omega), Option.bind_some]
  exact hK k (by omega)

theorem refread_f (st : Int) (b ag : ByteArray) (hb : b.size ≤ 140737488351232) (ha : ag.size ≤ 140737488351232) : ∃ K, ∀ k, K ≤ k → decorumref09_Read.f k st b ag = some (readV st b ag) := by
  obtain ⟨K, hK⟩ := pick_f (groupsOf b) ag (groupsOf_ok b) ha
  obtain ⟨s1, s2⟩ := parse_small _ (cut_4096 b)
  have h1 : ∀ k, 30000 ≤ k → decorumref09_Parse.f k b = some ((parseV (cut4096 b).data.toList).map conv) := fun k hk => ref_parse b k hk
  have h2 : decorumref09_Groups.f ((parseV (cut4096 b).data.toList).map conv) = some ((groupsOf b).map c57) := refgroups_f _ s1 s2
  refine ⟨K + 30001, fun k hk => ?_⟩
  obtain ⟨k, rfl⟩ : ∃ k', k = k' + 1 := ⟨k - 1, by omega⟩
  unfold decorumref09_Read.f
  by_cases c1 : 200 ≤ st
  · rw [if_pos c1]
    simp only [decorumref09_Read.j0]
    by_cases c2 : st < 300
    · have hv : readV st b ag = (false, false, pickV (groupsOf b) ag) := by rw [readV, if_pos ⟨c1, c2⟩]
      rw [if_pos (by simpa using c2), hv, h1 k (by omega), Option.bind_some, h2, Option.bind_some, hK k (by omega)]
      rfl
    · rw [if_neg (by simpa using c2)]
      by_cases c3 : 400 ≤ st
      · rw [if_pos c3]
        by_cases c4 : st < 500
        · rw [if_pos c4]
          by_cases c5 : st = 429
          · have hv : readV st b ag = (false, true, [], 0) := by rw [readV, if_neg (fun h => c2 h.2), if_neg (fun h => h.2.2 c5)]
            rw [if_pos c5, hv]
          · have hv : readV st b ag = (true, false, [], 0) := by rw [readV, if_neg (fun h => c2 h.2), if_pos ⟨c3, c4, c5⟩]
            rw [if_neg c5, hv]
        · have hv : readV st b ag = (false, true, [], 0) := by rw [readV, if_neg (fun h => c2 h.2), if_neg (fun h => c4 h.2.1)]
          rw [if_neg c4, hv]
      · have hv : readV st b ag = (false, true, [], 0) := by rw [readV, if_neg (fun h => c2 h.2), if_neg (fun h => c3 h.1)]
        rw [if_neg c3, hv]
  · have hv : readV st b ag = (false, true, [], 0) := by rw [readV, if_neg (fun h => c1 h.1), if_neg (fun h => c1 (by omega))]
    rw [if_neg c1]
    simp only [decorumref09_Read.j0]
    rw [if_neg (by decide), if_neg (fun h => c1 (by omega)), hv]

theorem same_l0 (rs : List S30) (hn : rs.length < 1000000) (a b c d : Bool) (x y : Int) : ∀ (m i k : Nat), rs.length - i = m → i ≤ rs.length → m + 1 ≤ k → decorumref09_Same.l0 k (i : Int) a b rs x c d rs y = some true := by
  intro m
  induction m with
  | zero =>
    intro i k hm hi hk
    obtain ⟨k, rfl⟩ : ∃ k', k = k' + 1 := ⟨k - 1, by omega⟩
    simp only [decorumref09_Same.l0]
    rw [if_neg (by omega)]
  | succ m ih =>
    intro i k hm hi hk
    obtain ⟨k, rfl⟩ : ∃ k', k = k' + 1 := ⟨k - 1, by omega⟩
    simp only [decorumref09_Same.l0]
    rw [if_pos (by omega), if_pos (by omega), if_pos (by omega), if_neg (by simp), w1 i (by omega)]
    exact ih (i + 1) k (by omega) (by omega) (by omega)
theorem same_f (rs : List S30) (hn : rs.length < 1000000) (a b : Bool) (x : Int) (k : Nat) (hk : rs.length + 2 ≤ k) : decorumref09_Same.f k a b rs x a b rs x = some true := by
  obtain ⟨k, rfl⟩ : ∃ k', k = k' + 1 := ⟨k - 1, by omega⟩
  rw [decorumref09_Same.f, if_neg (by simp), if_neg (by simp), if_pos rfl]
  simp only [decorumref09_Same.j0]
  rw [if_neg (by simp)]
  exact same_l0 rs hn a b a b x x rs.length 0 k (by omega) (by omega) (by omega)
theorem pick_len (gs : List S86) (ag : ByteArray) : (pickV gs ag).1.length ≤ 64 := by
  unfold pickV
  split <;> (simp only [List.length_take]; omega)
theorem read_len (st : Int) (b ag : ByteArray) : (readV st b ag).2.2.1.length ≤ 64 := by
  unfold readV
  split
  · exact pick_len _ _
  split <;> simp
end Go.Proofs.YtdnaddignhjihaaDoor.Pure
namespace Go.Proofs.YtdnaddignhjihaaDoor.WalkRobotsReads
set_option linter.unusedVariables false
open Go.RowKit Go.Proofs.YtdnaddignhjihaaDoor.Given Go.Proofs.YtdnaddignhjihaaDoor.QBase Go.Proofs.YtdnaddignhjihaaDoor.QU Go.Proofs.YtdnaddignhjihaaDoorW.PrintWords
theorem shp (w : World) (h : w.ShapedOpen Tryd.prog) : Shp w := Tryd.laysM145.s1_3 w h
set_option maxHeartbeats 8000000 in
set_option maxRecDepth 1000000 in
theorem main (st : Int) (b0 b ag : ByteArray) (hb0 : b = if 3000 < b0.size then b0.extract 0 3000 else b0) (w : World) (hs : b.size ≤ 140737488351232) (wa : ag.size ≤ 140737488351232) (hS : Shp w) :
    Calls Tryd.prog 3 #[.int .i64 st, .string b0, .string ag] w fun e w' => e = .returned (.bool true) ∧ Below w.heap.size w w' := by
  have HS := Aside0.mk hS
  have HB := Aside0.mk (Below.refl w.heap.size w)
  have hrd := fun (w1 : World) (h : Shp w1) => read_calls st b ag w1 hs wa h
  obtain ⟨r, hr⟩ : ∃ r, r = readV st b ag := ⟨_, rfl⟩
  obtain ⟨K, hK⟩ := Pure.refread_f st b ag hs wa
  have hK := hK K (Nat.le_refl _)
  have hl := Pure.read_len st b ag
  rw [← hr] at hrd hK hl
  obtain ⟨r1, r2, r3, r4⟩ := r
  have hrr := fun (w1 : World) => decorumref09_Read.calls K st b ag r1 r2 r3 r4 w1 hK
  have hsm := fun (rs : List S30) (h : rs = r3) => (show decorumref09_Same.f 100 r1 r2 rs r4 r1 r2 r3 r4 = some true by subst h; exact Pure.same_f rs (by simp only at hl; omega) _ _ _ _ (by simp only at hl; omega))
  have HRd := Aside0.mk hrd
  have HRr := Aside0.mk hrr
  have HSm := Aside0.mk hsm
  clear hrd hrr hsm hK hr hl hS
  by_cases h : 3000 < b0.size
  · rw [if_pos h] at hb0
    have g : (3000 < (b0.size : Int)) = True := eq_true (by omega)
    subst hb0
    go_enter Tryd.func3, Tryd.ntmps3
    go_wp2_with (first
      | (go_at_call 7; refine (awake_calls _ (Shp.below HS.out HB.out)).mono ?_; rintro e w1 ⟨rfl, b1⟩; have HB1 := Aside0.mk (below_step HB.out b1); clear HB b1)
      | (go_at_call 9; refine (HRd.out _ (Shp.below HS.out HB1.out)).mono ?_; rintro e w2 ⟨A, c, rs, rfl, hrs0, hR0, b2⟩; have HB2 := Aside0.mk (below_step HB1.out b2); have hrs := Aside0.mk hrs0; have hR := Aside0.mk hR0; clear HB1 b2 hrs0 hR0)
      | (go_at_call 10; refine (HRr.out _).mono ?_; rintro e w3 ⟨v3, rfl, hR3, b3⟩; obtain ⟨A3, c3, hv3⟩ := Kd.R_slice hR3; subst hv3; have hC3 := Aside0.mk (Kd.R_reads' hR3).2; have hRr := Aside0.mk (hR.out.below b3); have HB3 := Aside0.mk (below_step HB2.out b3); clear HB2 b3 hR hR3)
      | (go_at_call 8; refine (decorumref09_Same.calls 100 r1 r2 A c rs r4 r1 r2 A3 c3 r3 r4 true _ hRr.out.C hRr.out.le hC3.out.2 hC3.out.1 (HSm.out rs hrs.out)).mono ?_; rintro e w4 ⟨rfl, b4⟩; have HB4 := Aside0.mk (below_step HB3.out b4); clear HB3 b4))
    go_ret
    exact ⟨rfl, HB4.out⟩
  · rw [if_neg h] at hb0
    have g : (3000 < (b0.size : Int)) = False := eq_false (by omega)
    subst hb0
    go_enter Tryd.func3, Tryd.ntmps3
    go_wp2_with (first
      | (go_at_call 7; refine (awake_calls _ (Shp.below HS.out HB.out)).mono ?_; rintro e w1 ⟨rfl, b1⟩; have HB1 := Aside0.mk (below_step HB.out b1); clear HB b1)
      | (go_at_call 9; refine (HRd.out _ (Shp.below HS.out HB1.out)).mono ?_; rintro e w2 ⟨A, c, rs, rfl, hrs0, hR0, b2⟩; have HB2 := Aside0.mk (below_step HB1.out b2); have hrs := Aside0.mk hrs0; have hR := Aside0.mk hR0; clear HB1 b2 hrs0 hR0)
      | (go_at_call 10; refine (HRr.out _).mono ?_; rintro e w3 ⟨v3, rfl, hR3, b3⟩; obtain ⟨A3, c3, hv3⟩ := Kd.R_slice hR3; subst hv3; have hC3 := Aside0.mk (Kd.R_reads' hR3).2; have hRr := Aside0.mk (hR.out.below b3); have HB3 := Aside0.mk (below_step HB2.out b3); clear HB2 b3 hR hR3)
      | (go_at_call 8; refine (decorumref09_Same.calls 100 r1 r2 A c rs r4 r1 r2 A3 c3 r3 r4 true _ hRr.out.C hRr.out.le hC3.out.2 hC3.out.1 (HSm.out rs hrs.out)).mono ?_; rintro e w4 ⟨rfl, b4⟩; have HB4 := Aside0.mk (below_step HB3.out b4); clear HB3 b4))
    go_ret
    exact ⟨rfl, HB4.out⟩
theorem walk (a0 : Int) (a1 a2 : ByteArray) (w : World) (w0 : (Lit.int .i64 a0).wf = true) (w1 : a1.size ≤ 140737488351232) (w2 : a2.size ≤ 140737488351232) (hsh : w.ShapedOpen Tryd.prog) :
    Calls Tryd.prog 3 #[.int .i64 a0, .string a1, .string a2] w fun e w' => e = .returned (.bool true) ∧ Below w.heap.size w w' :=
  main a0 a1 _ a2 rfl w (by split <;> first | (simp only [ByteArray.size_extract]; omega) | omega) w2 (shp w hsh)
end Go.Proofs.YtdnaddignhjihaaDoor.WalkRobotsReads
namespace Go.Proofs.YtdnaddignhjihaaDoor.Lift
open Go
variable {H : Type} {enc : TypeId × Value → H}
theorem lift {a : Assume} {C : Checked} {os : Os} {f : FuncId} {fn : Func} {s : ChangeSpec} {conds : List PathCond} {apart fresh handsOn again : Bool} {X : World → Array Value → Prop}
    (own : ownKnob C.prog.godebug = none) (started : os.Started) (noInit : C.prog.inits.idxOf? f = none) (hfn : C.prog.funcs[f]? = some fn)
    (witness : ∃ (w : World) (tape : Tape) (i : Input), w.os = os ∧ (w.forCall tape i).Shaped C.prog ∧ i.vars = [] ∧ Input.okWide C.prog (w.forCall tape i) .any w.heap.size f i ∧
      ((s.pre enc C.prog fn conds apart (w.forCall tape i).memory i.args ∧ X (w.forCall tape i).memory i.args) ∧ sizedMet enc C.prog fn (OpenSpec.ofChange s) apart (w.forCall tape i).memory i.args) ∧ a.holds C.prog (lone (Frame.enter C.prog f i.args .normal) [] (w.forCall tape i)))
    (contract : ∀ (W : World) (base : Nat) (args : Array Value) (ds gs : List (DataW H)) (before : List MemPlace),
      (∀ (j : Nat) t v, fn.params[j]? = some t → args[j]? = some v → Value.okWide C.prog W .any base t v) →
      DataW.Whole enc C.prog fn.params.toList s.vars apart W args.toList ds gs before →
      conds.all (PathCond.test C.prog ⟨fn.params.toList, ds, s.plain.varTypes C.prog, gs⟩) = true →
      (DataW.weightsEach C.prog (fn.params.toList ++ s.plain.varTypes C.prog) (ds ++ gs)).all (· ≤ reachBytes) = true →
      W.ShapedOpen C.prog →
      Calls C.prog f args W fun e W' => ∃ v, e = .returned v ∧ s.post enc C.prog fn apart fresh handsOn again W args v W') :
    ReturnsInHanded a C os f .any (fun w args => (s.pre enc C.prog fn conds apart w args ∧ X w args) ∧ sizedMet enc C.prog fn (OpenSpec.ofChange s) apart w args) (s.post enc C.prog fn apart fresh handsOn again) := by
  refine returnsInHanded_of_calls own started noInit witness ?_
  intro w tape i _ hsh _ hok hpre _
  obtain ⟨_, _, _, g, hg, _, _, _, _, hval⟩ := hok
  obtain rfl : g = fn := Option.some.inj (hg.symm.trans hfn)
  obtain ⟨⟨⟨ds, gs, before, hw, hc⟩, _⟩, hz⟩ := hpre
  exact (contract (w.forCall tape i) w.heap.size i.args ds gs before hval (DataW.Whole.of_heap (w' := w.forCall tape i) (by rfl) hw) hc (hz.weights hw) hsh).mono fun e W' ⟨v, he, hp⟩ => by
    subst he
    exact ChangeSpec.post_blind hp
end Go.Proofs.YtdnaddignhjihaaDoor.Lift
namespace Go.Proofs.YtdnaddignhjihaaDoor.robotsReads
open Go.ChangeShapes Go.WideShapes Go.ChangeAt Go.RowKit
open Go.ChangeMaps (open_string shut_string)
set_option linter.unusedVariables false
theorem own : ownKnob Tryd.prog.godebug = none := by kernel_rfl
set_option maxRecDepth 100000 in
theorem lifted (os : Os) (started : os.Started) (H : Type) (enc : TypeId × Value → H) :
    ReturnsInHanded {} Tryd.checked os 3 .any (fun w args => (Rows.robotsReadsSpec.pre enc Tryd.prog Tryd.f3 Rows.robotsReadsRow.domain false w args ∧ laidMetH Tryd.prog Rows.robotsReadsRow.laid w) ∧ sizedMet enc Tryd.prog Tryd.f3 (OpenSpec.ofChange Rows.robotsReadsSpec) false w args) (Rows.robotsReadsSpec.post enc Tryd.prog Tryd.f3 false true false false) := by
  refine Lift.lift (C := Tryd.checked) (X := fun w _ => laidMetH Tryd.prog Rows.robotsReadsRow.laid w) own started (by kernel_rfl) Tryd.func3
    (ChangeSpec.witness_shaped (enc := enc) (C := Tryd.checked) (os := os) (X := fun w _ => laidMetH Tryd.prog Rows.robotsReadsRow.laid w) false (World.laidAll Tryd.prog os Rows.robotsReadsRow.laid) #[.int .i64 0, .string ByteArray.empty, .string ByteArray.empty] 8 (World.laidAll_os _ _ _)
      (World.shaped_of_ZipB (by kernel_rfl) (by kernel_rfl)) (by kernel_rfl) (by kernel_rfl) (by kernel_rfl)
      (by rw [MakeChecks.laidMetH_plain _ _ _ (by kernel_rfl)]; exact laidMet_laidAll _ (by kernel_rfl) (by kernel_rfl))) ?_
  intro W base args ds gs before hval0 hW hcnd hsz0 hsh
  have hsz : (DataW.weightsEach Tryd.prog (Tryd.f3.params.toList ++ Rows.robotsReadsSpec.plain.varTypes Tryd.prog) (ds ++ gs)).all (· ≤ reachBytes) = true := hsz0
  have hval : ∀ (j : Nat) t v, Tryd.f3.params[j]? = some t → args[j]? = some v → Value.okWide Tryd.prog W .any base t v := hval0
  have hW' := hW
  obtain ⟨p, q, hA0, hV, rfl, hfz, hnd⟩ := hW
  have hA : DataW.TrodAll enc Tryd.prog W 0 (fun _ => true) true Tryd.f3.params.toList args.toList ds p := hA0
  rw [Tryd.params3] at hA hval hsz
  obtain ⟨v0, vs0, d0, ds0, p0, q0, hargs, rfl, rfl, h0, r0⟩ := trodAll_cons hA
  obtain ⟨v1, vs1, d1, ds1, p1, q1, rfl, rfl, rfl, h1, r1⟩ := trodAll_cons r0
  obtain ⟨v2, vs2, d2, ds2, p2, q2, rfl, rfl, rfl, h2, r2⟩ := trodAll_cons r1
  obtain ⟨rfl, rfl, rfl⟩ := trodAll_nil r2
  obtain rfl : args = #[v0, v1, v2] := by cases args; simp_all
  obtain ⟨rfl, rfl⟩ := trodVars_none hV
  obtain ⟨a0, rfl, rfl, rfl, w0⟩ := open_int Tryd.underlying3 (hval 0 3 v0 rfl rfl) h0
  obtain ⟨a1, rfl, rfl, rfl, y1⟩ := open_string Tryd.underlying9 (hval 1 9 v1 rfl rfl) h1
  have w1 : a1.size ≤ 140737488351232 := by
    have z := sized_string hsz (j := 1) (t := 9) rfl rfl
    rw [Array.length_toList] at z
    exact z
  obtain ⟨a2, rfl, rfl, rfl, y2⟩ := open_string Tryd.underlying9 (hval 2 9 v2 rfl rfl) h2
  have w2 : a2.size ≤ 140737488351232 := by
    have z := sized_string hsz (j := 2) (t := 9) rfl rfl
    rw [Array.length_toList] at z
    exact z
  clear hA0 hval0 hsz0 hsz hval
  refine (WalkRobotsReads.walk a0 a1 a2 W w0 w1 w2 hsh).mono fun e W' ⟨he, bel⟩ => ?_
  subst he
  exact ⟨_, rfl, _, _, _, [], _, [], hW', trodAll_mk1 (shut_bool Tryd.underlying4 _), (trodAll_cons_mk (shut_int Tryd.underlying3 w0) (trodAll_cons_mk (shut_string Tryd.underlying9 y1) (trodAll_cons_mk (shut_string Tryd.underlying9 y2) trodAll_mk0))), rfl, bel.frame _, fun h => by cases h⟩
theorem over : Rows.robotsReadsRow.holds Tryd.pinned (OpenSpec.ofChange Rows.robotsReadsSpec) :=
  OpenClaim.holds_of_wide 3 Tryd.f3 rfl rfl rfl rfl rfl rfl rfl ⟨rfl, rfl, rfl, rfl, rfl⟩ rfl rfl rfl rfl rfl (by kernel_rfl) Tryd.func3 (by kernel_rfl)
    (of_decide_eq_true (by kernel_rfl)) (by unfold Func.isWrapper; first | (rw [if_pos (by decide +kernel)]; kernel_rfl) | (rw [if_neg (by decide +kernel)]; exact ⟨rfl, rfl⟩))
    (fun os started H enc _ => lifted os started H enc)
theorem proved : Rows.RobotsReadsSaid := over
theorem card : Rows.RobotsReadsCardSaid :=
  Claim7.holds_tied_plain_at .later [] [.data, .pinned] true (true, "d197b9417d0fe1ca454221f2141769a21cf7fc6dedecd8c35fcb9fe414422d9a") false proved (fun _ h => by cases h) (by kernel_rfl) (fun _ h => by cases h) robotsReads_row_tie rfl ⟨rfl, rfl⟩ (by kernel_rfl) rfl
    (fun f fn hf hfn => by
      obtain rfl : f = 3 := Option.some.inj ((show Tryd.prog.funcNamed "decorum/decorumlaw11.RobotsReads" = some 3 by kernel_rfl).symm.trans hf) |>.symm
      obtain rfl : fn = Tryd.f3 := (Option.some.inj (Tryd.func3.symm.trans hfn)).symm
      exact ⟨by kernel_rfl, fun j t ht => by
        rw [Tryd.params3] at ht
        have hm : t ∈ [3, 9, 9] := by simpa using Array.mem_of_getElem? ht
        have hall : ([3, 9, 9].all fun u => !Tryd.prog.wantsStandIn u) = true := by kernel_rfl
        exact (show Tryd.prog.wantsStandIn t = false by simpa using List.all_eq_true.1 hall t hm)⟩)
    (by kernel_rfl)
end Go.Proofs.YtdnaddignhjihaaDoor.robotsReads
namespace Go.Proofs.YtdnaddignhjihaaDoor
/-- The row, under a short name, for the claim. -/
theorem robotsReads_holds : Rows.RobotsReadsCardSaid := robotsReads.card
end Go.Proofs.YtdnaddignhjihaaDoor
