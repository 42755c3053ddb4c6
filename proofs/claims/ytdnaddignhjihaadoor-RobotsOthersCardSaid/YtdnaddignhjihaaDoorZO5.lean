/- robotsOthers_holds: a part of its proof (the texts QUx1, AwA, PureX, PureK, WalkRobotsOthers, Lift, RowRobotsOthers without what this claim does not lean on). -/
import Derived.HandedShaped
import Derived.Handed
import Derived.Test.YtdnaddignhjihaaDoorRows
import Derived.WalkKit
import Derived.ProofKit
import Derived.OpenShut
import Derived.ShutString
import Derived.ChangeOld
import Derived.Below
import Derived.SizedLaws
import Derived.LaidMore
import Derived.Lay
import Derived.SevenTiedAt
import Derived.Stop.Joined
import Derived.Test.YtdnaddignhjihaaDoorCards
import Derived.Test.YtdnaddignhjihaaDoorTie
import Derived.Test.YtdnaddignhjihaaDoorZO4
namespace Go.Proofs.YtdnaddignhjihaaDoor.QU
open Go.Proofs.YtdnaddignhjihaaDoor.Given Go.Proofs.YtdnaddignhjihaaDoor.GivenM Go.Proofs.YtdnaddignhjihaaDoor.QBase Go.Proofs.YtdnaddignhjihaaDoor.QMM
open Go.RowKit Go.Proofs.YtdnaddignhjihaaDoorW.PrintWords Go.Proofs.YtdnaddignhjihaaDoorW.PrintLast Go.Proofs.YtdnaddignhjihaaDoorW.PrintMore
attribute [local go_sem] max2_int min2_int max_two min_two max_three min_three max_four min_four   -- for this text's walks alone
set_option linter.unusedVariables false
set_option linter.unusedSimpArgs false
def match_Allowed.l0 : Nat → ByteArray → Int → Bool → List (S30) → Int → Int → Option (Bool)
  | 0, _, _, _, _, _, _ => none
  | k + 1, x1, x5, x6, x10, x11, x12 => if x12 < x11 then (if 0 ≤ x12 then (if x12 < (x10.length : Int) then ((match_one.f ((rd_T30 x10 x12).f1)).bind fun t103 => ((match_Match.f ((rd_T30 x10 x12).f1) x1).bind fun t104 => (if t104 = true then (if (t103.size : Int) < x5 then (match_Allowed.l0 k x1 x5 x6 x10 x11 (wrap64 (x12 + 1))) else (if (rd_T30 x10 x12).f0 = true then (match_Allowed.l0 k x1 (t103.size : Int) true x10 x11 (wrap64 (x12 + 1))) else (if (t103.size : Int) = x5 then (match_Allowed.l0 k x1 (t103.size : Int) x6 x10 x11 (wrap64 (x12 + 1))) else (match_Allowed.l0 k x1 (t103.size : Int) false x10 x11 (wrap64 (x12 + 1)))))) else (match_Allowed.l0 k x1 x5 x6 x10 x11 (wrap64 (x12 + 1)))))) else (none)) else (none)) else (some x6)
def match_Allowed.f (k : Nat) (l0 : List (S30)) (a1 : ByteArray) : Option (Bool) := match_Allowed.l0 k a1 (-1) true l0 (l0.length : Int) 0
set_option maxHeartbeats 8000000 in
set_option maxRecDepth 100000 in
theorem match_Allowed.calls (k : Nat) (A0 : Option Addr) (c0 : Nat) (l0 : List (S30)) (a1 : ByteArray) (r : Bool) (w : World) (hr0 : Kd.C k30 w A0 l0.length l0) (hc0 : l0.length ≤ c0) (h : match_Allowed.f k l0 a1 = some r) (hS_ : Shp w) :
    Calls Tryd.prog 21 #[.slice A0 l0.length c0, .string a1] w fun e w' => e = .returned (.bool r) ∧ Below w.heap.size w w' := by
  have hu30 := Tryd.underlying30
  have HR0 := Aside0.mk hr0
  have HC0 := Aside0.mk hc0
  clear hr0 hc0
  have HB := Aside0.mk (Below.refl w.heap.size w)
  have HS_ := Aside0.mk hS_
  clear hS_
  have H : (match_Allowed.l0 k a1 (-1) true l0 (l0.length : Int) 0) = some r := h
  clear h
  have H' := Aside0.mk H
  clear H
  go_enter Tryd.func21, Tryd.ntmps21
  go_wp2
  go_loopg [5, 6, 12] k (fun kq v5 v6 v12 w' => ∃ (x5_1 : Int) (x6_1 : Bool) (x12_1 : Int), v5 = .int .i64 x5_1 ∧ v6 = .bool x6_1 ∧ v12 = .int .i64 x12_1 ∧ Aside0 (match_Allowed.l0 kq a1 x5_1 x6_1 l0 (l0.length : Int) x12_1 = some r) ∧ Aside0 (kq ≤ k) ∧ Aside0 (Below w.heap.size w w'))
  case atStart => exact ⟨((-1)), (true), (0), (by first | rfl | (simp; done) | (simp [*]; done)), (by first | rfl | (simp; done) | (simp [*]; done)), (by first | rfl | (simp; done) | (simp [*]; done)), H', ⟨Nat.le_refl _⟩, ⟨by repeat (first | (with_reducible first | exact HB.out | apply below_alloc | apply pw_below_drewN | apply below_drew1) | exact HB.out)⟩⟩
  case round =>
    clear H'
    try clear c2
    try clear p2
    obtain ⟨x5_1, x6_1, x12_1, rfl, rfl, rfl, HA, HK1, HB⟩ := hrel
    cases gk with
    | zero => exact absurd HA.out (by simp [match_Allowed.l0])
    | succ k1 =>
      have H := HA.out
      clear HA
      simp only [match_Allowed.l0] at H
      by_cases c3 : x12_1 < (l0.length : Int)
      · rw [if_pos c3] at H
        have c3b0 : decide (x12_1 < (l0.length : Int)) = true := decide_eq_true c3
        clear c3
        by_cases c4 : 0 ≤ x12_1
        · rw [if_pos c4] at H
          have c4b0 : decide (0 ≤ x12_1) = true := decide_eq_true c4
          clear c4
          by_cases c5 : x12_1 < (l0.length : Int)
          · rw [if_pos c5] at H
            have c5b0 : decide (x12_1 < (l0.length : Int)) = true := decide_eq_true c5
            clear c5
            replace H := Option.bind_eq_some_iff.mp H
            obtain ⟨t103, A60, H⟩ := H
            replace H : ((match_Match.f ((rd_T30 l0 x12_1).f1) a1).bind fun t104 => (if t104 = true then (if (t103.size : Int) < x5_1 then (match_Allowed.l0 k1 a1 x5_1 x6_1 l0 (l0.length : Int) (wrap64 (x12_1 + 1))) else (if (rd_T30 l0 x12_1).f0 = true then (match_Allowed.l0 k1 a1 (t103.size : Int) true l0 (l0.length : Int) (wrap64 (x12_1 + 1))) else (if (t103.size : Int) = x5_1 then (match_Allowed.l0 k1 a1 (t103.size : Int) x6_1 l0 (l0.length : Int) (wrap64 (x12_1 + 1))) else (match_Allowed.l0 k1 a1 (t103.size : Int) false l0 (l0.length : Int) (wrap64 (x12_1 + 1)))))) else (match_Allowed.l0 k1 a1 x5_1 x6_1 l0 (l0.length : Int) (wrap64 (x12_1 + 1))))) = some r := H
            have A6 := Aside0.mk A60
            clear A60
            replace H := Option.bind_eq_some_iff.mp H
            obtain ⟨t104, A70, H⟩ := H
            replace H : (if t104 = true then (if (t103.size : Int) < x5_1 then (match_Allowed.l0 k1 a1 x5_1 x6_1 l0 (l0.length : Int) (wrap64 (x12_1 + 1))) else (if (rd_T30 l0 x12_1).f0 = true then (match_Allowed.l0 k1 a1 (t103.size : Int) true l0 (l0.length : Int) (wrap64 (x12_1 + 1))) else (if (t103.size : Int) = x5_1 then (match_Allowed.l0 k1 a1 (t103.size : Int) x6_1 l0 (l0.length : Int) (wrap64 (x12_1 + 1))) else (match_Allowed.l0 k1 a1 (t103.size : Int) false l0 (l0.length : Int) (wrap64 (x12_1 + 1)))))) else (match_Allowed.l0 k1 a1 x5_1 x6_1 l0 (l0.length : Int) (wrap64 (x12_1 + 1)))) = some r := H
            have A7 := Aside0.mk A70
            clear A70
            by_cases c8 : t104 = true
            · subst c8
              have H1 : (if (t103.size : Int) < x5_1 then (match_Allowed.l0 k1 a1 x5_1 x6_1 l0 (l0.length : Int) (wrap64 (x12_1 + 1))) else (if (rd_T30 l0 x12_1).f0 = true then (match_Allowed.l0 k1 a1 (t103.size : Int) true l0 (l0.length : Int) (wrap64 (x12_1 + 1))) else (if (t103.size : Int) = x5_1 then (match_Allowed.l0 k1 a1 (t103.size : Int) x6_1 l0 (l0.length : Int) (wrap64 (x12_1 + 1))) else (match_Allowed.l0 k1 a1 (t103.size : Int) false l0 (l0.length : Int) (wrap64 (x12_1 + 1)))))) = some r := by rw [if_pos rfl] at H; exact H
              clear H
              have H := H1
              clear H1
              by_cases c9 : (t103.size : Int) < x5_1
              · rw [if_pos c9] at H
                have c9b0 : decide ((t103.size : Int) < x5_1) = true := decide_eq_true c9
                clear c9
                have H' := Aside0.mk H
                clear H
                have p101 : 0 ≤ (x12_1 : Int) := of_decide_eq_true (by first | (with_reducible assumption) | assumption)
                have q101 : x12_1 < (l0.length : Int) := of_decide_eq_true (by first | (with_reducible assumption) | assumption)
                obtain ⟨ad101, e101, hx101_0, hx101_1⟩ := at_T30 HR0.out x12_1 p101 q101
                cases e101
                replace hx101_0 := (HB.out.cell (World.block_lt_of_cell? w _ hx101_0)).trans hx101_0
                replace hx101_1 := (HB.out.cell (World.block_lt_of_cell? w _ hx101_1)).trans hx101_1
                replace p101 := eq_true p101
                replace q101 := eq_true q101
                go_wp2_with (first | ((with_reducible refine gate_dst (N := 8) rfl ?_); refine box_event ?hg (N := 8) ?hd (cs := #[.bool false, .string (⟨#[]⟩ : ByteArray)]) (t := 30) ?hr ?_; (case hd => rfl); (case hg => rfl); (case hr => first | (go_simp; done) | (go_simp; rfl)); intro gb102 hg w10 hbox hb; have n0_ := Aside0.mk (below_step (by repeat (first | (with_reducible first | exact HB.out | apply below_alloc | apply pw_below_drewN | apply below_drew1) | exact HB.out)) hb); have n1_ := Aside0.mk (hbox); have n2_ := Aside0.mk ((by rw [hg]; exact (below_size (by repeat (first | (with_reducible first | exact HB.out | apply below_alloc | apply pw_below_drewN | apply below_drew1) | exact HB.out))) : w.heap.size ≤ gb102)); have n3_ := Aside0.mk ((by rw [hg]; exact (below_size (by repeat (first | (with_reducible first | exact HB.out | apply below_alloc | apply pw_below_drewN | apply below_drew1) | exact HB.out))) : w.heap.size ≤ gb102)); clear HB; have HB := n0_; have BK102 := n1_; have GW102 := n2_; have GE102 := n3_; clear n0_ n1_ n2_ n3_; clear hb hbox hg; have hcz11_0 : w10.cell? ⟨gb102, 0, none⟩ = some (.bool false) := (blk_cell BK102.out 0).trans rfl; have hcz11_1 : w10.cell? ⟨gb102, 1, none⟩ = some (.string (⟨#[]⟩ : ByteArray)) := (blk_cell BK102.out 1).trans rfl; have hfz11_0 := blk_frozen BK102.out 0; have hfz11_1 := blk_frozen BK102.out 1) | ((with_reducible refine gate_callee (f := 35) rfl ?_); refine goesL_ (some 18) rfl rfl Tryd.func35 (by kernel_rfl) rfl #[.string ((rd_T30 l0 x12_1).f1)] rfl (by (try simp only [List.map_toArray, List.map_cons, List.map_nil]); first | done | rfl | (simp only [List.length_drop, List.length_take]; rfl)) ?_; (with_reducible refine (match_one.calls ((rd_T30 l0 x12_1).f1) t103 _ A6.out).mono ?_); rintro e w12 ⟨rfl, hb⟩; refine ⟨_, rfl, ?_⟩; have n0_ := Aside0.mk (blk_below (g := gb102) (o := .cells #[.bool ((rd_T30 l0 x12_1).f0), .string ((rd_T30 l0 x12_1).f1)] 30 (0, 0)) (by (with_reducible repeat (first | refine blk_drewN ?_ _ | refine blk_drew ?_ | refine blk_alloc ?_ _)); refine blk_put (cs := #[.bool ((rd_T30 l0 x12_1).f0), .string (⟨#[]⟩ : ByteArray)]) ?_ 1 _ rfl; (with_reducible repeat (first | refine blk_drewN ?_ _ | refine blk_drew ?_ | refine blk_alloc ?_ _)); refine blk_put (cs := #[.bool false, .string (⟨#[]⟩ : ByteArray)]) ?_ 0 _ rfl; (with_reducible repeat (first | refine blk_drewN ?_ _ | refine blk_drew ?_ | refine blk_alloc ?_ _)); exact BK102.out) hb); have n1_ := Aside0.mk (below_step (by repeat (first | (with_reducible first | exact HB.out | apply below_alloc | apply pw_below_drewN | apply below_drew1 | refine below_set ?_ GE102.out) | exact HB.out)) hb); clear BK102; clear HB; have BK102 := n0_; have HB := n1_; clear n0_ n1_; (try clear hb); (try clear hb2); (try clear hk); (try clear hi); have hcz13_0 : w12.cell? ⟨gb102, 0, none⟩ = some (.bool ((rd_T30 l0 x12_1).f0)) := (blk_cell BK102.out 0).trans rfl; have hcz13_1 : w12.cell? ⟨gb102, 1, none⟩ = some (.string ((rd_T30 l0 x12_1).f1)) := (blk_cell BK102.out 1).trans rfl; have hfz13_0 := blk_frozen BK102.out 0; have hfz13_1 := blk_frozen BK102.out 1) | ((with_reducible refine gate_callee (f := 36) rfl ?_); refine goesL_ (some 23) rfl rfl Tryd.func36 (by kernel_rfl) rfl #[.string ((rd_T30 l0 x12_1).f1), .string a1] rfl (by (try simp only [List.map_toArray, List.map_cons, List.map_nil]); first | done | rfl | (simp only [List.length_drop, List.length_take]; rfl)) ?_; (with_reducible refine (match_Match.calls ((rd_T30 l0 x12_1).f1) a1 true _ A7.out (Shp.below HS_.out (by repeat (first | (with_reducible first | exact HB.out | apply below_alloc | apply pw_below_drewN | apply below_drew1 | refine below_set ?_ GE102.out) | exact HB.out)))).mono ?_); rintro e w14 ⟨rfl, hb⟩; refine ⟨_, rfl, ?_⟩; have n0_ := Aside0.mk (blk_below (g := gb102) (o := .cells #[.bool ((rd_T30 l0 x12_1).f0), .string ((rd_T30 l0 x12_1).f1)] 30 (0, 0)) (by (with_reducible repeat (first | refine blk_drewN ?_ _ | refine blk_drew ?_ | refine blk_alloc ?_ _)); exact BK102.out) hb); have n1_ := Aside0.mk (below_step (by repeat (first | (with_reducible first | exact HB.out | apply below_alloc | apply pw_below_drewN | apply below_drew1 | refine below_set ?_ GE102.out) | exact HB.out)) hb); clear BK102; clear HB; have BK102 := n0_; have HB := n1_; clear n0_ n1_; (try clear hb); (try clear hb2); (try clear hk); (try clear hi)))
                go_roundg k1
                case measure => have := HK1.out; omega
                case rel => exact ⟨(x5_1), (x6_1), (wrap64 (x12_1 + 1)), (by first | rfl | (simp; done) | (simp [*]; done)), (by first | rfl | (simp; done) | (simp [*]; done)), (by first | rfl | (simp; done) | (simp [*]; done)), H', ⟨by have := HK1.out; omega⟩, ⟨by repeat (first | (with_reducible first | exact HB.out | apply below_alloc | apply pw_below_drewN | apply below_drew1 | refine below_set ?_ GE102.out) | exact HB.out)⟩⟩
              · rw [if_neg c9] at H
                have c9b0 : decide ((t103.size : Int) < x5_1) = false := decide_eq_false c9
                clear c9
                obtain ⟨bq15, hbq15⟩ : ∃ b_ : Bool, b_ = ((rd_T30 l0 x12_1).f0) := ⟨_, rfl⟩
                replace H : (if bq15 = true then (match_Allowed.l0 k1 a1 (t103.size : Int) true l0 (l0.length : Int) (wrap64 (x12_1 + 1))) else (if (t103.size : Int) = x5_1 then (match_Allowed.l0 k1 a1 (t103.size : Int) x6_1 l0 (l0.length : Int) (wrap64 (x12_1 + 1))) else (match_Allowed.l0 k1 a1 (t103.size : Int) false l0 (l0.length : Int) (wrap64 (x12_1 + 1))))) = some r := by rw [← hbq15] at H; exact H
                have Nbq15 := Aside0.mk hbq15
                clear hbq15
                by_cases c16 : bq15 = true
                · subst c16
                  have H1 : (match_Allowed.l0 k1 a1 (t103.size : Int) true l0 (l0.length : Int) (wrap64 (x12_1 + 1))) = some r := by rw [if_pos rfl] at H; exact H
                  clear H
                  have H := H1
                  clear H1
                  have H' := Aside0.mk H
                  clear H
                  have p101 : 0 ≤ (x12_1 : Int) := of_decide_eq_true (by first | (with_reducible assumption) | assumption)
                  have q101 : x12_1 < (l0.length : Int) := of_decide_eq_true (by first | (with_reducible assumption) | assumption)
                  obtain ⟨ad101, e101, hx101_0, hx101_1⟩ := at_T30 HR0.out x12_1 p101 q101
                  (try rw [← Nbq15.out] at hx101_0)
                  cases e101
                  replace hx101_0 := (HB.out.cell (World.block_lt_of_cell? w _ hx101_0)).trans hx101_0
                  replace hx101_1 := (HB.out.cell (World.block_lt_of_cell? w _ hx101_1)).trans hx101_1
                  replace p101 := eq_true p101
                  replace q101 := eq_true q101
                  go_wp2_with (first | ((with_reducible refine gate_dst (N := 8) rfl ?_); refine box_event ?hg (N := 8) ?hd (cs := #[.bool false, .string (⟨#[]⟩ : ByteArray)]) (t := 30) ?hr ?_; (case hd => rfl); (case hg => rfl); (case hr => first | (go_simp; done) | (go_simp; rfl)); intro gb102 hg w17 hbox hb; have n0_ := Aside0.mk (below_step (by repeat (first | (with_reducible first | exact HB.out | apply below_alloc | apply pw_below_drewN | apply below_drew1) | exact HB.out)) hb); have n1_ := Aside0.mk (hbox); have n2_ := Aside0.mk ((by rw [hg]; exact (below_size (by repeat (first | (with_reducible first | exact HB.out | apply below_alloc | apply pw_below_drewN | apply below_drew1) | exact HB.out))) : w.heap.size ≤ gb102)); have n3_ := Aside0.mk ((by rw [hg]; exact (below_size (by repeat (first | (with_reducible first | exact HB.out | apply below_alloc | apply pw_below_drewN | apply below_drew1) | exact HB.out))) : w.heap.size ≤ gb102)); clear HB; have HB := n0_; have BK102 := n1_; have GW102 := n2_; have GE102 := n3_; clear n0_ n1_ n2_ n3_; clear hb hbox hg; have hcz18_0 : w17.cell? ⟨gb102, 0, none⟩ = some (.bool false) := (blk_cell BK102.out 0).trans rfl; have hcz18_1 : w17.cell? ⟨gb102, 1, none⟩ = some (.string (⟨#[]⟩ : ByteArray)) := (blk_cell BK102.out 1).trans rfl; have hfz18_0 := blk_frozen BK102.out 0; have hfz18_1 := blk_frozen BK102.out 1) | ((with_reducible refine gate_callee (f := 35) rfl ?_); refine goesL_ (some 18) rfl rfl Tryd.func35 (by kernel_rfl) rfl #[.string ((rd_T30 l0 x12_1).f1)] rfl (by (try simp only [List.map_toArray, List.map_cons, List.map_nil]); first | done | rfl | (simp only [List.length_drop, List.length_take]; rfl)) ?_; (with_reducible refine (match_one.calls ((rd_T30 l0 x12_1).f1) t103 _ A6.out).mono ?_); rintro e w19 ⟨rfl, hb⟩; refine ⟨_, rfl, ?_⟩; have n0_ := Aside0.mk (blk_below (g := gb102) (o := .cells #[.bool true, .string ((rd_T30 l0 x12_1).f1)] 30 (0, 0)) (by (with_reducible repeat (first | refine blk_drewN ?_ _ | refine blk_drew ?_ | refine blk_alloc ?_ _)); refine blk_put (cs := #[.bool true, .string (⟨#[]⟩ : ByteArray)]) ?_ 1 _ rfl; (with_reducible repeat (first | refine blk_drewN ?_ _ | refine blk_drew ?_ | refine blk_alloc ?_ _)); refine blk_put (cs := #[.bool false, .string (⟨#[]⟩ : ByteArray)]) ?_ 0 _ rfl; (with_reducible repeat (first | refine blk_drewN ?_ _ | refine blk_drew ?_ | refine blk_alloc ?_ _)); exact BK102.out) hb); have n1_ := Aside0.mk (below_step (by repeat (first | (with_reducible first | exact HB.out | apply below_alloc | apply pw_below_drewN | apply below_drew1 | refine below_set ?_ GE102.out) | exact HB.out)) hb); clear BK102; clear HB; have BK102 := n0_; have HB := n1_; clear n0_ n1_; (try clear hb); (try clear hb2); (try clear hk); (try clear hi); have hcz20_0 : w19.cell? ⟨gb102, 0, none⟩ = some (.bool true) := (blk_cell BK102.out 0).trans rfl; have hcz20_1 : w19.cell? ⟨gb102, 1, none⟩ = some (.string ((rd_T30 l0 x12_1).f1)) := (blk_cell BK102.out 1).trans rfl; have hfz20_0 := blk_frozen BK102.out 0; have hfz20_1 := blk_frozen BK102.out 1) | ((with_reducible refine gate_callee (f := 36) rfl ?_); refine goesL_ (some 23) rfl rfl Tryd.func36 (by kernel_rfl) rfl #[.string ((rd_T30 l0 x12_1).f1), .string a1] rfl (by (try simp only [List.map_toArray, List.map_cons, List.map_nil]); first | done | rfl | (simp only [List.length_drop, List.length_take]; rfl)) ?_; (with_reducible refine (match_Match.calls ((rd_T30 l0 x12_1).f1) a1 true _ A7.out (Shp.below HS_.out (by repeat (first | (with_reducible first | exact HB.out | apply below_alloc | apply pw_below_drewN | apply below_drew1 | refine below_set ?_ GE102.out) | exact HB.out)))).mono ?_); rintro e w21 ⟨rfl, hb⟩; refine ⟨_, rfl, ?_⟩; have n0_ := Aside0.mk (blk_below (g := gb102) (o := .cells #[.bool true, .string ((rd_T30 l0 x12_1).f1)] 30 (0, 0)) (by (with_reducible repeat (first | refine blk_drewN ?_ _ | refine blk_drew ?_ | refine blk_alloc ?_ _)); exact BK102.out) hb); have n1_ := Aside0.mk (below_step (by repeat (first | (with_reducible first | exact HB.out | apply below_alloc | apply pw_below_drewN | apply below_drew1 | refine below_set ?_ GE102.out) | exact HB.out)) hb); clear BK102; clear HB; have BK102 := n0_; have HB := n1_; clear n0_ n1_; (try clear hb); (try clear hb2); (try clear hk); (try clear hi); have hcz22_0 : w21.cell? ⟨gb102, 0, none⟩ = some (.bool true) := (blk_cell BK102.out 0).trans rfl; have hcz22_1 : w21.cell? ⟨gb102, 1, none⟩ = some (.string ((rd_T30 l0 x12_1).f1)) := (blk_cell BK102.out 1).trans rfl; have hfz22_0 := blk_frozen BK102.out 0; have hfz22_1 := blk_frozen BK102.out 1))
                  go_roundg k1
                  case measure => have := HK1.out; omega
                  case rel => exact ⟨((t103.size : Int)), (true), (wrap64 (x12_1 + 1)), (by first | rfl | (simp; done) | (simp [*]; done)), (by first | rfl | (simp; done) | (simp [*]; done)), (by first | rfl | (simp; done) | (simp [*]; done)), H', ⟨by have := HK1.out; omega⟩, ⟨by repeat (first | (with_reducible first | exact HB.out | apply below_alloc | apply pw_below_drewN | apply below_drew1 | refine below_set ?_ GE102.out) | exact HB.out)⟩⟩
                · replace c16 := Bool.eq_false_iff.mpr c16
                  subst c16
                  have H1 : (if (t103.size : Int) = x5_1 then (match_Allowed.l0 k1 a1 (t103.size : Int) x6_1 l0 (l0.length : Int) (wrap64 (x12_1 + 1))) else (match_Allowed.l0 k1 a1 (t103.size : Int) false l0 (l0.length : Int) (wrap64 (x12_1 + 1)))) = some r := by rw [if_neg (show ¬ (false = true) by decide)] at H; exact H
                  clear H
                  have H := H1
                  clear H1
                  by_cases c23 : (t103.size : Int) = x5_1
                  · rw [if_pos c23] at H
                    have c23b0 : ((t103.size : Int) == x5_1) = true := beq_iff_eq.mpr c23
                    have c23b1 : ((t103.size : Int) != x5_1) = false := bne_eq_false_iff_eq.mpr c23
                    clear c23
                    have H' := Aside0.mk H
                    clear H
                    have p101 : 0 ≤ (x12_1 : Int) := of_decide_eq_true (by first | (with_reducible assumption) | assumption)
                    have q101 : x12_1 < (l0.length : Int) := of_decide_eq_true (by first | (with_reducible assumption) | assumption)
                    obtain ⟨ad101, e101, hx101_0, hx101_1⟩ := at_T30 HR0.out x12_1 p101 q101
                    (try rw [← Nbq15.out] at hx101_0)
                    cases e101
                    replace hx101_0 := (HB.out.cell (World.block_lt_of_cell? w _ hx101_0)).trans hx101_0
                    replace hx101_1 := (HB.out.cell (World.block_lt_of_cell? w _ hx101_1)).trans hx101_1
                    replace p101 := eq_true p101
                    replace q101 := eq_true q101
                    go_wp2_with (first | ((with_reducible refine gate_dst (N := 8) rfl ?_); refine box_event ?hg (N := 8) ?hd (cs := #[.bool false, .string (⟨#[]⟩ : ByteArray)]) (t := 30) ?hr ?_; (case hd => rfl); (case hg => rfl); (case hr => first | (go_simp; done) | (go_simp; rfl)); intro gb102 hg w24 hbox hb; have n0_ := Aside0.mk (below_step (by repeat (first | (with_reducible first | exact HB.out | apply below_alloc | apply pw_below_drewN | apply below_drew1) | exact HB.out)) hb); have n1_ := Aside0.mk (hbox); have n2_ := Aside0.mk ((by rw [hg]; exact (below_size (by repeat (first | (with_reducible first | exact HB.out | apply below_alloc | apply pw_below_drewN | apply below_drew1) | exact HB.out))) : w.heap.size ≤ gb102)); have n3_ := Aside0.mk ((by rw [hg]; exact (below_size (by repeat (first | (with_reducible first | exact HB.out | apply below_alloc | apply pw_below_drewN | apply below_drew1) | exact HB.out))) : w.heap.size ≤ gb102)); clear HB; have HB := n0_; have BK102 := n1_; have GW102 := n2_; have GE102 := n3_; clear n0_ n1_ n2_ n3_; clear hb hbox hg; have hcz25_0 : w24.cell? ⟨gb102, 0, none⟩ = some (.bool false) := (blk_cell BK102.out 0).trans rfl; have hcz25_1 : w24.cell? ⟨gb102, 1, none⟩ = some (.string (⟨#[]⟩ : ByteArray)) := (blk_cell BK102.out 1).trans rfl; have hfz25_0 := blk_frozen BK102.out 0; have hfz25_1 := blk_frozen BK102.out 1) | ((with_reducible refine gate_callee (f := 35) rfl ?_); refine goesL_ (some 18) rfl rfl Tryd.func35 (by kernel_rfl) rfl #[.string ((rd_T30 l0 x12_1).f1)] rfl (by (try simp only [List.map_toArray, List.map_cons, List.map_nil]); first | done | rfl | (simp only [List.length_drop, List.length_take]; rfl)) ?_; (with_reducible refine (match_one.calls ((rd_T30 l0 x12_1).f1) t103 _ A6.out).mono ?_); rintro e w26 ⟨rfl, hb⟩; refine ⟨_, rfl, ?_⟩; have n0_ := Aside0.mk (blk_below (g := gb102) (o := .cells #[.bool false, .string ((rd_T30 l0 x12_1).f1)] 30 (0, 0)) (by (with_reducible repeat (first | refine blk_drewN ?_ _ | refine blk_drew ?_ | refine blk_alloc ?_ _)); refine blk_put (cs := #[.bool false, .string (⟨#[]⟩ : ByteArray)]) ?_ 1 _ rfl; (with_reducible repeat (first | refine blk_drewN ?_ _ | refine blk_drew ?_ | refine blk_alloc ?_ _)); refine blk_put (cs := #[.bool false, .string (⟨#[]⟩ : ByteArray)]) ?_ 0 _ rfl; (with_reducible repeat (first | refine blk_drewN ?_ _ | refine blk_drew ?_ | refine blk_alloc ?_ _)); exact BK102.out) hb); have n1_ := Aside0.mk (below_step (by repeat (first | (with_reducible first | exact HB.out | apply below_alloc | apply pw_below_drewN | apply below_drew1 | refine below_set ?_ GE102.out) | exact HB.out)) hb); clear BK102; clear HB; have BK102 := n0_; have HB := n1_; clear n0_ n1_; (try clear hb); (try clear hb2); (try clear hk); (try clear hi); have hcz27_0 : w26.cell? ⟨gb102, 0, none⟩ = some (.bool false) := (blk_cell BK102.out 0).trans rfl; have hcz27_1 : w26.cell? ⟨gb102, 1, none⟩ = some (.string ((rd_T30 l0 x12_1).f1)) := (blk_cell BK102.out 1).trans rfl; have hfz27_0 := blk_frozen BK102.out 0; have hfz27_1 := blk_frozen BK102.out 1) | ((with_reducible refine gate_callee (f := 36) rfl ?_); refine goesL_ (some 23) rfl rfl Tryd.func36 (by kernel_rfl) rfl #[.string ((rd_T30 l0 x12_1).f1), .string a1] rfl (by (try simp only [List.map_toArray, List.map_cons, List.map_nil]); first | done | rfl | (simp only [List.length_drop, List.length_take]; rfl)) ?_; (with_reducible refine (match_Match.calls ((rd_T30 l0 x12_1).f1) a1 true _ A7.out (Shp.below HS_.out (by repeat (first | (with_reducible first | exact HB.out | apply below_alloc | apply pw_below_drewN | apply below_drew1 | refine below_set ?_ GE102.out) | exact HB.out)))).mono ?_); rintro e w28 ⟨rfl, hb⟩; refine ⟨_, rfl, ?_⟩; have n0_ := Aside0.mk (blk_below (g := gb102) (o := .cells #[.bool false, .string ((rd_T30 l0 x12_1).f1)] 30 (0, 0)) (by (with_reducible repeat (first | refine blk_drewN ?_ _ | refine blk_drew ?_ | refine blk_alloc ?_ _)); exact BK102.out) hb); have n1_ := Aside0.mk (below_step (by repeat (first | (with_reducible first | exact HB.out | apply below_alloc | apply pw_below_drewN | apply below_drew1 | refine below_set ?_ GE102.out) | exact HB.out)) hb); clear BK102; clear HB; have BK102 := n0_; have HB := n1_; clear n0_ n1_; (try clear hb); (try clear hb2); (try clear hk); (try clear hi); have hcz29_0 : w28.cell? ⟨gb102, 0, none⟩ = some (.bool false) := (blk_cell BK102.out 0).trans rfl; have hcz29_1 : w28.cell? ⟨gb102, 1, none⟩ = some (.string ((rd_T30 l0 x12_1).f1)) := (blk_cell BK102.out 1).trans rfl; have hfz29_0 := blk_frozen BK102.out 0; have hfz29_1 := blk_frozen BK102.out 1))
                    go_roundg k1
                    case measure => have := HK1.out; omega
                    case rel => exact ⟨((t103.size : Int)), (x6_1), (wrap64 (x12_1 + 1)), (by first | rfl | (simp; done) | (simp [*]; done)), (by first | rfl | (simp; done) | (simp [*]; done)), (by first | rfl | (simp; done) | (simp [*]; done)), H', ⟨by have := HK1.out; omega⟩, ⟨by repeat (first | (with_reducible first | exact HB.out | apply below_alloc | apply pw_below_drewN | apply below_drew1 | refine below_set ?_ GE102.out) | exact HB.out)⟩⟩
                  · rw [if_neg c23] at H
                    have c23b0 : ((t103.size : Int) == x5_1) = false := beq_eq_false_iff_ne.mpr c23
                    have c23b1 : ((t103.size : Int) != x5_1) = true := bne_iff_ne.mpr c23
                    have H' := Aside0.mk H
                    clear H
                    have p101 : 0 ≤ (x12_1 : Int) := of_decide_eq_true (by first | (with_reducible assumption) | assumption)
                    have q101 : x12_1 < (l0.length : Int) := of_decide_eq_true (by first | (with_reducible assumption) | assumption)
                    obtain ⟨ad101, e101, hx101_0, hx101_1⟩ := at_T30 HR0.out x12_1 p101 q101
                    (try rw [← Nbq15.out] at hx101_0)
                    cases e101
                    replace hx101_0 := (HB.out.cell (World.block_lt_of_cell? w _ hx101_0)).trans hx101_0
                    replace hx101_1 := (HB.out.cell (World.block_lt_of_cell? w _ hx101_1)).trans hx101_1
                    replace p101 := eq_true p101
                    replace q101 := eq_true q101
                    go_wp2_with (first | ((with_reducible refine gate_dst (N := 8) rfl ?_); refine box_event ?hg (N := 8) ?hd (cs := #[.bool false, .string (⟨#[]⟩ : ByteArray)]) (t := 30) ?hr ?_; (case hd => rfl); (case hg => rfl); (case hr => first | (go_simp; done) | (go_simp; rfl)); intro gb102 hg w30 hbox hb; have n0_ := Aside0.mk (below_step (by repeat (first | (with_reducible first | exact HB.out | apply below_alloc | apply pw_below_drewN | apply below_drew1) | exact HB.out)) hb); have n1_ := Aside0.mk (hbox); have n2_ := Aside0.mk ((by rw [hg]; exact (below_size (by repeat (first | (with_reducible first | exact HB.out | apply below_alloc | apply pw_below_drewN | apply below_drew1) | exact HB.out))) : w.heap.size ≤ gb102)); have n3_ := Aside0.mk ((by rw [hg]; exact (below_size (by repeat (first | (with_reducible first | exact HB.out | apply below_alloc | apply pw_below_drewN | apply below_drew1) | exact HB.out))) : w.heap.size ≤ gb102)); clear HB; have HB := n0_; have BK102 := n1_; have GW102 := n2_; have GE102 := n3_; clear n0_ n1_ n2_ n3_; clear hb hbox hg; have hcz31_0 : w30.cell? ⟨gb102, 0, none⟩ = some (.bool false) := (blk_cell BK102.out 0).trans rfl; have hcz31_1 : w30.cell? ⟨gb102, 1, none⟩ = some (.string (⟨#[]⟩ : ByteArray)) := (blk_cell BK102.out 1).trans rfl; have hfz31_0 := blk_frozen BK102.out 0; have hfz31_1 := blk_frozen BK102.out 1) | ((with_reducible refine gate_callee (f := 35) rfl ?_); refine goesL_ (some 18) rfl rfl Tryd.func35 (by kernel_rfl) rfl #[.string ((rd_T30 l0 x12_1).f1)] rfl (by (try simp only [List.map_toArray, List.map_cons, List.map_nil]); first | done | rfl | (simp only [List.length_drop, List.length_take]; rfl)) ?_; (with_reducible refine (match_one.calls ((rd_T30 l0 x12_1).f1) t103 _ A6.out).mono ?_); rintro e w32 ⟨rfl, hb⟩; refine ⟨_, rfl, ?_⟩; have n0_ := Aside0.mk (blk_below (g := gb102) (o := .cells #[.bool false, .string ((rd_T30 l0 x12_1).f1)] 30 (0, 0)) (by (with_reducible repeat (first | refine blk_drewN ?_ _ | refine blk_drew ?_ | refine blk_alloc ?_ _)); refine blk_put (cs := #[.bool false, .string (⟨#[]⟩ : ByteArray)]) ?_ 1 _ rfl; (with_reducible repeat (first | refine blk_drewN ?_ _ | refine blk_drew ?_ | refine blk_alloc ?_ _)); refine blk_put (cs := #[.bool false, .string (⟨#[]⟩ : ByteArray)]) ?_ 0 _ rfl; (with_reducible repeat (first | refine blk_drewN ?_ _ | refine blk_drew ?_ | refine blk_alloc ?_ _)); exact BK102.out) hb); have n1_ := Aside0.mk (below_step (by repeat (first | (with_reducible first | exact HB.out | apply below_alloc | apply pw_below_drewN | apply below_drew1 | refine below_set ?_ GE102.out) | exact HB.out)) hb); clear BK102; clear HB; have BK102 := n0_; have HB := n1_; clear n0_ n1_; (try clear hb); (try clear hb2); (try clear hk); (try clear hi); have hcz33_0 : w32.cell? ⟨gb102, 0, none⟩ = some (.bool false) := (blk_cell BK102.out 0).trans rfl; have hcz33_1 : w32.cell? ⟨gb102, 1, none⟩ = some (.string ((rd_T30 l0 x12_1).f1)) := (blk_cell BK102.out 1).trans rfl; have hfz33_0 := blk_frozen BK102.out 0; have hfz33_1 := blk_frozen BK102.out 1) | ((with_reducible refine gate_callee (f := 36) rfl ?_); refine goesL_ (some 23) rfl rfl Tryd.func36 (by kernel_rfl) rfl #[.string ((rd_T30 l0 x12_1).f1), .string a1] rfl (by (try simp only [List.map_toArray, List.map_cons, List.map_nil]); first | done | rfl | (simp only [List.length_drop, List.length_take]; rfl)) ?_; (with_reducible refine (match_Match.calls ((rd_T30 l0 x12_1).f1) a1 true _ A7.out (Shp.below HS_.out (by repeat (first | (with_reducible first | exact HB.out | apply below_alloc | apply pw_below_drewN | apply below_drew1 | refine below_set ?_ GE102.out) | exact HB.out)))).mono ?_); rintro e w34 ⟨rfl, hb⟩; refine ⟨_, rfl, ?_⟩; have n0_ := Aside0.mk (blk_below (g := gb102) (o := .cells #[.bool false, .string ((rd_T30 l0 x12_1).f1)] 30 (0, 0)) (by (with_reducible repeat (first | refine blk_drewN ?_ _ | refine blk_drew ?_ | refine blk_alloc ?_ _)); exact BK102.out) hb); have n1_ := Aside0.mk (below_step (by repeat (first | (with_reducible first | exact HB.out | apply below_alloc | apply pw_below_drewN | apply below_drew1 | refine below_set ?_ GE102.out) | exact HB.out)) hb); clear BK102; clear HB; have BK102 := n0_; have HB := n1_; clear n0_ n1_; (try clear hb); (try clear hb2); (try clear hk); (try clear hi); have hcz35_0 : w34.cell? ⟨gb102, 0, none⟩ = some (.bool false) := (blk_cell BK102.out 0).trans rfl; have hcz35_1 : w34.cell? ⟨gb102, 1, none⟩ = some (.string ((rd_T30 l0 x12_1).f1)) := (blk_cell BK102.out 1).trans rfl; have hfz35_0 := blk_frozen BK102.out 0; have hfz35_1 := blk_frozen BK102.out 1))
                    go_roundg k1
                    case measure => have := HK1.out; omega
                    case rel => exact ⟨((t103.size : Int)), (false), (wrap64 (x12_1 + 1)), (by first | rfl | (simp; done) | (simp [*]; done)), (by first | rfl | (simp; done) | (simp [*]; done)), (by first | rfl | (simp; done) | (simp [*]; done)), H', ⟨by have := HK1.out; omega⟩, ⟨by repeat (first | (with_reducible first | exact HB.out | apply below_alloc | apply pw_below_drewN | apply below_drew1 | refine below_set ?_ GE102.out) | exact HB.out)⟩⟩
            · replace c8 := Bool.eq_false_iff.mpr c8
              subst c8
              have H1 : (match_Allowed.l0 k1 a1 x5_1 x6_1 l0 (l0.length : Int) (wrap64 (x12_1 + 1))) = some r := by rw [if_neg (show ¬ (false = true) by decide)] at H; exact H
              clear H
              have H := H1
              clear H1
              have H' := Aside0.mk H
              clear H
              have p101 : 0 ≤ (x12_1 : Int) := of_decide_eq_true (by first | (with_reducible assumption) | assumption)
              have q101 : x12_1 < (l0.length : Int) := of_decide_eq_true (by first | (with_reducible assumption) | assumption)
              obtain ⟨ad101, e101, hx101_0, hx101_1⟩ := at_T30 HR0.out x12_1 p101 q101
              cases e101
              replace hx101_0 := (HB.out.cell (World.block_lt_of_cell? w _ hx101_0)).trans hx101_0
              replace hx101_1 := (HB.out.cell (World.block_lt_of_cell? w _ hx101_1)).trans hx101_1
              replace p101 := eq_true p101
              replace q101 := eq_true q101
              go_wp2_with (first | ((with_reducible refine gate_dst (N := 8) rfl ?_); refine box_event ?hg (N := 8) ?hd (cs := #[.bool false, .string (⟨#[]⟩ : ByteArray)]) (t := 30) ?hr ?_; (case hd => rfl); (case hg => rfl); (case hr => first | (go_simp; done) | (go_simp; rfl)); intro gb102 hg w36 hbox hb; have n0_ := Aside0.mk (below_step (by repeat (first | (with_reducible first | exact HB.out | apply below_alloc | apply pw_below_drewN | apply below_drew1) | exact HB.out)) hb); have n1_ := Aside0.mk (hbox); have n2_ := Aside0.mk ((by rw [hg]; exact (below_size (by repeat (first | (with_reducible first | exact HB.out | apply below_alloc | apply pw_below_drewN | apply below_drew1) | exact HB.out))) : w.heap.size ≤ gb102)); have n3_ := Aside0.mk ((by rw [hg]; exact (below_size (by repeat (first | (with_reducible first | exact HB.out | apply below_alloc | apply pw_below_drewN | apply below_drew1) | exact HB.out))) : w.heap.size ≤ gb102)); clear HB; have HB := n0_; have BK102 := n1_; have GW102 := n2_; have GE102 := n3_; clear n0_ n1_ n2_ n3_; clear hb hbox hg; have hcz37_0 : w36.cell? ⟨gb102, 0, none⟩ = some (.bool false) := (blk_cell BK102.out 0).trans rfl; have hcz37_1 : w36.cell? ⟨gb102, 1, none⟩ = some (.string (⟨#[]⟩ : ByteArray)) := (blk_cell BK102.out 1).trans rfl; have hfz37_0 := blk_frozen BK102.out 0; have hfz37_1 := blk_frozen BK102.out 1) | ((with_reducible refine gate_callee (f := 35) rfl ?_); refine goesL_ (some 18) rfl rfl Tryd.func35 (by kernel_rfl) rfl #[.string ((rd_T30 l0 x12_1).f1)] rfl (by (try simp only [List.map_toArray, List.map_cons, List.map_nil]); first | done | rfl | (simp only [List.length_drop, List.length_take]; rfl)) ?_; (with_reducible refine (match_one.calls ((rd_T30 l0 x12_1).f1) t103 _ A6.out).mono ?_); rintro e w38 ⟨rfl, hb⟩; refine ⟨_, rfl, ?_⟩; have n0_ := Aside0.mk (blk_below (g := gb102) (o := .cells #[.bool ((rd_T30 l0 x12_1).f0), .string ((rd_T30 l0 x12_1).f1)] 30 (0, 0)) (by (with_reducible repeat (first | refine blk_drewN ?_ _ | refine blk_drew ?_ | refine blk_alloc ?_ _)); refine blk_put (cs := #[.bool ((rd_T30 l0 x12_1).f0), .string (⟨#[]⟩ : ByteArray)]) ?_ 1 _ rfl; (with_reducible repeat (first | refine blk_drewN ?_ _ | refine blk_drew ?_ | refine blk_alloc ?_ _)); refine blk_put (cs := #[.bool false, .string (⟨#[]⟩ : ByteArray)]) ?_ 0 _ rfl; (with_reducible repeat (first | refine blk_drewN ?_ _ | refine blk_drew ?_ | refine blk_alloc ?_ _)); exact BK102.out) hb); have n1_ := Aside0.mk (below_step (by repeat (first | (with_reducible first | exact HB.out | apply below_alloc | apply pw_below_drewN | apply below_drew1 | refine below_set ?_ GE102.out) | exact HB.out)) hb); clear BK102; clear HB; have BK102 := n0_; have HB := n1_; clear n0_ n1_; (try clear hb); (try clear hb2); (try clear hk); (try clear hi); have hcz39_0 : w38.cell? ⟨gb102, 0, none⟩ = some (.bool ((rd_T30 l0 x12_1).f0)) := (blk_cell BK102.out 0).trans rfl; have hcz39_1 : w38.cell? ⟨gb102, 1, none⟩ = some (.string ((rd_T30 l0 x12_1).f1)) := (blk_cell BK102.out 1).trans rfl; have hfz39_0 := blk_frozen BK102.out 0; have hfz39_1 := blk_frozen BK102.out 1) | ((with_reducible refine gate_callee (f := 36) rfl ?_); refine goesL_ (some 23) rfl rfl Tryd.func36 (by kernel_rfl) rfl #[.string ((rd_T30 l0 x12_1).f1), .string a1] rfl (by (try simp only [List.map_toArray, List.map_cons, List.map_nil]); first | done | rfl | (simp only [List.length_drop, List.length_take]; rfl)) ?_; (with_reducible refine (match_Match.calls ((rd_T30 l0 x12_1).f1) a1 false _ A7.out (Shp.below HS_.out (by repeat (first | (with_reducible first | exact HB.out | apply below_alloc | apply pw_below_drewN | apply below_drew1 | refine below_set ?_ GE102.out) | exact HB.out)))).mono ?_); rintro e w40 ⟨rfl, hb⟩; refine ⟨_, rfl, ?_⟩; have n0_ := Aside0.mk (blk_below (g := gb102) (o := .cells #[.bool ((rd_T30 l0 x12_1).f0), .string ((rd_T30 l0 x12_1).f1)] 30 (0, 0)) (by (with_reducible repeat (first | refine blk_drewN ?_ _ | refine blk_drew ?_ | refine blk_alloc ?_ _)); exact BK102.out) hb); have n1_ := Aside0.mk (below_step (by repeat (first | (with_reducible first | exact HB.out | apply below_alloc | apply pw_below_drewN | apply below_drew1 | refine below_set ?_ GE102.out) | exact HB.out)) hb); clear BK102; clear HB; have BK102 := n0_; have HB := n1_; clear n0_ n1_; (try clear hb); (try clear hb2); (try clear hk); (try clear hi)))
              go_roundg k1
              case measure => have := HK1.out; omega
              case rel => exact ⟨(x5_1), (x6_1), (wrap64 (x12_1 + 1)), (by first | rfl | (simp; done) | (simp [*]; done)), (by first | rfl | (simp; done) | (simp [*]; done)), (by first | rfl | (simp; done) | (simp [*]; done)), H', ⟨by have := HK1.out; omega⟩, ⟨by repeat (first | (with_reducible first | exact HB.out | apply below_alloc | apply pw_below_drewN | apply below_drew1 | refine below_set ?_ GE102.out) | exact HB.out)⟩⟩
          · rw [if_neg c5] at H
            exact absurd H (by simp)
        · rw [if_neg c4] at H
          exact absurd H (by simp)
      · rw [if_neg c3] at H
        have c3b0 : decide (x12_1 < (l0.length : Int)) = false := decide_eq_false c3
        clear c3
        obtain rfl := Option.some.inj H
        go_wp2
        go_ret
        exact ⟨by first | rfl | (simp [errW_none, errW_some] <;> rfl) | (simp [*, errW_none, errW_some] <;> rfl) | (simp [wrap64]; done), by repeat (first | (with_reducible first | exact HB.out | apply below_alloc | apply pw_below_drewN | apply below_drew1) | exact HB.out)⟩

def robots_Allowed.j0 : Nat → ByteArray → Bool → Bool → Bool → List (S30) → Int → Option (Bool)
  | 0, _, _, _, _, _, _ => none
  | k + 1, x1, x5, x106000, x106001, x106002, x106003 => if x5 = true then (some true) else (if x106001 = true then (some false) else ((match_Allowed.f k x106002 x1).bind fun t106 => (some t106)))
def robots_Allowed.f (k : Nat) (a0_0 : Bool) (a0_1 : Bool) (l0_2 : List (S30)) (a0_3 : Int) (a1 : ByteArray) : Option (Bool) := if a1.toList = ([47, 114, 111, 98, 111, 116, 115, 46, 116, 120, 116] : List UInt8) then (robots_Allowed.j0 k a1 true a0_0 a0_1 l0_2 a0_3) else (robots_Allowed.j0 k a1 a0_0 a0_0 a0_1 l0_2 a0_3)
set_option maxHeartbeats 8000000 in
set_option maxRecDepth 100000 in
theorem robots_Allowed.calls (k : Nat) (a0_0 : Bool) (a0_1 : Bool) (A0_2 : Option Addr) (c0_2 : Nat) (l0_2 : List (S30)) (a0_3 : Int) (a1 : ByteArray) (r : Bool) (w : World) (hr0_2 : Kd.C k30 w A0_2 l0_2.length l0_2) (hc0_2 : l0_2.length ≤ c0_2) (h : robots_Allowed.f k a0_0 a0_1 l0_2 a0_3 a1 = some r) (hS_ : Shp w) :
    Calls Tryd.prog 11 #[.agg #[.bool a0_0, .bool a0_1, .slice A0_2 l0_2.length c0_2, .int .i64 a0_3], .string a1] w fun e w' => e = .returned (.bool r) ∧ Below w.heap.size w w' := by
  have hu26 := Tryd.underlying26
  have HR0_2 := Aside0.mk hr0_2
  have HC0_2 := Aside0.mk hc0_2
  clear hr0_2 hc0_2
  have HB := Aside0.mk (Below.refl w.heap.size w)
  have HS_ := Aside0.mk hS_
  clear hS_
  have H : (if a1.toList = ([47, 114, 111, 98, 111, 116, 115, 46, 116, 120, 116] : List UInt8) then (robots_Allowed.j0 k a1 true a0_0 a0_1 l0_2 a0_3) else (robots_Allowed.j0 k a1 a0_0 a0_0 a0_1 l0_2 a0_3)) = some r := h
  clear h
  have HC3 := Aside0.mk H
  clear H
  go_enter Tryd.func11, Tryd.ntmps11
  go_upto_region 1 with (first | ((with_reducible refine gate_dst (N := 2) rfl ?_); refine box_event ?hg (N := 2) ?hd (cs := #[.bool a0_0, .bool a0_1, .slice A0_2 l0_2.length c0_2, .int .i64 a0_3]) (t := 26) ?hr ?_; (case hd => rfl); (case hg => rfl); (case hr => first | (go_simp; done) | (go_simp; rfl)); intro gb105 hg w4 hbox hb; have n0_ := Aside0.mk (below_step (by repeat (first | (with_reducible first | exact HB.out | apply below_alloc | apply pw_below_drewN | apply below_drew1) | exact HB.out)) hb); have n1_ := Aside0.mk (hbox); have n2_ := Aside0.mk ((by rw [hg]; exact (below_size (by repeat (first | (with_reducible first | exact HB.out | apply below_alloc | apply pw_below_drewN | apply below_drew1) | exact HB.out))) : w.heap.size ≤ gb105)); have n3_ := Aside0.mk ((by rw [hg]; exact (below_size (by repeat (first | (with_reducible first | exact HB.out | apply below_alloc | apply pw_below_drewN | apply below_drew1) | exact HB.out))) : w.heap.size ≤ gb105)); clear HB; have HB := n0_; have BK105 := n1_; have GW105 := n2_; have GE105 := n3_; clear n0_ n1_ n2_ n3_; clear hb hbox hg))
  (try simp only [Act.put, List.setIfInBounds_toArray, List.set_cons_zero, List.set_cons_succ])
  go_cut [5] (fun v5 wc => ∃ (kq : Nat) (x5_2 : Bool), v5 = .bool x5_2 ∧ Aside0 (robots_Allowed.j0 kq a1 x5_2 a0_0 a0_1 l0_2 a0_3 = some r) ∧ Aside0 (kq ≤ k) ∧ Aside0 (wc.heap[gb105]? = some (.cells #[.bool a0_0, .bool a0_1, (.slice A0_2 l0_2.length c0_2), .int .i64 a0_3] 26 (0, 0))) ∧ Aside0 (Below w.heap.size w wc))
  case first =>
    have H := HC3.out
    clear HC3
    by_cases c5 : a1.toList = ([47, 114, 111, 98, 111, 116, 115, 46, 116, 120, 116] : List UInt8)
    · rw [if_pos c5] at H
      have c5b0 : (a1.toList == ([47, 114, 111, 98, 111, 116, 115, 46, 116, 120, 116] : List UInt8)) = true := beq_iff_eq.mpr c5
      have c5b1 : (a1.toList != ([47, 114, 111, 98, 111, 116, 115, 46, 116, 120, 116] : List UInt8)) = false := bne_eq_false_iff_eq.mpr c5
      clear c5
      (first | rw [c5b0] | (simp only [i64_w, i32_w]; rw [c5b0]) | skip)
      have H' := Aside0.mk H
      clear H
      go_wp2
      go_meet
      case rel => exact ⟨_, (true), (by first | rfl | (simp; done) | (simp [*]; done)), H', ⟨by first | omega | exact Nat.le_refl _⟩, ⟨by (with_reducible repeat (first | refine blk_drewN ?_ _ | refine blk_drew ?_ | refine blk_alloc ?_ _)); exact BK105.out⟩, ⟨by repeat (first | (with_reducible first | exact HB.out | apply below_alloc | apply pw_below_drewN | apply below_drew1 | refine below_set ?_ GE105.out) | exact HB.out)⟩⟩
    · rw [if_neg c5] at H
      have c5b0 : (a1.toList == ([47, 114, 111, 98, 111, 116, 115, 46, 116, 120, 116] : List UInt8)) = false := beq_eq_false_iff_ne.mpr c5
      have c5b1 : (a1.toList != ([47, 114, 111, 98, 111, 116, 115, 46, 116, 120, 116] : List UInt8)) = true := bne_iff_ne.mpr c5
      (first | rw [c5b0] | (simp only [i64_w, i32_w]; rw [c5b0]) | skip)
      have H' := Aside0.mk H
      clear H
      have hcz6_0 : w4.cell? ⟨gb105, 0, none⟩ = some (.bool a0_0) := (blk_cell BK105.out 0).trans rfl
      have hcz6_1 : w4.cell? ⟨gb105, 1, none⟩ = some (.bool a0_1) := (blk_cell BK105.out 1).trans rfl
      have hcz6_2 : w4.cell? ⟨gb105, 2, none⟩ = some (.slice A0_2 l0_2.length c0_2) := (blk_cell BK105.out 2).trans rfl
      have hcz6_3 : w4.cell? ⟨gb105, 3, none⟩ = some (.int .i64 a0_3) := (blk_cell BK105.out 3).trans rfl
      have hfz6_0 := blk_frozen BK105.out 0
      have hfz6_1 := blk_frozen BK105.out 1
      have hfz6_2 := blk_frozen BK105.out 2
      have hfz6_3 := blk_frozen BK105.out 3
      go_wp2
      go_meet
      case rel => exact ⟨_, (a0_0), (by first | rfl | (simp; done) | (simp [*]; done)), H', ⟨by first | omega | exact Nat.le_refl _⟩, ⟨by (with_reducible repeat (first | refine blk_drewN ?_ _ | refine blk_drew ?_ | refine blk_alloc ?_ _)); exact BK105.out⟩, ⟨by repeat (first | (with_reducible first | exact HB.out | apply below_alloc | apply pw_below_drewN | apply below_drew1 | refine below_set ?_ GE105.out) | exact HB.out)⟩⟩
  case rest =>
    clear HC3
    try clear c1
    try clear p2
    try clear c5
    try clear c5b0
    try clear c5b1
    try clear hcz6_0
    try clear hcz6_1
    try clear hcz6_2
    try clear hcz6_3
    try clear hfz6_0
    try clear hfz6_1
    try clear hfz6_2
    try clear hfz6_3
    obtain ⟨kq, x5_2, rfl, HA, HJ2, BK105, HB⟩ := hcut
    cases kq with
    | zero => exact absurd HA.out (by simp [robots_Allowed.j0])
    | succ kj2 =>
      have H := HA.out
      clear HA
      simp only [robots_Allowed.j0] at H
      by_cases c7 : x5_2 = true
      · subst c7
        have H1 : (some true) = some r := by rw [if_pos rfl] at H; exact H
        clear H
        have H := H1
        clear H1
        obtain rfl := Option.some.inj H
        go_wp2
        go_ret
        exact ⟨by first | rfl | (simp [errW_none, errW_some] <;> rfl) | (simp [*, errW_none, errW_some] <;> rfl) | (simp [wrap64]; done), by repeat (first | (with_reducible first | exact HB.out | apply below_alloc | apply pw_below_drewN | apply below_drew1 | refine below_set ?_ GE105.out) | exact HB.out)⟩
      · replace c7 := Bool.eq_false_iff.mpr c7
        subst c7
        have H1 : (if a0_1 = true then (some false) else ((match_Allowed.f kj2 l0_2 a1).bind fun t106 => (some t106))) = some r := by rw [if_neg (show ¬ (false = true) by decide)] at H; exact H
        clear H
        have H := H1
        clear H1
        by_cases c8 : a0_1 = true
        · subst c8
          have H1 : (some false) = some r := by rw [if_pos rfl] at H; exact H
          clear H
          have H := H1
          clear H1
          obtain rfl := Option.some.inj H
          have hcz9_0 : wc.cell? ⟨gb105, 0, none⟩ = some (.bool a0_0) := (blk_cell BK105.out 0).trans rfl
          have hcz9_1 : wc.cell? ⟨gb105, 1, none⟩ = some (.bool true) := (blk_cell BK105.out 1).trans rfl
          have hcz9_2 : wc.cell? ⟨gb105, 2, none⟩ = some (.slice A0_2 l0_2.length c0_2) := (blk_cell BK105.out 2).trans rfl
          have hcz9_3 : wc.cell? ⟨gb105, 3, none⟩ = some (.int .i64 a0_3) := (blk_cell BK105.out 3).trans rfl
          have hfz9_0 := blk_frozen BK105.out 0
          have hfz9_1 := blk_frozen BK105.out 1
          have hfz9_2 := blk_frozen BK105.out 2
          have hfz9_3 := blk_frozen BK105.out 3
          go_wp2
          go_ret
          exact ⟨by first | rfl | (simp [errW_none, errW_some] <;> rfl) | (simp [*, errW_none, errW_some] <;> rfl) | (simp [wrap64]; done), by repeat (first | (with_reducible first | exact HB.out | apply below_alloc | apply pw_below_drewN | apply below_drew1 | refine below_set ?_ GE105.out) | exact HB.out)⟩
        · replace c8 := Bool.eq_false_iff.mpr c8
          subst c8
          have H1 : ((match_Allowed.f kj2 l0_2 a1).bind fun t106 => (some t106)) = some r := by rw [if_neg (show ¬ (false = true) by decide)] at H; exact H
          clear H
          have H := H1
          clear H1
          replace H := Option.bind_eq_some_iff.mp H
          obtain ⟨t106, A100, H⟩ := H
          replace H : (some t106) = some r := H
          have A10 := Aside0.mk A100
          clear A100
          obtain rfl := Option.some.inj H
          have hcz11_0 : wc.cell? ⟨gb105, 0, none⟩ = some (.bool a0_0) := (blk_cell BK105.out 0).trans rfl
          have hcz11_1 : wc.cell? ⟨gb105, 1, none⟩ = some (.bool false) := (blk_cell BK105.out 1).trans rfl
          have hcz11_2 : wc.cell? ⟨gb105, 2, none⟩ = some (.slice A0_2 l0_2.length c0_2) := (blk_cell BK105.out 2).trans rfl
          have hcz11_3 : wc.cell? ⟨gb105, 3, none⟩ = some (.int .i64 a0_3) := (blk_cell BK105.out 3).trans rfl
          have hfz11_0 := blk_frozen BK105.out 0
          have hfz11_1 := blk_frozen BK105.out 1
          have hfz11_2 := blk_frozen BK105.out 2
          have hfz11_3 := blk_frozen BK105.out 3
          go_wp2_with (first | ((with_reducible refine gate_callee (f := 21) rfl ?_); refine goesL_ (some 18) rfl rfl Tryd.func21 (by kernel_rfl) rfl #[.slice A0_2 l0_2.length c0_2, .string a1] rfl (by (try simp only [List.map_toArray, List.map_cons, List.map_nil]); first | done | rfl | (simp only [List.length_drop, List.length_take]; rfl)) ?_; (with_reducible refine (match_Allowed.calls kj2 _ _ l0_2 a1 t106 _ ?side1 ?side2 A10.out (Shp.below HS_.out (by repeat (first | (with_reducible first | exact HB.out | apply below_alloc | apply pw_below_drewN | apply below_drew1 | refine below_set ?_ GE105.out) | exact HB.out)))).mono ?_); (case side1 => repeat (first | exact (Kd.C_below HR0_2.out HB.out) | (with_reducible refine Kd.C_alloc ?_ _) | (with_reducible refine Kd.C_drewN ?_ _) | (with_reducible refine Kd.C_drew ?_))); (case side2 => exact HC0_2.out); rintro e w12 ⟨rfl, hb⟩; refine ⟨_, rfl, ?_⟩; have n0_ := Aside0.mk (blk_below (g := gb105) (o := .cells #[.bool a0_0, .bool false, .slice A0_2 l0_2.length c0_2, .int .i64 a0_3] 26 (0, 0)) (by (with_reducible repeat (first | refine blk_drewN ?_ _ | refine blk_drew ?_ | refine blk_alloc ?_ _)); exact BK105.out) hb); have n1_ := Aside0.mk (below_step (by repeat (first | (with_reducible first | exact HB.out | apply below_alloc | apply pw_below_drewN | apply below_drew1 | refine below_set ?_ GE105.out) | exact HB.out)) hb); clear BK105; clear HB; have BK105 := n0_; have HB := n1_; clear n0_ n1_; (try clear hb); (try clear hb2); (try clear hk); (try clear hi)))
          go_ret
          exact ⟨by first | rfl | (simp [errW_none, errW_some] <;> rfl) | (simp [*, errW_none, errW_some] <;> rfl) | (simp [wrap64]; done), by repeat (first | (with_reducible first | exact HB.out | apply below_alloc | apply pw_below_drewN | apply below_drew1 | refine below_set ?_ GE105.out) | exact HB.out)⟩

end Go.Proofs.YtdnaddignhjihaaDoor.QU
namespace Go.Proofs.YtdnaddignhjihaaDoor.Given
open Go.RowKit Go.Proofs.YtdnaddignhjihaaDoor.QBase Go.Proofs.YtdnaddignhjihaaDoor.QU Go.Proofs.YtdnaddignhjihaaDoorW.PrintWords Go.Proofs.YtdnaddignhjihaaDoorW.PrintLast Go.Proofs.YtdnaddignhjihaaDoorW.PrintMore
set_option linter.unusedVariables false
namespace Aw
theorem v1 : readV 200 (⟨#[117, 115, 101, 114, 45, 97, 103, 101, 110, 116, 58, 32, 42, 10, 100, 105, 115, 97, 108, 108, 111, 119, 58, 32, 47, 10, 117, 115, 101, 114, 45, 97, 103, 101, 110, 116, 58, 32, 66, 111, 116, 10, 99, 114, 97, 119, 108, 45, 100, 101, 108, 97, 121, 58, 32, 51, 10, 97, 108, 108, 111, 119, 58, 32, 47]⟩ : ByteArray) (⟨#[98, 111, 116, 47, 50, 46, 49]⟩ : ByteArray) = (false, false, [(⟨true, ⟨#[47]⟩⟩ : S30)], 3000) := by kernel_rfl
theorem c1 (w : World) (hS : Shp w) : Calls Tryd.prog 9 #[.int .i64 200, .string (⟨#[117, 115, 101, 114, 45, 97, 103, 101, 110, 116, 58, 32, 42, 10, 100, 105, 115, 97, 108, 108, 111, 119, 58, 32, 47, 10, 117, 115, 101, 114, 45, 97, 103, 101, 110, 116, 58, 32, 66, 111, 116, 10, 99, 114, 97, 119, 108, 45, 100, 101, 108, 97, 121, 58, 32, 51, 10, 97, 108, 108, 111, 119, 58, 32, 47]⟩ : ByteArray), .string (⟨#[98, 111, 116, 47, 50, 46, 49]⟩ : ByteArray)] w fun e w' => ∃ (A : Option Addr) (c : Nat) (rs : List S30), e = .returned (.agg #[.bool false, .bool false, .slice A rs.length c, .int .i64 3000]) ∧ rs = [(⟨true, ⟨#[47]⟩⟩ : S30)] ∧ Rls w.heap.size w' A c rs ∧ Below w.heap.size w w' := by
  have h := read_calls 200 (⟨#[117, 115, 101, 114, 45, 97, 103, 101, 110, 116, 58, 32, 42, 10, 100, 105, 115, 97, 108, 108, 111, 119, 58, 32, 47, 10, 117, 115, 101, 114, 45, 97, 103, 101, 110, 116, 58, 32, 66, 111, 116, 10, 99, 114, 97, 119, 108, 45, 100, 101, 108, 97, 121, 58, 32, 51, 10, 97, 108, 108, 111, 119, 58, 32, 47]⟩ : ByteArray) (⟨#[98, 111, 116, 47, 50, 46, 49]⟩ : ByteArray) w (by decide) (by decide) hS
  rw [v1] at h
  exact h
theorem v2 : readV 200 (⟨#[117, 115, 101, 114, 45, 97, 103, 101, 110, 116, 58, 32, 42, 10, 100, 105, 115, 97, 108, 108, 111, 119, 58, 32, 47, 97]⟩ : ByteArray) (⟨#[98]⟩ : ByteArray) = (false, false, [(⟨false, ⟨#[47, 97]⟩⟩ : S30)], 0) := by kernel_rfl
theorem c2 (w : World) (hS : Shp w) : Calls Tryd.prog 9 #[.int .i64 200, .string (⟨#[117, 115, 101, 114, 45, 97, 103, 101, 110, 116, 58, 32, 42, 10, 100, 105, 115, 97, 108, 108, 111, 119, 58, 32, 47, 97]⟩ : ByteArray), .string (⟨#[98]⟩ : ByteArray)] w fun e w' => ∃ (A : Option Addr) (c : Nat) (rs : List S30), e = .returned (.agg #[.bool false, .bool false, .slice A rs.length c, .int .i64 0]) ∧ rs = [(⟨false, ⟨#[47, 97]⟩⟩ : S30)] ∧ Rls w.heap.size w' A c rs ∧ Below w.heap.size w w' := by
  have h := read_calls 200 (⟨#[117, 115, 101, 114, 45, 97, 103, 101, 110, 116, 58, 32, 42, 10, 100, 105, 115, 97, 108, 108, 111, 119, 58, 32, 47, 97]⟩ : ByteArray) (⟨#[98]⟩ : ByteArray) w (by decide) (by decide) hS
  rw [v2] at h
  exact h
theorem v3 : readV 404 (⟨#[]⟩ : ByteArray) (⟨#[98]⟩ : ByteArray) = (true, false, [], 0) := by kernel_rfl
theorem c3 (w : World) (hS : Shp w) : Calls Tryd.prog 9 #[.int .i64 404, .string (⟨#[]⟩ : ByteArray), .string (⟨#[98]⟩ : ByteArray)] w fun e w' => ∃ (A : Option Addr) (c : Nat) (rs : List S30), e = .returned (.agg #[.bool true, .bool false, .slice A rs.length c, .int .i64 0]) ∧ rs = [] ∧ Rls w.heap.size w' A c rs ∧ Below w.heap.size w w' := by
  have h := read_calls 404 (⟨#[]⟩ : ByteArray) (⟨#[98]⟩ : ByteArray) w (by decide) (by decide) hS
  rw [v3] at h
  exact h
theorem v4 : readV 500 (⟨#[]⟩ : ByteArray) (⟨#[98]⟩ : ByteArray) = (false, true, [], 0) := by kernel_rfl
theorem c4 (w : World) (hS : Shp w) : Calls Tryd.prog 9 #[.int .i64 500, .string (⟨#[]⟩ : ByteArray), .string (⟨#[98]⟩ : ByteArray)] w fun e w' => ∃ (A : Option Addr) (c : Nat) (rs : List S30), e = .returned (.agg #[.bool false, .bool true, .slice A rs.length c, .int .i64 0]) ∧ rs = [] ∧ Rls w.heap.size w' A c rs ∧ Below w.heap.size w w' := by
  have h := read_calls 500 (⟨#[]⟩ : ByteArray) (⟨#[98]⟩ : ByteArray) w (by decide) (by decide) hS
  rw [v4] at h
  exact h
theorem x1 : robots_Allowed.f 1000 false false [(⟨true, ⟨#[47]⟩⟩ : S30)] 3000 (⟨#[47, 120]⟩ : ByteArray) = some true := by decide +kernel
theorem x2 : robots_Allowed.f 1000 false false [(⟨false, ⟨#[47, 97]⟩⟩ : S30)] 0 (⟨#[47, 97, 98]⟩ : ByteArray) = some false := by decide +kernel
theorem x2r (rs : List S30) (h : rs = [(⟨false, ⟨#[47, 97]⟩⟩ : S30)]) : robots_Allowed.f 1000 false false rs 0 (⟨#[47, 97, 98]⟩ : ByteArray) = some false := by rw [h]; exact x2
theorem x3 : decorumref09_Token.f 1000 (⟨#[65]⟩ : ByteArray) = some (⟨#[97]⟩ : ByteArray) := by decide +kernel
theorem x4 : tokV (⟨#[65, 98, 45, 99, 95, 49]⟩ : ByteArray).data.toList = [97, 98, 45, 99, 95] := by decide +kernel
theorem c5 (w : World) : Calls Tryd.prog 14 #[.string (⟨#[65, 98, 45, 99, 95, 49]⟩ : ByteArray)] w fun e w' => e = .returned (.string (⟨#[97, 98, 45, 99, 95]⟩ : ByteArray)) ∧ Below w.heap.size w w' := by
  have h := token_calls (⟨#[65, 98, 45, 99, 95, 49]⟩ : ByteArray) w (by decide)
  rw [x4] at h
  exact h
end Aw
theorem Rls.le {base : Nat} {w : World} {A : Option Addr} {c : Nat} {rs : List S30} (h : Rls base w A c rs) : rs.length ≤ c := h.1
set_option maxHeartbeats 8000000 in
set_option maxRecDepth 1000000 in
theorem awake_calls (w : World) (hS : Shp w) : Calls Tryd.prog 7 #[] w fun e w' => e = .returned (.bool true) ∧ Below w.heap.size w w' := by
  have hfd0 : ∀ (x y : Bool) (A : Option Addr) (n c : Nat) (d : Int) (w : World), (Instr.field 26 (.agg #[.bool x, .bool y, .slice A n c, .int .i64 d]) 0).run Tryd.prog w = .ok (.bool x) w := fun _ _ _ _ _ _ _ => by kernel_rfl
  have hfd1 : ∀ (x y : Bool) (A : Option Addr) (n c : Nat) (d : Int) (w : World), (Instr.field 26 (.agg #[.bool x, .bool y, .slice A n c, .int .i64 d]) 1).run Tryd.prog w = .ok (.bool y) w := fun _ _ _ _ _ _ _ => by kernel_rfl
  have HS := Aside0.mk hS
  have HB := Aside0.mk (Below.refl w.heap.size w)
  clear hS
  go_enter Tryd.func7, Tryd.ntmps7
  go_upto_region 2 with (first
    | (go_at_call 9; with_reducible refine (Aw.c1 _ (Shp.below HS.out HB.out)).mono ?_; rintro e w1 ⟨A, c, rs, rfl, hrs0, hR0, b1⟩; have HB1 := Aside0.mk (below_step HB.out b1); have hrs := Aside0.mk hrs0; have hR := Aside0.mk (hR0.lower HB.out.size); clear hrs0 hR0 b1)
    | ((with_reducible refine gate_dst (N := 1) rfl ?_); refine box_event ?hg (N := 1) ?hd (cs := #[.bool false, .bool false, .slice none 0 0, .int .i64 0]) (t := 26) ?hr ?_; (case hd => rfl); (case hg => rfl); (case hr => first | (go_simp; done) | (go_simp; rfl)); intro b5 hb5 w3 hbox hb; have hB3 := Aside0.mk (below_step HB1.out hb); have hR3 := Aside0.mk (hR.out.below hb); have Hbx := Aside0.mk hbox; have hf50 := blk_frozen hbox 0; have hf51 := blk_frozen hbox 1; have hf52 := blk_frozen hbox 2; have hf53 := blk_frozen hbox 3; have hz0 := blk_cell hbox 0; have hz1 := blk_cell hbox 1; have hz2 := blk_cell hbox 2; have hz3 := blk_cell hbox 3; simp only [List.getElem?_toArray, List.getElem?_cons_zero, List.getElem?_cons_succ] at hz0 hz1 hz2 hz3; have hlb := Aside0.mk (by rw [hb5]; exact HB1.out.size : w.heap.size ≤ b5); clear HB1 hR hbox hb hb5))
  have x0 := blk_put Hbx.out 0 (.bool false) (cs' := #[.bool false, .bool false, .slice none 0 0, .int .i64 0]) rfl
  have x1 := blk_put x0 1 (.bool false) (cs' := #[.bool false, .bool false, .slice none 0 0, .int .i64 0]) rfl
  have x2 := blk_put x1 2 (.slice A rs.length c) (cs' := #[.bool false, .bool false, .slice A rs.length c, .int .i64 0]) rfl
  have Hbx4 := Aside0.mk (blk_put x2 3 (.int .i64 3000) (cs' := #[.bool false, .bool false, .slice A rs.length c, .int .i64 3000]) rfl)
  have HR4 := Aside0.mk ((((hR3.out.set Hbx.out 0 (.bool false)).set x0 1 (.bool false)).set x1 2 (.slice A rs.length c)).set x2 3 (.int .i64 3000))
  have HB4 := Aside0.mk (below_set (below_set (below_set (below_set hB3.out hlb.out (j := 0) (v := .bool false)) hlb.out (j := 1) (v := .bool false)) hlb.out (j := 2) (v := .slice A rs.length c)) hlb.out (j := 3) (v := .int .i64 3000))
  clear x0 x1 x2 hf50 hf51 hf52 hf53 hz0 hz1 hz2 hz3 hB3 Hbx hR3 HB
  generalize ((((w3.setCell ⟨b5, 0, none⟩ (.bool false)).setCell ⟨b5, 1, none⟩ (.bool false)).setCell ⟨b5, 2, none⟩ (.slice A rs.length c)).setCell ⟨b5, 3, none⟩ (.int .i64 3000)) = w4 at *
  have k0 : w4.cell? ⟨b5, 0, none⟩ = some (.bool false) := blk_cell Hbx4.out 0
  have k1 : w4.cell? ⟨b5, 1, none⟩ = some (.bool false) := blk_cell Hbx4.out 1
  have k2 : w4.cell? ⟨b5, 2, none⟩ = some (.slice A rs.length c) := blk_cell Hbx4.out 2
  have k3 : w4.cell? ⟨b5, 3, none⟩ = some (.int .i64 3000) := blk_cell Hbx4.out 3
  have hx1 : Aside0 (robots_Allowed.f 1000 false false rs 3000 (⟨#[47, 120]⟩ : ByteArray) = some true) := ⟨by rw [hrs.out]; exact Aw.x1⟩
  have ha1 := Aside0.mk (robots_Allowed.calls 1000 false false A c rs 3000 (⟨#[47, 120]⟩ : ByteArray) true w4 HR4.out.C HR4.out.1 hx1.out (Shp.below HS.out HB4.out))
  go_wp2_with (first
    | (go_at_call 11; with_reducible refine ha1.out.mono ?_; rintro e w5 ⟨rfl, b5_⟩; have HB5 := Aside0.mk (below_step HB4.out b5_); have k5 := blk_cell (blk_below Hbx4.out b5_) 3; simp only [List.getElem?_toArray, List.getElem?_cons_zero, List.getElem?_cons_succ] at k5; clear ha1 hx1 k0 k1 k2 k3 Hbx4 HR4 HB4 b5_ hrs)
    | (go_at_call 9; (with_reducible refine (Aw.c2 _ (Shp.below HS.out HB5.out)).mono ?_; rintro e w6 ⟨A2, c2, rs2, rfl, hrs2, hR2, b6⟩; have HB6 := Aside0.mk (below_step HB5.out b6); have ha2 := Aside0.mk (robots_Allowed.calls 1000 false false A2 c2 rs2 0 (⟨#[47, 97, 98]⟩ : ByteArray) false w6 hR2.C hR2.le (Aw.x2r rs2 hrs2) (Shp.below HS.out HB6.out)); clear k5 HB5 b6 hrs2 hR2))
    | (go_at_call 11; with_reducible refine ha2.out.mono ?_; rintro e w7 ⟨rfl, b7⟩; have HB7 := Aside0.mk (below_step HB6.out b7); clear ha2 HB6 b7)
    | (go_at_call 9; with_reducible refine (Aw.c3 _ (Shp.below HS.out HB7.out)).mono ?_; rintro e w8 ⟨A3, c3, rs3, rfl, hrs3, hR3, b8⟩; have HB8 := Aside0.mk (below_step HB7.out b8); clear HB7 b8 hrs3 hR3)
    | (go_at_call 9; with_reducible refine (Aw.c4 _ (Shp.below HS.out HB8.out)).mono ?_; rintro e w9 ⟨A4, c4, rs4, rfl, hrs4, hR4, b9⟩; have HB9 := Aside0.mk (below_step HB8.out b9); clear HB8 b9 hrs4 hR4)
    | (go_at_call 14; with_reducible refine (Aw.c5 _).mono ?_; rintro e w10 ⟨rfl, b10⟩; have HB10 := Aside0.mk (below_step HB9.out b10); clear HB9 b10)
    | (go_at_call 15; with_reducible refine (decorumref09_Token.calls 1000 _ _ _ Aw.x3).mono ?_; rintro e w11 ⟨rfl, b11⟩; have HB11 := Aside0.mk (below_step HB10.out b11); clear HB10 b11))
  go_ret
  exact ⟨rfl, HB11.out⟩
end Go.Proofs.YtdnaddignhjihaaDoor.Given
namespace Go.Proofs.YtdnaddignhjihaaDoor.Pure
open Go Go.RowKit Go.Proofs.YtdnaddignhjihaaDoor.QBase Go.Proofs.YtdnaddignhjihaaDoor.Given Go.Proofs.YtdnaddignhjihaaDoorW.PrintWords Go.Proofs.YtdnaddignhjihaaDoorW.PrintLast
set_option linter.unusedVariables false
set_option linter.unusedSimpArgs false
def tUA : List UInt8 := [117, 115, 101, 114, 45, 97, 103, 101, 110, 116, 58, 32, 67, 114, 97, 119, 108, 101, 114]
def tC0 : List UInt8 := [99, 114, 97, 119, 108, 45, 100, 101, 108, 97, 121, 58, 32, 48]
def tC9 : List UInt8 := [99, 114, 97, 119, 108, 45, 100, 101, 108, 97, 121, 58, 32, 57]
def tST : List UInt8 := [117, 115, 101, 114, 45, 97, 103, 101, 110, 116, 58, 32, 115, 116, 114, 97, 110, 103, 101, 114]
def tAL : List UInt8 := [117, 115, 101, 114, 45, 97, 103, 101, 110, 116, 58, 32, 42]
def bom : List UInt8 := [239, 187, 191]
def nUA : ByteArray := mk [99, 114, 97, 119, 108, 101, 114]
theorem say_UA : sayL tUA = some ⟨mk sAgent, mk [67, 114, 97, 119, 108, 101, 114]⟩ := by kernel_rfl
theorem say_ST : sayL tST = some ⟨mk sAgent, mk [115, 116, 114, 97, 110, 103, 101, 114]⟩ := by kernel_rfl
theorem say_AL : sayL tAL = some ⟨mk sAgent, mk [42]⟩ := by kernel_rfl
theorem say_C0 : sayL tC0 = some ⟨mk sDelay, mk [48]⟩ := by kernel_rfl
theorem say_C9 : sayL tC9 = some ⟨mk sDelay, mk [57]⟩ := by kernel_rfl
theorem say_nil : sayL [] = none := by kernel_rfl
theorem spl_line (p r : List UInt8) (hp : ∀ c ∈ p, nlB c = false) : spl [] (p ++ 10 :: r) = p :: spl [] r := by
  rw [spl_no p [] (10 :: r) hp, List.nil_append, spl, if_pos (by decide)]
theorem nl_UA : ∀ c ∈ tUA, nlB c = false := by decide
theorem nl_ST : ∀ c ∈ tST, nlB c = false := by decide
theorem nl_AL : ∀ c ∈ tAL, nlB c = false := by decide
theorem nl_C0 : ∀ c ∈ tC0, nlB c = false := by decide
theorem nl_C9 : ∀ c ∈ tC9, nlB c = false := by decide
theorem nl_bom : ∀ c ∈ bom, nlB c = false := by decide
/-- The lines of one's own text. -/
theorem parse_mine (r : List UInt8) : parseV (tUA ++ 10 :: (r ++ 10 :: (tC0 ++ [10]))) = ⟨mk sAgent, mk [67, 114, 97, 119, 108, 101, 114]⟩ :: (parseV r ++ [⟨mk sDelay, mk [48]⟩]) := by
  unfold parseV
  rw [spl_line tUA _ nl_UA, spl_app _ 10 (by decide), spl_line tC0 [] nl_C0, List.filterMap_cons, say_UA]
  simp only [List.filterMap_append]
  rw [List.filterMap_cons, say_C0]
  simp only [spl, List.filterMap_cons, say_nil, List.filterMap_nil]
theorem parse_both (r o : List UInt8) : parseV (tST ++ 10 :: (tAL ++ 10 :: (o ++ 10 :: (tC9 ++ 10 :: r)))) = ⟨mk sAgent, mk [115, 116, 114, 97, 110, 103, 101, 114]⟩ :: ⟨mk sAgent, mk [42]⟩ :: (parseV o ++ ⟨mk sDelay, mk [57]⟩ :: parseV r) := by
  unfold parseV
  rw [spl_line tST _ nl_ST, List.filterMap_cons, say_ST]
  simp only
  rw [spl_line tAL _ nl_AL, List.filterMap_cons, say_AL]
  simp only
  rw [spl_app _ 10 (by decide), spl_line tC9 _ nl_C9]
  simp only [List.filterMap_append]
  rw [List.filterMap_cons, say_C9]

def NoUA (X : List S35) : Prop := ∀ x ∈ X, ¬ (x.f0.toList == sAgent) = true
theorem spl_cur : ∀ (u cur : List UInt8), ∃ p ps, spl [] u = p :: ps ∧ spl cur u = (cur ++ p) :: ps
  | [], cur => ⟨[], [], rfl, by simp [spl]⟩
  | c :: u, cur => by
    by_cases h : nlB c = true
    · exact ⟨[], spl [] u, by rw [spl, if_pos h], by rw [spl, if_pos h]; simp⟩
    · obtain ⟨p, ps, e1, e2⟩ := spl_cur u [c]
      obtain ⟨p', ps', e3, e4⟩ := spl_cur u (cur ++ [c])
      rw [e1] at e3
      obtain ⟨rfl, rfl⟩ := List.cons.inj e3
      exact ⟨[c] ++ p, ps, by rw [spl, if_neg h, List.nil_append, e2], by rw [spl, if_neg h, e4]; simp⟩
theorem key_bom (p : List UInt8) : ∃ t, sayK (bom ++ p) = 239 :: t := by
  unfold sayK
  rw [cut_no 35 bom p (by decide)]
  simp only
  rw [cut_no 58 bom _ (by decide)]
  simp only
  generalize (Lib.cut (Lib.cut p [35]).1 [58]).1 = q
  rw [← trim_both]
  have hl : Lib.trimLeftS (bom ++ q) [32, 9] = bom ++ q := by
    show Lib.trimLeftS (239 :: (187 :: 191 :: q)) [32, 9] = _
    rfl
  rw [hl]
  show ∃ t, lowL (Lib.trimRightS (239 :: (187 :: 191 :: q)) [32, 9]) = 239 :: t
  rw [right_cons]
  split
  · exact ⟨[], rfl⟩
  · exact ⟨_, rfl⟩
theorem noua_say (p : List UInt8) : ∀ x, sayL (bom ++ p) = some x → ¬ (x.f0.toList == sAgent) = true := by
  intro x hx
  unfold sayL at hx
  split at hx
  · obtain rfl := Option.some.inj hx
    obtain ⟨t, ht⟩ := key_bom p
    rw [show (⟨mk (sayK (bom ++ p)), mk (sayV (bom ++ p))⟩ : S35).f0.toList = sayK (bom ++ p) from mk_toList _, ht]
    intro h
    have := eq_of_beq h
    cases this
  · cases hx
theorem noua_bom (r : List UInt8) (h : NoUA (parseV r)) : NoUA (parseV (bom ++ r)) := by
  obtain ⟨p, ps, e1, e2⟩ := spl_cur r bom
  unfold parseV at h ⊢
  rw [spl_no bom [] r nl_bom, List.nil_append, e2]
  rw [e1] at h
  intro x hx
  rw [List.mem_filterMap] at hx
  obtain ⟨q, hq, hs⟩ := hx
  rcases List.mem_cons.mp hq with rfl | hq
  · exact noua_say p x hs
  · exact h x (List.mem_filterMap.mpr ⟨q, List.mem_cons_of_mem _ hq, hs⟩)
theorem noua_two (r o : List UInt8) (h : NoUA (parseV (tpR (r ++ 10 :: o)))) : NoUA (parseV r) ∧ NoUA (parseV o) := by
  have app : ∀ u, parseV (u ++ 10 :: o) = parseV u ++ parseV o := fun u => by unfold parseV; rw [spl_app _ 10 (by decide), List.filterMap_append]
  have fin : ∀ u, NoUA (parseV (u ++ 10 :: o)) → NoUA (parseV u) ∧ NoUA (parseV o) := fun u hu => by
    rw [app] at hu
    exact ⟨fun x hx => hu x (List.mem_append_left _ hx), fun x hx => hu x (List.mem_append_right _ hx)⟩
  unfold tpR Lib.trimPrefix at h
  split at h
  · rename_i hp
    have hb : ∃ r', r = bom ++ r' := by
      match r with
      | [] => exact absurd hp (by simp [Lib.hasPrefix])
      | [a] => exact absurd hp (by simp [Lib.hasPrefix])
      | [a, b] => exact absurd hp (by simp [Lib.hasPrefix])
      | a :: b :: c :: r' =>
        refine ⟨r', ?_⟩
        simp [Lib.hasPrefix] at hp
        obtain ⟨rfl, rfl, rfl⟩ := hp
        rfl
    obtain ⟨r', rfl⟩ := hb
    have e : (bom ++ r' ++ 10 :: o).drop ([239, 187, 191] : List UInt8).length = r' ++ 10 :: o := by simp [bom]
    rw [e] at h
    obtain ⟨h1, h2⟩ := fin r' h
    exact ⟨noua_bom r' h1, h2⟩
  · exact fin r h

theorem last_app (G : List S86) (g : S86) : lastG (G ++ [g]) = g := by simp [lastG]
theorem set_app (G : List S86) (g x : S86) : setG (G ++ [g]) x = G ++ [x] := by
  unfold setG
  rw [show (G ++ [g]).length - 1 = G.length by simp]
  simp
theorem add_last (g : S86) (op : Bool) (l : S35) : ∃ g' op', g'.f0 = g.f0 ∧ ∀ G, addG (G ++ [g]) op l = (G ++ [g'], op') := by
  by_cases c1 : (l.f0.toList == sAllow) = true ∨ (l.f0.toList == sDis) = true
  · by_cases c2 : l.f1.toList.isEmpty = false ∧ g.f1.length < 64
    · refine ⟨{ g with f1 := g.f1 ++ [⟨l.f0.toList == sAllow, l.f1⟩] }, false, rfl, fun G => ?_⟩
      rw [addG, if_neg (by simp), if_pos c1, last_app, set_app, if_pos c2]
    · refine ⟨g, false, rfl, fun G => ?_⟩
      rw [addG, if_neg (by simp), if_pos c1, last_app, set_app, if_neg c2]
  · by_cases c3 : (l.f0.toList == sDelay) = true
    · by_cases c4 : (delayV l.f1.data.toList).2 = true
      · refine ⟨{ g with f2 := max g.f2 ((delayV l.f1.data.toList).1 : Int) }, false, rfl, fun G => ?_⟩
        rw [addG, if_neg (by simp), if_neg c1, if_pos c3, last_app, set_app, if_pos c4]
      · refine ⟨g, false, rfl, fun G => ?_⟩
        rw [addG, if_neg (by simp), if_neg c1, if_pos c3, last_app, set_app, if_neg c4]
    · refine ⟨g, op, rfl, fun G => ?_⟩
      rw [addG, if_neg (by simp), if_neg c1, if_neg c3]
theorem fold_last : ∀ (X : List S35) (g : S86) (op : Bool), NoUA X → ∃ g' op', g'.f0 = g.f0 ∧ ∀ G, X.foldl Given.stepG (G ++ [g], op) = (G ++ [g'], op')
  | [], g, op, _ => ⟨g, op, rfl, fun _ => rfl⟩
  | l :: X, g, op, h => by
    obtain ⟨g1, op1, e1, h1⟩ := add_last g op l
    obtain ⟨g2, op2, e2, h2⟩ := fold_last X g1 op1 (fun x hx => h x (List.mem_cons_of_mem _ hx))
    refine ⟨g2, op2, e2.trans e1, fun G => ?_⟩
    have : Given.stepG (G ++ [g], op) l = (G ++ [g1], op1) := by
      unfold Given.stepG
      rw [if_neg (h l (List.mem_cons_self ..))]
      exact h1 G
    rw [List.foldl_cons, this, h2 G]
def cd0 : S35 := ⟨mk sDelay, mk [48]⟩
def cd9 : S35 := ⟨mk sDelay, mk [57]⟩
def uaC : S35 := ⟨mk sAgent, mk [67, 114, 97, 119, 108, 101, 114]⟩
def uaS : S35 := ⟨mk sAgent, mk [115, 116, 114, 97, 110, 103, 101, 114]⟩
def uaA : S35 := ⟨mk sAgent, mk [42]⟩
def gC : S86 := ⟨[nUA], [], 0⟩
def gS : S86 := ⟨[mk [115, 116, 114, 97, 110, 103, 101, 114], mk [42]], [], 0⟩
theorem is_agent (v : ByteArray) : ((⟨mk sAgent, v⟩ : S35).f0.toList == sAgent) = true := by
  rw [show (⟨mk sAgent, v⟩ : S35).f0.toList = sAgent from mk_toList _]; exact beq_self_eq_true _
theorem step_C (G : List S86) : Given.stepG (G, false) uaC = (G ++ [gC], true) := by
  unfold Given.stepG
  rw [if_pos (show (uaC.f0.toList == sAgent) = true from is_agent _)]
  show (agentG G false (mk [67, 114, 97, 119, 108, 101, 114]), true) = _
  have e : (⟨(lowL (mk [67, 114, 97, 119, 108, 101, 114]).data.toList).toArray⟩ : ByteArray) = nUA := by kernel_rfl
  unfold agentG
  rw [if_neg (by decide), set_app, last_app, e]; rfl
theorem step_S : Given.stepG ([], false) uaS = ([⟨[mk [115, 116, 114, 97, 110, 103, 101, 114]], [], 0⟩], true) := by
  unfold Given.stepG
  rw [if_pos (show (uaS.f0.toList == sAgent) = true from is_agent _)]
  kernel_rfl
theorem step_A : Given.stepG ([⟨[mk [115, 116, 114, 97, 110, 103, 101, 114]], [], 0⟩], true) uaA = ([gS], true) := by
  unfold Given.stepG
  rw [if_pos (show (uaA.f0.toList == sAgent) = true from is_agent _)]
  kernel_rfl
theorem noua_cd (v : ByteArray) : ¬ ((⟨mk sDelay, v⟩ : S35).f0.toList == sAgent) = true := by
  rw [show (⟨mk sDelay, v⟩ : S35).f0.toList = sDelay from mk_toList _]; decide
theorem add_cd9 (G : List S86) (g : S86) (op : Bool) : ∃ g', g'.f0 = g.f0 ∧ Given.stepG (G ++ [g], op) cd9 = (G ++ [g'], false) := by
  have e0 : cd9.f0.toList = sDelay := mk_toList _
  have e1 : (delayV cd9.f1.data.toList).2 = true := by kernel_rfl
  refine ⟨{ g with f2 := max g.f2 ((delayV cd9.f1.data.toList).1 : Int) }, rfl, ?_⟩
  unfold Given.stepG
  rw [if_neg (show ¬ (cd9.f0.toList == sAgent) = true from noua_cd _)]
  show addG (G ++ [g]) op cd9 = _
  rw [addG, if_neg (by simp), if_neg (by rw [e0]; decide), if_pos (by rw [e0]; decide), last_app, set_app, if_pos e1]
theorem groups_mine (X : List S35) (h : NoUA X) : ∃ g, g.f0 = [nUA] ∧ groupsV (uaC :: (X ++ [cd0])) = [g] ∧ ∀ h' : S86, (uaC :: (X ++ [cd0])).foldl Given.stepG ([h'], false) = ([h'] ++ [g], ((uaC :: (X ++ [cd0])).foldl Given.stepG ([h'], false)).2) := by
  have hn : NoUA (X ++ [cd0]) := by
    intro x hx
    rcases List.mem_append.mp hx with hx | hx
    · exact h x hx
    · obtain rfl := List.mem_singleton.mp hx; exact noua_cd _
  obtain ⟨g, op, e, hf⟩ := fold_last (X ++ [cd0]) gC true hn
  refine ⟨g, e, ?_, fun h' => ?_⟩
  · unfold groupsV
    rw [List.foldl_cons, step_C, hf []]; rfl
  · rw [List.foldl_cons, step_C, hf [h']]
theorem groups_both (X O : List S35) (h : NoUA X) (ho : NoUA O) (g : S86) (hg : ∀ h' : S86, (uaC :: (X ++ [cd0])).foldl Given.stepG ([h'], false) = ([h'] ++ [g], ((uaC :: (X ++ [cd0])).foldl Given.stepG ([h'], false)).2)) :
    ∃ h', h'.f0 = [mk [115, 116, 114, 97, 110, 103, 101, 114], mk [42]] ∧ groupsV (uaS :: uaA :: (O ++ cd9 :: (uaC :: (X ++ [cd0])))) = [h', g] := by
  obtain ⟨h1, op, e, hf⟩ := fold_last O gS true ho
  obtain ⟨h2, e2, hc⟩ := add_cd9 [] h1 op
  refine ⟨h2, e2.trans e, ?_⟩
  unfold groupsV
  rw [List.foldl_cons, step_S, List.foldl_cons, step_A, List.foldl_append, show ([gS], true) = (([] : List S86) ++ [gS], true) from rfl, hf [], List.foldl_cons, hc, List.nil_append, hg h2]
  rfl

theorem pick_one (g : S86) (hg : g.f0 = [nUA]) (ag : ByteArray) (ha : tokV ag.data.toList = [99, 114, 97, 119, 108, 101, 114]) : pickV [g] ag = ((ofStep nUA (false, [], 0) g).2.1.take 64, (ofStep nUA (false, [], 0) g).2.2) := by
  have ht : tokA ag = nUA := by unfold tokA; rw [ha]; rfl
  have hany : g.f0.any (isFor nUA) = true := by rw [hg]; decide +kernel
  unfold pickV
  rw [ha, ht]
  have e : (ofL nUA [g]).1 = true := by
    show (ofStep nUA (false, [], 0) g).1 = true
    unfold ofStep
    rw [if_pos hany]
  rw [if_pos ⟨rfl, e⟩]
  rfl
theorem pick_two (h g : S86) (hh : h.f0 = [mk [115, 116, 114, 97, 110, 103, 101, 114], mk [42]]) (hg : g.f0 = [nUA]) (ag : ByteArray) (ha : tokV ag.data.toList = [99, 114, 97, 119, 108, 101, 114]) : pickV [h, g] ag = ((ofStep nUA (false, [], 0) g).2.1.take 64, (ofStep nUA (false, [], 0) g).2.2) := by
  have ht : tokA ag = nUA := by unfold tokA; rw [ha]; rfl
  have hany : g.f0.any (isFor nUA) = true := by rw [hg]; decide +kernel
  have hno : ¬ h.f0.any (isFor nUA) = true := by rw [hh]; decide +kernel
  have e0 : ofL nUA [h, g] = ofStep nUA (false, [], 0) g := by
    show ofStep nUA (ofStep nUA (false, [], 0) h) g = _
    rw [show ofStep nUA (false, [], 0) h = (false, [], 0) by unfold ofStep; rw [if_neg hno]]
  have e : (ofL nUA [h, g]).1 = true := by
    rw [e0]
    unfold ofStep
    rw [if_pos hany]
  unfold pickV
  rw [ha, ht, if_pos ⟨rfl, e⟩, e0]
theorem cut_same (a : ByteArray) (h : a.size ≤ 4096) : (cut4096 a).data.toList = tpR a.data.toList := by
  show Lib.trimPrefix (a.extract 0 (min a.size 4096)).data.toList [239, 187, 191] = _
  rw [Nat.min_eq_left h, Lib.extract_data, List.drop_zero, List.take_of_length_le (by simp)]
  rfl
theorem tp_no (c : UInt8) (t : List UInt8) (h : c ≠ 239) : tpR (c :: t) = c :: t := by
  unfold tpR Lib.trimPrefix
  rw [if_neg]
  simp [Lib.hasPrefix]
  intro e; exact absurd e.symm h
theorem others (r o : List UInt8) (T A B agA agB : ByteArray) (hT : T.data.toList = r ++ 10 :: o) (hA : A.data.toList = tUA ++ 10 :: (r ++ 10 :: (tC0 ++ [10]))) (hB : B.data.toList = tST ++ 10 :: (tAL ++ 10 :: (o ++ 10 :: (tC9 ++ 10 :: (tUA ++ 10 :: (r ++ 10 :: (tC0 ++ [10])))))))
    (hs : r.length + o.length ≤ 1500) (hno : NoUA (parseV (cut4096 T).data.toList)) (ha : tokV agA.data.toList = [99, 114, 97, 119, 108, 101, 114]) (hb : tokV agB.data.toList = [99, 114, 97, 119, 108, 101, 114]) : readV 200 A agA = readV 200 B agB := by
  have sz : ∀ x : ByteArray, x.size = x.data.toList.length := fun x => by simp
  have lUA : tUA.length = 19 := rfl
  have lC0 : tC0.length = 14 := rfl
  have lC9 : tC9.length = 14 := rfl
  have lST : tST.length = 20 := rfl
  have lAL : tAL.length = 13 := rfl
  have hTs : T.size ≤ 4096 := by rw [sz, hT]; simp; omega
  have hAs : A.size ≤ 4096 := by rw [sz, hA]; simp [lUA, lC0]; omega
  have hBs : B.size ≤ 4096 := by rw [sz, hB]; simp [lUA, lC0, lC9, lST, lAL]; omega
  rw [cut_same T hTs, hT] at hno
  obtain ⟨h1, h2⟩ := noua_two r o hno
  obtain ⟨g, e1, e2, e3⟩ := groups_mine (parseV r) h1
  obtain ⟨h', e4, e5⟩ := groups_both (parseV r) (parseV o) h1 h2 g e3
  have gA : groupsOf A = [g] := by
    unfold groupsOf
    rw [cut_same A hAs, hA, show tpR (tUA ++ 10 :: (r ++ 10 :: (tC0 ++ [10]))) = tUA ++ 10 :: (r ++ 10 :: (tC0 ++ [10])) from tp_no _ _ (by decide), parse_mine]
    exact e2
  have gB : groupsOf B = [h', g] := by
    unfold groupsOf
    rw [cut_same B hBs, hB, show tpR (tST ++ 10 :: (tAL ++ 10 :: (o ++ 10 :: (tC9 ++ 10 :: (tUA ++ 10 :: (r ++ 10 :: (tC0 ++ [10]))))))) = tST ++ 10 :: (tAL ++ 10 :: (o ++ 10 :: (tC9 ++ 10 :: (tUA ++ 10 :: (r ++ 10 :: (tC0 ++ [10])))))) from tp_no _ _ (by decide), parse_both, parse_mine]
    exact e5
  rw [readV, readV, if_pos (by decide), if_pos (by decide), gA, gB, pick_one g e1 agA ha, pick_two h' g e4 e1 agB hb]
end Go.Proofs.YtdnaddignhjihaaDoor.Pure
namespace Go.Proofs.YtdnaddignhjihaaDoor.Pure
open Go Go.RowKit Go.Proofs.YtdnaddignhjihaaDoor.QBase Go.Proofs.YtdnaddignhjihaaDoor.QU Go.Proofs.YtdnaddignhjihaaDoor.Given Go.Proofs.YtdnaddignhjihaaDoorW.PrintWords Go.Proofs.YtdnaddignhjihaaDoorW.PrintLast
set_option linter.unusedVariables false
set_option linter.unusedSimpArgs false
theorem w1 (i : Nat) (h : i < 4611686018427387904) : wrap64 ((i : Int) + 1) = ((i + 1 : Nat) : Int) := by simp only [wrap64]; omega

theorem same_l0 (rs : List S30) (hn : rs.length < 1000000) (a b c d : Bool) (x y : Int) : ∀ (m i k : Nat), rs.length - i = m → i ≤ rs.length → m + 1 ≤ k → decorumref09_Same.l0 k (i : Int) a b rs x c d rs y = some true := by
  intro m
  induction m with
  | zero =>
    intro i k hm hi hk
    obtain ⟨k, rfl⟩ : ∃ k', k = k' + 1 := ⟨k - 1, by omega⟩
    simp only [decorumref09_Same.l0]
    rw [if_neg (by omega)]
  | succ m ih =>
    intro i k hm hi hk
    obtain ⟨k, rfl⟩ : ∃ k', k = k' + 1 := ⟨k - 1, by omega⟩
    simp only [decorumref09_Same.l0]
    rw [if_pos (by omega), if_pos (by omega), if_pos (by omega), if_neg (by simp), w1 i (by omega)]
    exact ih (i + 1) k (by omega) (by omega) (by omega)
theorem same_f (rs : List S30) (hn : rs.length < 1000000) (a b : Bool) (x : Int) (k : Nat) (hk : rs.length + 2 ≤ k) : decorumref09_Same.f k a b rs x a b rs x = some true := by
  obtain ⟨k, rfl⟩ : ∃ k', k = k' + 1 := ⟨k - 1, by omega⟩
  rw [decorumref09_Same.f, if_neg (by simp), if_neg (by simp), if_pos rfl]
  simp only [decorumref09_Same.j0]
  rw [if_neg (by simp)]
  exact same_l0 rs hn a b a b x x rs.length 0 k (by omega) (by omega) (by omega)
theorem pick_len (gs : List S86) (ag : ByteArray) : (pickV gs ag).1.length ≤ 64 := by
  unfold pickV
  split <;> (simp only [List.length_take]; omega)
theorem read_len (st : Int) (b ag : ByteArray) : (readV st b ag).2.2.1.length ≤ 64 := by
  unfold readV
  split
  · exact pick_len _ _
  split <;> simp
end Go.Proofs.YtdnaddignhjihaaDoor.Pure
namespace Go.Proofs.YtdnaddignhjihaaDoor.WalkRobotsOthers
set_option linter.unusedVariables false
open Go.RowKit Go.Proofs.YtdnaddignhjihaaDoor.Given Go.Proofs.YtdnaddignhjihaaDoor.QBase Go.Proofs.YtdnaddignhjihaaDoor.QU Go.Proofs.YtdnaddignhjihaaDoorW.PrintWords
theorem shp (w : World) (h : w.ShapedOpen Tryd.prog) : Shp w := Tryd.laysM145.s1_3 w h
theorem k35_cell {w : World} {A : Option Addr} {l : List S35} (h : Kd.C k35 w A l.length l) (i : Nat) (hi : i < l.length) : ∃ ad, A = some ad ∧ w.cell? (ad.add (i * 2)) = some (.string l[i].f0) := by
  obtain ⟨ad, rfl, hx0, hx1⟩ := at_T35 h (i : Int) (by omega) (by omega)
  have hrd : rd_T35 l (i : Int) = l[i] := by simp [rd_T35, hi]
  rw [hrd, Int.toNat_natCast] at hx0
  exact ⟨ad, rfl, hx0⟩
set_option maxHeartbeats 8000000 in
set_option maxRecDepth 1000000 in
theorem long (r o : ByteArray) (lg : Bool) (w : World) (hS : Shp w) (hs : ¬ r.size + o.size ≤ 1500) (wr : r.size ≤ 140737488351232) (wo : o.size ≤ 140737488351232) :
    Calls Tryd.prog 5 #[.string r, .string o, .bool lg] w fun e w' => e = .returned (.bool true) ∧ Below w.heap.size w w' := by
  have g : (1500 < (r.size : Int) + o.size) = True := eq_true (by omega)
  go_enter Tryd.func5, Tryd.ntmps5
  go_wp2_with (go_at_call 7; refine (awake_calls _ hS).mono ?_; rintro e w1 ⟨rfl, b1⟩)
  go_ret
  exact ⟨rfl, b1⟩
/-- Rules that a call of Read made, and what stays. -/
structure OtI (W : World) (A : Option Addr) (c : Nat) (rs q3 : List S30) (w : World) : Prop where
  eqs : rs = q3
  rls : Rls W.heap.size w A c rs
  below : Below W.heap.size W w
theorem OtI.one {W w : World} {A : Option Addr} {c : Nat} {rs q3 : List S30} (h : rs = q3) (hR : Rls W.heap.size w A c rs) (hb : Below W.heap.size W w) : OtI W A c rs q3 w := ⟨h, hR, hb⟩
theorem OtI.step {W w w' : World} {A : Option Addr} {c : Nat} {rs q3 : List S30} (h : OtI W A c rs q3 w) (hb : Below w.heap.size w w') : OtI W A c rs q3 w' := ⟨h.eqs, h.rls.below hb, below_step h.below hb⟩
theorem OtI.set {W w : World} {A : Option Addr} {c : Nat} {rs q3 : List S30} (h : OtI W A c rs q3 w) {g : Nat} {cells : Array Value} (hb : w.heap[g]? = some (.cells cells 26 (0, 0))) (hg : W.heap.size ≤ g) (j : Nat) (u : Value) : OtI W A c rs q3 (w.setCell ⟨g, j, none⟩ u) :=
  ⟨h.eqs, h.rls.set hb j u, below_set h.below hg⟩
/-- The same, laid in a box. -/
structure OtB (W : World) (b : Nat) (q1 q2 : Bool) (q4 : Int) (A : Option Addr) (c : Nat) (rs q3 : List S30) (w : World) : Prop where
  box : w.heap[b]? = some (.cells #[.bool q1, .bool q2, .slice A rs.length c, .int .i64 q4] 26 (0, 0))
  lo : W.heap.size ≤ b
  inv : OtI W A c rs q3 w
theorem OtB.step {W w w' : World} {b : Nat} {q1 q2 : Bool} {q4 : Int} {A : Option Addr} {c : Nat} {rs q3 : List S30} (h : OtB W b q1 q2 q4 A c rs q3 w) (hb : Below w.heap.size w w') : OtB W b q1 q2 q4 A c rs q3 w' := ⟨blk_below h.box hb, h.lo, h.inv.step hb⟩
theorem OtB.set {W w : World} {b : Nat} {q1 q2 : Bool} {q4 : Int} {A : Option Addr} {c : Nat} {rs q3 : List S30} (h : OtB W b q1 q2 q4 A c rs q3 w) {g : Nat} {cells : Array Value} (hb : w.heap[g]? = some (.cells cells 26 (0, 0))) (hg : W.heap.size ≤ g) (hne : b ≠ g) (j : Nat) (u : Value) :
    OtB W b q1 q2 q4 A c rs q3 (w.setCell ⟨g, j, none⟩ u) := ⟨blk_far h.box (p := ⟨g, j, none⟩) hne u, h.lo, h.inv.set hb hg j u⟩
theorem same_two (rs2 rs5 q3 : List S30) (h2 : rs2 = q3) (h5 : rs5 = q3) (hl : q3.length ≤ 64) (q1 q2 : Bool) (q4 : Int) : decorumref09_Same.f 100 q1 q2 rs2 q4 q1 q2 rs5 q4 = some true := by
  subst h2
  subst h5
  exact Pure.same_f _ (by omega) _ _ _ _ (by omega)
set_option maxHeartbeats 8000000 in
set_option maxRecDepth 1000000 in
theorem short (r o : ByteArray) (lg : Bool) (w : World) (hS : Shp w) (hs : r.size + o.size ≤ 1500) :
    Calls Tryd.prog 5 #[.string r, .string o, .bool lg] w fun e w' => e = .returned (.bool true) ∧ Below w.heap.size w w' := by
  have HS := Aside0.mk hS
  have g : (1500 < (r.size : Int) + o.size) = False := eq_false (by omega)
  have hT : ∃ T : ByteArray, T = r ++ (⟨#[10]⟩ : ByteArray) ++ o := ⟨_, rfl⟩
  obtain ⟨T, hT⟩ := hT
  have hTl : Aside0 (T.data.toList = r.data.toList ++ 10 :: o.data.toList) := ⟨by rw [hT]; simp⟩
  have hTs : T.size ≤ 140737488351232 := by rw [hT, ByteArray.size_append, ByteArray.size_append, show (⟨#[10]⟩ : ByteArray).size = 1 from rfl]; omega
  have hp := Aside0.mk (Pure.parse_f T hTs)
  obtain ⟨X, hX⟩ : ∃ X, X = Pure.parseV (cut4096 T).data.toList := ⟨_, rfl⟩
  rw [← hX] at hp
  have hXl : X.length < 1000000 := by rw [hX]; exact (Pure.parse_small _ (Pure.cut_4096 T)).1
  have HX := Aside0.mk hX
  clear hX hTs hS
  go_enter Tryd.func5, Tryd.ntmps5
  go_upto_region 4 with (go_at_call 13; rw [← hT]; refine (lines_Parse.calls T _ _ hp.out HS.out).mono ?_; rintro e w1 ⟨v1, rfl, hR1, b1⟩; obtain ⟨A1, c1, hv1⟩ := Kd.R_slice hR1; subst hv1; have hC1 := Aside0.mk (Kd.R_reads' hR1).2.2; have HB1 := Aside0.mk b1; clear b1 hR1)
  go_wp2
  go_loopw [8] (fun v8 wr => ∃ i : Nat, v8 = .int .i64 i ∧ i ≤ X.length ∧ Aside0 (Below w.heap.size w wr ∧ Below w1.heap.size w1 wr) ∧ Aside0 (∀ j (h : j < X.length), j < i → ¬ (X[j].f0.toList == sAgent) = true)) (fun v8 _ => X.length - (intOf v8).toNat)
  case atStart => exact ⟨0, rfl, by omega, ⟨HB1.out, Below.refl _ _⟩, ⟨by intro j h hj; omega⟩⟩
  case round =>
    obtain ⟨i, rfl, hi, HB, hno⟩ := hrel
    clear HB1
    by_cases hlt : i < X.length
    · have hlt' : ((i : Int) < (X.length : Int)) = True := eq_true (by omega)
      obtain ⟨ad, rfl, hc⟩ := k35_cell hC1.out i hlt
      have hc := (HB.out.2.cell (World.block_lt_of_cell? w1 _ hc)).trans hc
      obtain ⟨key, hk⟩ : ∃ k, k = X[i].f0 := ⟨_, rfl⟩
      rw [← hk] at hc
      cases hkey : (key.toList == sAgent) with
      | true =>
        have hkey' : (key.toList == [117, 115, 101, 114, 45, 97, 103, 101, 110, 116]) = true := hkey
        clear hk hkey
        go_wp2_with (go_at_call 7; refine (awake_calls _ (Shp.below HS.out HB.out.1)).mono ?_; rintro e w2 ⟨rfl, b2⟩)
        go_ret
        exact ⟨rfl, below_step HB.out.1 b2⟩
      | false =>
        have hkey' : (key.toList == [117, 115, 101, 114, 45, 97, 103, 101, 110, 116]) = false := hkey
        have hno2 : Aside0 (∀ j (h : j < X.length), j < i + 1 → ¬ (X[j].f0.toList == sAgent) = true) := ⟨by
          intro j h hj
          by_cases e : j = i
          · subst e; rw [← hk, hkey]; decide
          · exact hno.out j h (by omega)⟩
        clear hk hkey
        go_wp2
        go_roundw
        case rel => exact ⟨i + 1, by go_num, by omega, HB, hno2⟩
        case measure => simp [intOf]; omega
    · have hlt' : ((i : Int) < (X.length : Int)) = False := eq_false (by omega)
      obtain rfl : i = X.length := by omega
      have hnoua : Aside0 (Pure.NoUA (Pure.parseV (cut4096 T).data.toList)) := ⟨by
        rw [← HX.out]
        intro x hx
        obtain ⟨j, hj, rfl⟩ := List.getElem_of_mem hx
        exact hno.out j hj (by omega)⟩
      cases lg with
      | true =>
        go_upto_region 13 with fail
        generalize hA : ((⟨#[117, 115, 101, 114, 45, 97, 103, 101, 110, 116, 58, 32, 67, 114, 97, 119, 108, 101, 114, 10]⟩ : ByteArray) ++ r ++ (⟨#[10, 99, 114, 97, 119, 108, 45, 100, 101, 108, 97, 121, 58, 32, 48, 10]⟩ : ByteArray)) = A at *
        have hAl : A.data.toList = Pure.tUA ++ 10 :: (r.data.toList ++ 10 :: (Pure.tC0 ++ [10])) := by rw [← hA]; simp [Pure.tUA, Pure.tC0]
        have hAs : A.size ≤ 2000 := by rw [← hA, ByteArray.size_append, ByteArray.size_append, show ((⟨#[117, 115, 101, 114, 45, 97, 103, 101, 110, 116, 58, 32, 67, 114, 97, 119, 108, 101, 114, 10]⟩ : ByteArray)).size = 20 from rfl, show ((⟨#[10, 99, 114, 97, 119, 108, 45, 100, 101, 108, 97, 121, 58, 32, 48, 10]⟩ : ByteArray)).size = 16 from rfl]; omega
        obtain ⟨Bt, hB⟩ : ∃ Bt, (⟨#[117, 115, 101, 114, 45, 97, 103, 101, 110, 116, 58, 32, 115, 116, 114, 97, 110, 103, 101, 114, 10, 117, 115, 101, 114, 45, 97, 103, 101, 110, 116, 58, 32, 42, 10]⟩ : ByteArray) ++ o ++ (⟨#[10, 99, 114, 97, 119, 108, 45, 100, 101, 108, 97, 121, 58, 32, 57, 10]⟩ : ByteArray) ++ A = Bt := ⟨_, rfl⟩
        have hBl : Bt.data.toList = Pure.tST ++ 10 :: (Pure.tAL ++ 10 :: (o.data.toList ++ 10 :: (Pure.tC9 ++ 10 :: (Pure.tUA ++ 10 :: (r.data.toList ++ 10 :: (Pure.tC0 ++ [10])))))) := by rw [← hB]; simp [Pure.tST, Pure.tAL, Pure.tC9, hAl]
        have hBs : Bt.size ≤ 6000 := by rw [← hB, ByteArray.size_append, ByteArray.size_append, ByteArray.size_append, show ((⟨#[117, 115, 101, 114, 45, 97, 103, 101, 110, 116, 58, 32, 115, 116, 114, 97, 110, 103, 101, 114, 10, 117, 115, 101, 114, 45, 97, 103, 101, 110, 116, 58, 32, 42, 10]⟩ : ByteArray)).size = 35 from rfl, show ((⟨#[10, 99, 114, 97, 119, 108, 45, 100, 101, 108, 97, 121, 58, 32, 57, 10]⟩ : ByteArray)).size = 16 from rfl]; omega
        have hoth := Pure.others r.data.toList o.data.toList T A Bt ((⟨#[67, 82, 65, 87, 76, 69, 82]⟩ : ByteArray) ++ (⟨#[47, 49, 46, 48]⟩ : ByteArray)) (⟨#[67, 82, 65, 87, 76, 69, 82]⟩ : ByteArray) hTl.out hAl hBl (by simpa using hs) hnoua.out (by decide +kernel) (by decide +kernel)
        obtain ⟨q, hq⟩ : ∃ q, q = readV 200 Bt (⟨#[67, 82, 65, 87, 76, 69, 82]⟩ : ByteArray) := ⟨_, rfl⟩
        obtain ⟨q1, q2, q3, q4⟩ := q
        have hql : q3.length ≤ 64 := by have := Pure.read_len 200 Bt (⟨#[67, 82, 65, 87, 76, 69, 82]⟩ : ByteArray); rw [← hq] at this; exact this
        have hra := fun (w1 : World) (h : Shp w1) => read_calls 200 A ((⟨#[67, 82, 65, 87, 76, 69, 82]⟩ : ByteArray) ++ (⟨#[47, 49, 46, 48]⟩ : ByteArray)) w1 (by omega) (by decide) h
        have hrb := fun (w1 : World) (h : Shp w1) => read_calls 200 Bt (⟨#[67, 82, 65, 87, 76, 69, 82]⟩ : ByteArray) w1 (by omega) (by decide) h
        rw [hoth, ← hq] at hra
        rw [← hq] at hrb
        have HRa := Aside0.mk hra
        have HRb := Aside0.mk hrb
        clear hoth hq hra hrb hAl hBl hBs hA hC1 hno hnoua
        go_upto_region 14 with (first
          | (go_at_call 9; refine (HRa.out _ (Shp.below HS.out HB.out.1)).mono ?_; rintro e w2 ⟨A2, c2, rs2, rfl, hrs0, hR0, b2⟩; have HI2 := Aside0.mk (OtI.one hrs0 (hR0.lower HB.out.1.size) (below_step HB.out.1 b2)); clear HB hrs0 hR0 b2)
          | ((with_reducible refine gate_dst (N := 11) rfl ?_); refine box_event ?hg (N := 11) ?hd (cs := #[.bool false, .bool false, .slice none 0 0, .int .i64 0]) (t := 26) ?hr ?_; (case hd => rfl); (case hg => rfl); (case hr => first | (go_simp; done) | (go_simp; rfl)); intro bA hb5 w3 hbox hb; have HI3 := Aside0.mk (HI2.out.step hb); have Hbx := Aside0.mk hbox; have hf50 := blk_frozen hbox 0; have hf51 := blk_frozen hbox 1; have hf52 := blk_frozen hbox 2; have hf53 := blk_frozen hbox 3; have hz0 := blk_cell hbox 0; have hz1 := blk_cell hbox 1; have hz2 := blk_cell hbox 2; have hz3 := blk_cell hbox 3; simp only [List.getElem?_toArray, List.getElem?_cons_zero, List.getElem?_cons_succ] at hz0 hz1 hz2 hz3; have hlb := Aside0.mk (by rw [hb5]; exact HI2.out.below.size : w.heap.size ≤ bA);  clear HI2 hbox hb hb5))
        have x0 := blk_put Hbx.out 0 (.bool q1) (cs' := #[.bool q1, .bool false, .slice none 0 0, .int .i64 0]) rfl
        have x1 := blk_put x0 1 (.bool q2) (cs' := #[.bool q1, .bool q2, .slice none 0 0, .int .i64 0]) rfl
        have x2 := blk_put x1 2 (.slice A2 rs2.length c2) (cs' := #[.bool q1, .bool q2, .slice A2 rs2.length c2, .int .i64 0]) rfl
        have HBa := Aside0.mk (OtB.mk (blk_put x2 3 (.int .i64 q4) (cs' := #[.bool q1, .bool q2, .slice A2 rs2.length c2, .int .i64 q4]) rfl) hlb.out ((((HI3.out.set Hbx.out hlb.out 0 (.bool q1)).set x0 hlb.out 1 (.bool q2)).set x1 hlb.out 2 (.slice A2 rs2.length c2)).set x2 hlb.out 3 (.int .i64 q4)))
        clear x0 x1 x2 HI3 Hbx hf50 hf51 hf52 hf53 hz0 hz1 hz2 hz3 hlb
        generalize ((((w3.setCell ⟨bA, 0, none⟩ (.bool q1)).setCell ⟨bA, 1, none⟩ (.bool q2)).setCell ⟨bA, 2, none⟩ (.slice A2 rs2.length c2)).setCell ⟨bA, 3, none⟩ (.int .i64 q4)) = w4 at *
        go_upto_region 15 with (first
          | (go_at_call 9; refine (HRb.out _ (Shp.below HS.out HBa.out.inv.below)).mono ?_; rintro e w5 ⟨A5, c5, rs5, rfl, hrs0, hR0, b2⟩; have HBa5 := Aside0.mk (HBa.out.step b2); have HI5 := Aside0.mk (OtI.one hrs0 (hR0.lower HBa.out.inv.below.size) (below_step HBa.out.inv.below b2)); clear HBa hrs0 hR0 b2)
          | ((with_reducible refine gate_dst (N := 12) rfl ?_); refine box_event ?hg (N := 12) ?hd (cs := #[.bool false, .bool false, .slice none 0 0, .int .i64 0]) (t := 26) ?hr ?_; (case hd => rfl); (case hg => rfl); (case hr => first | (go_simp; done) | (go_simp; rfl)); intro bB hb5 w3 hbox hb; have HI3 := Aside0.mk (HI5.out.step hb); have Hbx := Aside0.mk hbox; have hf50 := blk_frozen hbox 0; have hf51 := blk_frozen hbox 1; have hf52 := blk_frozen hbox 2; have hf53 := blk_frozen hbox 3; have hz0 := blk_cell hbox 0; have hz1 := blk_cell hbox 1; have hz2 := blk_cell hbox 2; have hz3 := blk_cell hbox 3; simp only [List.getElem?_toArray, List.getElem?_cons_zero, List.getElem?_cons_succ] at hz0 hz1 hz2 hz3; have hlb := Aside0.mk (by rw [hb5]; exact HI5.out.below.size : w.heap.size ≤ bB); have HBa6 := Aside0.mk (HBa5.out.step hb); have hne := Aside0.mk (Nat.ne_of_lt (Nat.lt_of_lt_of_eq (blk_lt HBa5.out.box) hb5.symm)); clear HI5 HBa5 hbox hb hb5))
        have x0 := blk_put Hbx.out 0 (.bool q1) (cs' := #[.bool q1, .bool false, .slice none 0 0, .int .i64 0]) rfl
        have x1 := blk_put x0 1 (.bool q2) (cs' := #[.bool q1, .bool q2, .slice none 0 0, .int .i64 0]) rfl
        have x2 := blk_put x1 2 (.slice A5 rs5.length c5) (cs' := #[.bool q1, .bool q2, .slice A5 rs5.length c5, .int .i64 0]) rfl
        have HBb := Aside0.mk (OtB.mk (blk_put x2 3 (.int .i64 q4) (cs' := #[.bool q1, .bool q2, .slice A5 rs5.length c5, .int .i64 q4]) rfl) hlb.out ((((HI3.out.set Hbx.out hlb.out 0 (.bool q1)).set x0 hlb.out 1 (.bool q2)).set x1 hlb.out 2 (.slice A5 rs5.length c5)).set x2 hlb.out 3 (.int .i64 q4)))
        have HBa := Aside0.mk ((((HBa6.out.set Hbx.out hlb.out hne.out 0 (.bool q1)).set x0 hlb.out hne.out 1 (.bool q2)).set x1 hlb.out hne.out 2 (.slice A5 rs5.length c5)).set x2 hlb.out hne.out 3 (.int .i64 q4))
        clear x0 x1 x2 HI3 Hbx HBa6 hf50 hf51 hf52 hf53 hz0 hz1 hz2 hz3 hlb hne
        generalize ((((w3.setCell ⟨bB, 0, none⟩ (.bool q1)).setCell ⟨bB, 1, none⟩ (.bool q2)).setCell ⟨bB, 2, none⟩ (.slice A5 rs5.length c5)).setCell ⟨bB, 3, none⟩ (.int .i64 q4)) = w6 at *
        have hsm := Aside0.mk (same_two rs2 rs5 q3 HBa.out.inv.eqs HBb.out.inv.eqs hql q1 q2 q4)
        go_wp2_with (first
          | (go_at_call 7; refine (awake_calls _ (Shp.below HS.out HBb.out.inv.below)).mono ?_; rintro e w7 ⟨rfl, b7⟩; have Ha8 := Aside0.mk (HBa.out.step b7); have Hb8 := Aside0.mk (HBb.out.step b7); have a0 := blk_cell Ha8.out.box 0; have a1 := blk_cell Ha8.out.box 1; have a2 := blk_cell Ha8.out.box 2; have a3 := blk_cell Ha8.out.box 3; have b0 := blk_cell Hb8.out.box 0; have b1 := blk_cell Hb8.out.box 1; have b2 := blk_cell Hb8.out.box 2; have b3 := blk_cell Hb8.out.box 3; simp only [List.getElem?_toArray, List.getElem?_cons_zero, List.getElem?_cons_succ] at a0 a1 a2 a3 b0 b1 b2 b3; clear HBa HBb b7)
          | (go_at_call 8; refine (decorumref09_Same.calls 100 q1 q2 A2 c2 rs2 q4 q1 q2 A5 c5 rs5 q4 true _ Ha8.out.inv.rls.C Ha8.out.inv.rls.le Hb8.out.inv.rls.C Hb8.out.inv.rls.le hsm.out).mono ?_; rintro e w9 ⟨rfl, b9⟩; have HB9 := Aside0.mk (below_step Hb8.out.inv.below b9); clear Ha8 Hb8 a0 a1 a2 a3 b0 b1 b2 b3 b9))
        go_ret
        exact ⟨rfl, HB9.out⟩
      | false =>
        go_upto_region 13 with fail
        generalize hA : ((⟨#[117, 115, 101, 114, 45, 97, 103, 101, 110, 116, 58, 32, 67, 114, 97, 119, 108, 101, 114, 10]⟩ : ByteArray) ++ r ++ (⟨#[10, 99, 114, 97, 119, 108, 45, 100, 101, 108, 97, 121, 58, 32, 48, 10]⟩ : ByteArray)) = A at *
        have hAl : A.data.toList = Pure.tUA ++ 10 :: (r.data.toList ++ 10 :: (Pure.tC0 ++ [10])) := by rw [← hA]; simp [Pure.tUA, Pure.tC0]
        have hAs : A.size ≤ 2000 := by rw [← hA, ByteArray.size_append, ByteArray.size_append, show ((⟨#[117, 115, 101, 114, 45, 97, 103, 101, 110, 116, 58, 32, 67, 114, 97, 119, 108, 101, 114, 10]⟩ : ByteArray)).size = 20 from rfl, show ((⟨#[10, 99, 114, 97, 119, 108, 45, 100, 101, 108, 97, 121, 58, 32, 48, 10]⟩ : ByteArray)).size = 16 from rfl]; omega
        obtain ⟨Bt, hB⟩ : ∃ Bt, (⟨#[117, 115, 101, 114, 45, 97, 103, 101, 110, 116, 58, 32, 115, 116, 114, 97, 110, 103, 101, 114, 10, 117, 115, 101, 114, 45, 97, 103, 101, 110, 116, 58, 32, 42, 10]⟩ : ByteArray) ++ o ++ (⟨#[10, 99, 114, 97, 119, 108, 45, 100, 101, 108, 97, 121, 58, 32, 57, 10]⟩ : ByteArray) ++ A = Bt := ⟨_, rfl⟩
        have hBl : Bt.data.toList = Pure.tST ++ 10 :: (Pure.tAL ++ 10 :: (o.data.toList ++ 10 :: (Pure.tC9 ++ 10 :: (Pure.tUA ++ 10 :: (r.data.toList ++ 10 :: (Pure.tC0 ++ [10])))))) := by rw [← hB]; simp [Pure.tST, Pure.tAL, Pure.tC9, hAl]
        have hBs : Bt.size ≤ 6000 := by rw [← hB, ByteArray.size_append, ByteArray.size_append, ByteArray.size_append, show ((⟨#[117, 115, 101, 114, 45, 97, 103, 101, 110, 116, 58, 32, 115, 116, 114, 97, 110, 103, 101, 114, 10, 117, 115, 101, 114, 45, 97, 103, 101, 110, 116, 58, 32, 42, 10]⟩ : ByteArray)).size = 35 from rfl, show ((⟨#[10, 99, 114, 97, 119, 108, 45, 100, 101, 108, 97, 121, 58, 32, 57, 10]⟩ : ByteArray)).size = 16 from rfl]; omega
        have hoth := Pure.others r.data.toList o.data.toList T A Bt ((⟨#[99, 114, 97, 119, 108, 101, 114]⟩ : ByteArray) ++ (⟨#[47, 49, 46, 48]⟩ : ByteArray)) (⟨#[99, 114, 97, 119, 108, 101, 114]⟩ : ByteArray) hTl.out hAl hBl (by simpa using hs) hnoua.out (by decide +kernel) (by decide +kernel)
        obtain ⟨q, hq⟩ : ∃ q, q = readV 200 Bt (⟨#[99, 114, 97, 119, 108, 101, 114]⟩ : ByteArray) := ⟨_, rfl⟩
        obtain ⟨q1, q2, q3, q4⟩ := q
        have hql : q3.length ≤ 64 := by have := Pure.read_len 200 Bt (⟨#[99, 114, 97, 119, 108, 101, 114]⟩ : ByteArray); rw [← hq] at this; exact this
        have hra := fun (w1 : World) (h : Shp w1) => read_calls 200 A ((⟨#[99, 114, 97, 119, 108, 101, 114]⟩ : ByteArray) ++ (⟨#[47, 49, 46, 48]⟩ : ByteArray)) w1 (by omega) (by decide) h
        have hrb := fun (w1 : World) (h : Shp w1) => read_calls 200 Bt (⟨#[99, 114, 97, 119, 108, 101, 114]⟩ : ByteArray) w1 (by omega) (by decide) h
        rw [hoth, ← hq] at hra
        rw [← hq] at hrb
        have HRa := Aside0.mk hra
        have HRb := Aside0.mk hrb
        clear hoth hq hra hrb hAl hBl hBs hA hC1 hno hnoua
        go_upto_region 14 with (first
          | (go_at_call 9; refine (HRa.out _ (Shp.below HS.out HB.out.1)).mono ?_; rintro e w2 ⟨A2, c2, rs2, rfl, hrs0, hR0, b2⟩; have HI2 := Aside0.mk (OtI.one hrs0 (hR0.lower HB.out.1.size) (below_step HB.out.1 b2)); clear HB hrs0 hR0 b2)
          | ((with_reducible refine gate_dst (N := 11) rfl ?_); refine box_event ?hg (N := 11) ?hd (cs := #[.bool false, .bool false, .slice none 0 0, .int .i64 0]) (t := 26) ?hr ?_; (case hd => rfl); (case hg => rfl); (case hr => first | (go_simp; done) | (go_simp; rfl)); intro bA hb5 w3 hbox hb; have HI3 := Aside0.mk (HI2.out.step hb); have Hbx := Aside0.mk hbox; have hf50 := blk_frozen hbox 0; have hf51 := blk_frozen hbox 1; have hf52 := blk_frozen hbox 2; have hf53 := blk_frozen hbox 3; have hz0 := blk_cell hbox 0; have hz1 := blk_cell hbox 1; have hz2 := blk_cell hbox 2; have hz3 := blk_cell hbox 3; simp only [List.getElem?_toArray, List.getElem?_cons_zero, List.getElem?_cons_succ] at hz0 hz1 hz2 hz3; have hlb := Aside0.mk (by rw [hb5]; exact HI2.out.below.size : w.heap.size ≤ bA);  clear HI2 hbox hb hb5))
        have x0 := blk_put Hbx.out 0 (.bool q1) (cs' := #[.bool q1, .bool false, .slice none 0 0, .int .i64 0]) rfl
        have x1 := blk_put x0 1 (.bool q2) (cs' := #[.bool q1, .bool q2, .slice none 0 0, .int .i64 0]) rfl
        have x2 := blk_put x1 2 (.slice A2 rs2.length c2) (cs' := #[.bool q1, .bool q2, .slice A2 rs2.length c2, .int .i64 0]) rfl
        have HBa := Aside0.mk (OtB.mk (blk_put x2 3 (.int .i64 q4) (cs' := #[.bool q1, .bool q2, .slice A2 rs2.length c2, .int .i64 q4]) rfl) hlb.out ((((HI3.out.set Hbx.out hlb.out 0 (.bool q1)).set x0 hlb.out 1 (.bool q2)).set x1 hlb.out 2 (.slice A2 rs2.length c2)).set x2 hlb.out 3 (.int .i64 q4)))
        clear x0 x1 x2 HI3 Hbx hf50 hf51 hf52 hf53 hz0 hz1 hz2 hz3 hlb
        generalize ((((w3.setCell ⟨bA, 0, none⟩ (.bool q1)).setCell ⟨bA, 1, none⟩ (.bool q2)).setCell ⟨bA, 2, none⟩ (.slice A2 rs2.length c2)).setCell ⟨bA, 3, none⟩ (.int .i64 q4)) = w4 at *
        go_upto_region 15 with (first
          | (go_at_call 9; refine (HRb.out _ (Shp.below HS.out HBa.out.inv.below)).mono ?_; rintro e w5 ⟨A5, c5, rs5, rfl, hrs0, hR0, b2⟩; have HBa5 := Aside0.mk (HBa.out.step b2); have HI5 := Aside0.mk (OtI.one hrs0 (hR0.lower HBa.out.inv.below.size) (below_step HBa.out.inv.below b2)); clear HBa hrs0 hR0 b2)
          | ((with_reducible refine gate_dst (N := 12) rfl ?_); refine box_event ?hg (N := 12) ?hd (cs := #[.bool false, .bool false, .slice none 0 0, .int .i64 0]) (t := 26) ?hr ?_; (case hd => rfl); (case hg => rfl); (case hr => first | (go_simp; done) | (go_simp; rfl)); intro bB hb5 w3 hbox hb; have HI3 := Aside0.mk (HI5.out.step hb); have Hbx := Aside0.mk hbox; have hf50 := blk_frozen hbox 0; have hf51 := blk_frozen hbox 1; have hf52 := blk_frozen hbox 2; have hf53 := blk_frozen hbox 3; have hz0 := blk_cell hbox 0; have hz1 := blk_cell hbox 1; have hz2 := blk_cell hbox 2; have hz3 := blk_cell hbox 3; simp only [List.getElem?_toArray, List.getElem?_cons_zero, List.getElem?_cons_succ] at hz0 hz1 hz2 hz3; have hlb := Aside0.mk (by rw [hb5]; exact HI5.out.below.size : w.heap.size ≤ bB); have HBa6 := Aside0.mk (HBa5.out.step hb); have hne := Aside0.mk (Nat.ne_of_lt (Nat.lt_of_lt_of_eq (blk_lt HBa5.out.box) hb5.symm)); clear HI5 HBa5 hbox hb hb5))
        have x0 := blk_put Hbx.out 0 (.bool q1) (cs' := #[.bool q1, .bool false, .slice none 0 0, .int .i64 0]) rfl
        have x1 := blk_put x0 1 (.bool q2) (cs' := #[.bool q1, .bool q2, .slice none 0 0, .int .i64 0]) rfl
        have x2 := blk_put x1 2 (.slice A5 rs5.length c5) (cs' := #[.bool q1, .bool q2, .slice A5 rs5.length c5, .int .i64 0]) rfl
        have HBb := Aside0.mk (OtB.mk (blk_put x2 3 (.int .i64 q4) (cs' := #[.bool q1, .bool q2, .slice A5 rs5.length c5, .int .i64 q4]) rfl) hlb.out ((((HI3.out.set Hbx.out hlb.out 0 (.bool q1)).set x0 hlb.out 1 (.bool q2)).set x1 hlb.out 2 (.slice A5 rs5.length c5)).set x2 hlb.out 3 (.int .i64 q4)))
        have HBa := Aside0.mk ((((HBa6.out.set Hbx.out hlb.out hne.out 0 (.bool q1)).set x0 hlb.out hne.out 1 (.bool q2)).set x1 hlb.out hne.out 2 (.slice A5 rs5.length c5)).set x2 hlb.out hne.out 3 (.int .i64 q4))
        clear x0 x1 x2 HI3 Hbx HBa6 hf50 hf51 hf52 hf53 hz0 hz1 hz2 hz3 hlb hne
        generalize ((((w3.setCell ⟨bB, 0, none⟩ (.bool q1)).setCell ⟨bB, 1, none⟩ (.bool q2)).setCell ⟨bB, 2, none⟩ (.slice A5 rs5.length c5)).setCell ⟨bB, 3, none⟩ (.int .i64 q4)) = w6 at *
        have hsm := Aside0.mk (same_two rs2 rs5 q3 HBa.out.inv.eqs HBb.out.inv.eqs hql q1 q2 q4)
        go_wp2_with (first
          | (go_at_call 7; refine (awake_calls _ (Shp.below HS.out HBb.out.inv.below)).mono ?_; rintro e w7 ⟨rfl, b7⟩; have Ha8 := Aside0.mk (HBa.out.step b7); have Hb8 := Aside0.mk (HBb.out.step b7); have a0 := blk_cell Ha8.out.box 0; have a1 := blk_cell Ha8.out.box 1; have a2 := blk_cell Ha8.out.box 2; have a3 := blk_cell Ha8.out.box 3; have b0 := blk_cell Hb8.out.box 0; have b1 := blk_cell Hb8.out.box 1; have b2 := blk_cell Hb8.out.box 2; have b3 := blk_cell Hb8.out.box 3; simp only [List.getElem?_toArray, List.getElem?_cons_zero, List.getElem?_cons_succ] at a0 a1 a2 a3 b0 b1 b2 b3; clear HBa HBb b7)
          | (go_at_call 8; refine (decorumref09_Same.calls 100 q1 q2 A2 c2 rs2 q4 q1 q2 A5 c5 rs5 q4 true _ Ha8.out.inv.rls.C Ha8.out.inv.rls.le Hb8.out.inv.rls.C Hb8.out.inv.rls.le hsm.out).mono ?_; rintro e w9 ⟨rfl, b9⟩; have HB9 := Aside0.mk (below_step Hb8.out.inv.below b9); clear Ha8 Hb8 a0 a1 a2 a3 b0 b1 b2 b3 b9))
        go_ret
        exact ⟨rfl, HB9.out⟩
theorem walk (a0 a1 : ByteArray) (a2 : Bool) (w : World) (w0 : a0.size ≤ 140737488351232) (w1 : a1.size ≤ 140737488351232) (hsh : w.ShapedOpen Tryd.prog) :
    Calls Tryd.prog 5 #[.string a0, .string a1, .bool a2] w fun e w' => e = .returned (.bool true) ∧ Below w.heap.size w w' := by
  by_cases h : a0.size + a1.size ≤ 1500
  · exact short a0 a1 a2 w (shp w hsh) h
  · exact long a0 a1 a2 w (shp w hsh) h w0 w1
end Go.Proofs.YtdnaddignhjihaaDoor.WalkRobotsOthers
namespace Go.Proofs.YtdnaddignhjihaaDoor.Lift
open Go
variable {H : Type} {enc : TypeId × Value → H}
theorem lift {a : Assume} {C : Checked} {os : Os} {f : FuncId} {fn : Func} {s : ChangeSpec} {conds : List PathCond} {apart fresh handsOn again : Bool} {X : World → Array Value → Prop}
    (own : ownKnob C.prog.godebug = none) (started : os.Started) (noInit : C.prog.inits.idxOf? f = none) (hfn : C.prog.funcs[f]? = some fn)
    (witness : ∃ (w : World) (tape : Tape) (i : Input), w.os = os ∧ (w.forCall tape i).Shaped C.prog ∧ i.vars = [] ∧ Input.okWide C.prog (w.forCall tape i) .any w.heap.size f i ∧
      ((s.pre enc C.prog fn conds apart (w.forCall tape i).memory i.args ∧ X (w.forCall tape i).memory i.args) ∧ sizedMet enc C.prog fn (OpenSpec.ofChange s) apart (w.forCall tape i).memory i.args) ∧ a.holds C.prog (lone (Frame.enter C.prog f i.args .normal) [] (w.forCall tape i)))
    (contract : ∀ (W : World) (base : Nat) (args : Array Value) (ds gs : List (DataW H)) (before : List MemPlace),
      (∀ (j : Nat) t v, fn.params[j]? = some t → args[j]? = some v → Value.okWide C.prog W .any base t v) →
      DataW.Whole enc C.prog fn.params.toList s.vars apart W args.toList ds gs before →
      conds.all (PathCond.test C.prog ⟨fn.params.toList, ds, s.plain.varTypes C.prog, gs⟩) = true →
      (DataW.weightsEach C.prog (fn.params.toList ++ s.plain.varTypes C.prog) (ds ++ gs)).all (· ≤ reachBytes) = true →
      W.ShapedOpen C.prog →
      Calls C.prog f args W fun e W' => ∃ v, e = .returned v ∧ s.post enc C.prog fn apart fresh handsOn again W args v W') :
    ReturnsInHanded a C os f .any (fun w args => (s.pre enc C.prog fn conds apart w args ∧ X w args) ∧ sizedMet enc C.prog fn (OpenSpec.ofChange s) apart w args) (s.post enc C.prog fn apart fresh handsOn again) := by
  refine returnsInHanded_of_calls own started noInit witness ?_
  intro w tape i _ hsh _ hok hpre _
  obtain ⟨_, _, _, g, hg, _, _, _, _, hval⟩ := hok
  obtain rfl : g = fn := Option.some.inj (hg.symm.trans hfn)
  obtain ⟨⟨⟨ds, gs, before, hw, hc⟩, _⟩, hz⟩ := hpre
  exact (contract (w.forCall tape i) w.heap.size i.args ds gs before hval (DataW.Whole.of_heap (w' := w.forCall tape i) (by rfl) hw) hc (hz.weights hw) hsh).mono fun e W' ⟨v, he, hp⟩ => by
    subst he
    exact ChangeSpec.post_blind hp
end Go.Proofs.YtdnaddignhjihaaDoor.Lift
namespace Go.Proofs.YtdnaddignhjihaaDoor.robotsOthers
open Go.ChangeShapes Go.WideShapes Go.ChangeAt Go.RowKit
open Go.ChangeMaps (open_string shut_string)
set_option linter.unusedVariables false
theorem own : ownKnob Tryd.prog.godebug = none := by kernel_rfl
set_option maxRecDepth 100000 in
theorem lifted (os : Os) (started : os.Started) (H : Type) (enc : TypeId × Value → H) :
    ReturnsInHanded {} Tryd.checked os 5 .any (fun w args => (Rows.robotsOthersSpec.pre enc Tryd.prog Tryd.f5 Rows.robotsOthersRow.domain false w args ∧ laidMetH Tryd.prog Rows.robotsOthersRow.laid w) ∧ sizedMet enc Tryd.prog Tryd.f5 (OpenSpec.ofChange Rows.robotsOthersSpec) false w args) (Rows.robotsOthersSpec.post enc Tryd.prog Tryd.f5 false true false false) := by
  refine Lift.lift (C := Tryd.checked) (X := fun w _ => laidMetH Tryd.prog Rows.robotsOthersRow.laid w) own started (by kernel_rfl) Tryd.func5
    (ChangeSpec.witness_shaped (enc := enc) (C := Tryd.checked) (os := os) (X := fun w _ => laidMetH Tryd.prog Rows.robotsOthersRow.laid w) false (World.laidAll Tryd.prog os Rows.robotsOthersRow.laid) #[.string ByteArray.empty, .string ByteArray.empty, .bool false] 8 (World.laidAll_os _ _ _)
      (World.shaped_of_ZipB (by kernel_rfl) (by kernel_rfl)) (by kernel_rfl) (by kernel_rfl) (by kernel_rfl)
      (by rw [MakeChecks.laidMetH_plain _ _ _ (by kernel_rfl)]; exact laidMet_laidAll _ (by kernel_rfl) (by kernel_rfl))) ?_
  intro W base args ds gs before hval0 hW hcnd hsz0 hsh
  have hsz : (DataW.weightsEach Tryd.prog (Tryd.f5.params.toList ++ Rows.robotsOthersSpec.plain.varTypes Tryd.prog) (ds ++ gs)).all (· ≤ reachBytes) = true := hsz0
  have hval : ∀ (j : Nat) t v, Tryd.f5.params[j]? = some t → args[j]? = some v → Value.okWide Tryd.prog W .any base t v := hval0
  have hW' := hW
  obtain ⟨p, q, hA0, hV, rfl, hfz, hnd⟩ := hW
  have hA : DataW.TrodAll enc Tryd.prog W 0 (fun _ => true) true Tryd.f5.params.toList args.toList ds p := hA0
  rw [Tryd.params5] at hA hval hsz
  obtain ⟨v0, vs0, d0, ds0, p0, q0, hargs, rfl, rfl, h0, r0⟩ := trodAll_cons hA
  obtain ⟨v1, vs1, d1, ds1, p1, q1, rfl, rfl, rfl, h1, r1⟩ := trodAll_cons r0
  obtain ⟨v2, vs2, d2, ds2, p2, q2, rfl, rfl, rfl, h2, r2⟩ := trodAll_cons r1
  obtain ⟨rfl, rfl, rfl⟩ := trodAll_nil r2
  obtain rfl : args = #[v0, v1, v2] := by cases args; simp_all
  obtain ⟨rfl, rfl⟩ := trodVars_none hV
  obtain ⟨a0, rfl, rfl, rfl, y0⟩ := open_string Tryd.underlying9 (hval 0 9 v0 rfl rfl) h0
  have w0 : a0.size ≤ 140737488351232 := by
    have z := sized_string hsz (j := 0) (t := 9) rfl rfl
    rw [Array.length_toList] at z
    exact z
  obtain ⟨a1, rfl, rfl, rfl, y1⟩ := open_string Tryd.underlying9 (hval 1 9 v1 rfl rfl) h1
  have w1 : a1.size ≤ 140737488351232 := by
    have z := sized_string hsz (j := 1) (t := 9) rfl rfl
    rw [Array.length_toList] at z
    exact z
  obtain ⟨a2, rfl, rfl, rfl⟩ := open_bool Tryd.underlying4 (hval 2 4 v2 rfl rfl) h2
  clear hA0 hval0 hsz0 hsz hval
  refine (WalkRobotsOthers.walk a0 a1 a2 W w0 w1 hsh).mono fun e W' ⟨he, bel⟩ => ?_
  subst he
  exact ⟨_, rfl, _, _, _, [], _, [], hW', trodAll_mk1 (shut_bool Tryd.underlying4 _), (trodAll_cons_mk (shut_string Tryd.underlying9 y0) (trodAll_cons_mk (shut_string Tryd.underlying9 y1) (trodAll_cons_mk (shut_bool Tryd.underlying4 _) trodAll_mk0))), rfl, bel.frame _, fun h => by cases h⟩
theorem over : Rows.robotsOthersRow.holds Tryd.pinned (OpenSpec.ofChange Rows.robotsOthersSpec) :=
  OpenClaim.holds_of_wide 5 Tryd.f5 rfl rfl rfl rfl rfl rfl rfl ⟨rfl, rfl, rfl, rfl, rfl⟩ rfl rfl rfl rfl rfl (by kernel_rfl) Tryd.func5 (by kernel_rfl)
    (of_decide_eq_true (by kernel_rfl)) (by unfold Func.isWrapper; first | (rw [if_pos (by decide +kernel)]; kernel_rfl) | (rw [if_neg (by decide +kernel)]; exact ⟨rfl, rfl⟩))
    (fun os started H enc _ => lifted os started H enc)
theorem proved : Rows.RobotsOthersSaid := over
theorem card : Rows.RobotsOthersCardSaid :=
  Claim7.holds_tied_plain_at .later [] [.data, .pinned] true (true, "d197b9417d0fe1ca454221f2141769a21cf7fc6dedecd8c35fcb9fe414422d9a") false proved (fun _ h => by cases h) (by kernel_rfl) (fun _ h => by cases h) robotsOthers_row_tie rfl ⟨rfl, rfl⟩ (by kernel_rfl) rfl
    (fun f fn hf hfn => by
      obtain rfl : f = 5 := Option.some.inj ((show Tryd.prog.funcNamed "decorum/decorumlaw11.RobotsOthers" = some 5 by kernel_rfl).symm.trans hf) |>.symm
      obtain rfl : fn = Tryd.f5 := (Option.some.inj (Tryd.func5.symm.trans hfn)).symm
      exact ⟨by kernel_rfl, fun j t ht => by
        rw [Tryd.params5] at ht
        have hm : t ∈ [9, 9, 4] := by simpa using Array.mem_of_getElem? ht
        have hall : ([9, 9, 4].all fun u => !Tryd.prog.wantsStandIn u) = true := by kernel_rfl
        exact (show Tryd.prog.wantsStandIn t = false by simpa using List.all_eq_true.1 hall t hm)⟩)
    (by kernel_rfl)
end Go.Proofs.YtdnaddignhjihaaDoor.robotsOthers
namespace Go.Proofs.YtdnaddignhjihaaDoor
/-- The row, under a short name, for the claim. -/
theorem robotsOthers_holds : Rows.RobotsOthersCardSaid := robotsOthers.card
end Go.Proofs.YtdnaddignhjihaaDoor
