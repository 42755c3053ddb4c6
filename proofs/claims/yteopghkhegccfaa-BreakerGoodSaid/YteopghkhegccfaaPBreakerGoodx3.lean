-- PRINTED BY print.sh 35421559b90ae4d0a3588c463048766b98c2df88dd9212a6774a882060cdf62d: not written by this session
import Derived.Test.YteopghkhegccfaaPBreakerGoodx0
import Derived.Test.YteopghkhegccfaaPBreakerGoodx2
namespace Go.Proofs.Yteopghkhegccfaa.PBreakerGood
open Go.RowKit Go.Proofs.YteopghkhegccfaaW.PrintWords Go.Proofs.YteopghkhegccfaaW.PrintLast Go.Proofs.YteopghkhegccfaaW.PrintMore
attribute [local go_sem] max2_int min2_int max_two min_two max_three min_three max_four min_four   -- for this text's walks alone
set_option linter.unusedVariables false
set_option linter.unusedSimpArgs false

/-! ### decorumlaw19_BreakerGood: function 9 -/
mutual
def decorumlaw19_BreakerGood.l0 : Nat → List Bool → Int → Int → Int → Int → Int → Int → Option (Bool)
  | 0, _, _, _, _, _, _, _ => none
  | k + 1, x1, x5, x7, x8, x134000, x134001, x134002 => if x8 < (x1.length : Int) then (decorumlaw19_BreakerGood.j1 k x1 x5 x7 x8 (decide (x8 < 80)) x134000 x134001 x134002) else (decorumlaw19_BreakerGood.j1 k x1 x5 x7 x8 false x134000 x134001 x134002)
def decorumlaw19_BreakerGood.j1 : Nat → List Bool → Int → Int → Int → Bool → Int → Int → Int → Option (Bool)
  | 0, _, _, _, _, _, _, _, _ => none
  | k + 1, x1, x5, x7, x8, x21, x134000, x134001, x134002 => if x21 = true then (if 0 ≤ x8 then (if x8 < (x1.length : Int) then (if rdOf false x1 x8 = true then ((breaker_Fail.f x134000 x134001 x134002 x8 x5 10).bind fun bt136 => (if ((bt136.1 == 1) != (decide ((wrap64 (x7 + 1)) ≥ x5))) = true then (some false) else (if bt136.2.1 = (wrap64 (x7 + 1)) then (decorumlaw19_BreakerGood.l0 k x1 x5 (wrap64 (x7 + 1)) (wrap64 (x8 + 1)) bt136.1 bt136.2.1 bt136.2.2) else (some false)))) else ((breaker_Good.f x134000 x134001 x134002).bind fun bt139 => (if ((bt139.1 == 1) != (decide (0 ≥ x5))) = true then (some false) else (if bt139.2.1 = 0 then (decorumlaw19_BreakerGood.l0 k x1 x5 0 (wrap64 (x8 + 1)) bt139.1 bt139.2.1 bt139.2.2) else (some false))))) else (none)) else (none)) else ((decorumlaw19_awake.f).bind fun t134 => (some t134))
end
def decorumlaw19_BreakerGood.f (k : Nat) (a0 : Int) (l1 : List Bool) : Option (Bool) := decorumlaw19_BreakerGood.l0 k l1 (wrap64 ((wrap64 (Int.tmod a0 6)) + 1)) 0 0 0 0 0
theorem decorumlaw19_BreakerGood.mono_l : ∀ k, (∀ y0 y1 y2 y3 y4 y5 y6, LeO (decorumlaw19_BreakerGood.l0 k y0 y1 y2 y3 y4 y5 y6) (decorumlaw19_BreakerGood.l0 (k + 1) y0 y1 y2 y3 y4 y5 y6)) ∧ (∀ y0 y1 y2 y3 y4 y5 y6 y7, LeO (decorumlaw19_BreakerGood.j1 k y0 y1 y2 y3 y4 y5 y6 y7) (decorumlaw19_BreakerGood.j1 (k + 1) y0 y1 y2 y3 y4 y5 y6 y7))
  | 0 => ⟨fun _ _ _ _ _ _ _ r h => by simp [decorumlaw19_BreakerGood.l0] at h, fun _ _ _ _ _ _ _ _ r h => by simp [decorumlaw19_BreakerGood.j1] at h⟩
  | k + 1 => by
    obtain ⟨ih0, ih1⟩ := decorumlaw19_BreakerGood.mono_l k
    refine ⟨?_, ?_⟩
    · intro y0 y1 y2 y3 y4 y5 y6
      unfold decorumlaw19_BreakerGood.l0
      repeat' first
      | (with_reducible exact ih0 _ _ _ _ _ _ _)
      | (with_reducible exact ih1 _ _ _ _ _ _ _ _)
      | (with_reducible exact LeO.refl _)
      | (with_reducible exact LeO.none _)
      | (with_reducible refine LeO.ite ?_ ?_)
      | (with_reducible refine LeO.bind ?_ (fun _ => ?_))
      | exact ih0 _ _ _ _ _ _ _
      | exact ih1 _ _ _ _ _ _ _ _
      | exact LeO.none _
      | refine LeO.ite ?_ ?_
      | refine LeO.bind ?_ (fun _ => ?_)
    · intro y0 y1 y2 y3 y4 y5 y6 y7
      unfold decorumlaw19_BreakerGood.j1
      repeat' first
      | (with_reducible exact ih0 _ _ _ _ _ _ _)
      | (with_reducible exact ih1 _ _ _ _ _ _ _ _)
      | (with_reducible exact LeO.refl _)
      | (with_reducible exact LeO.none _)
      | (with_reducible refine LeO.ite ?_ ?_)
      | (with_reducible refine LeO.bind ?_ (fun _ => ?_))
      | exact ih0 _ _ _ _ _ _ _
      | exact ih1 _ _ _ _ _ _ _ _
      | exact LeO.none _
      | refine LeO.ite ?_ ?_
      | refine LeO.bind ?_ (fun _ => ?_)
theorem decorumlaw19_BreakerGood.mono : ∀ a0 a1 k, LeO (decorumlaw19_BreakerGood.f k a0 a1) (decorumlaw19_BreakerGood.f (k + 1) a0 a1) := by
  intro a0 a1 k
  obtain ⟨ih0, ih1⟩ := decorumlaw19_BreakerGood.mono_l k
  unfold decorumlaw19_BreakerGood.f
  repeat' first
      | (with_reducible exact ih0 _ _ _ _ _ _ _)
      | (with_reducible exact ih1 _ _ _ _ _ _ _ _)
      | (with_reducible exact LeO.refl _)
      | (with_reducible exact LeO.none _)
      | (with_reducible refine LeO.ite ?_ ?_)
      | (with_reducible refine LeO.bind ?_ (fun _ => ?_))
      | exact ih0 _ _ _ _ _ _ _
      | exact ih1 _ _ _ _ _ _ _ _
      | exact LeO.none _
      | refine LeO.ite ?_ ?_
      | refine LeO.bind ?_ (fun _ => ?_)
set_option maxHeartbeats 8000000 in
set_option maxRecDepth 100000 in
theorem decorumlaw19_BreakerGood.calls (k : Nat) (a0 : Int) (A1 : Option Addr) (c1 : Nat) (l1 : List Bool) (r : Bool) (w : World) (hr1 : Kd.C Kd.bool w A1 l1.length l1) (hc1 : l1.length ≤ c1) (h : decorumlaw19_BreakerGood.f k a0 l1 = some r) :
    Calls Try.prog 9 #[.int .u8 a0, .slice A1 l1.length c1] w fun e w' => e = .returned (.bool r) ∧ Below w.heap.size w w' := by
  have hu31 := Try.underlying31
  have HR1 := Aside0.mk hr1
  have HC1 := Aside0.mk hc1
  clear hr1 hc1
  have HB := Aside0.mk (Below.refl w.heap.size w)
  have H : (decorumlaw19_BreakerGood.l0 k l1 (wrap64 ((wrap64 (Int.tmod a0 6)) + 1)) 0 0 0 0 0) = some r := h
  clear h
  have H' := Aside0.mk H
  clear H
  go_enter Try.func9, Try.ntmps9
  go_wp2_with (first | ((with_reducible refine gate_dst (N := 6) rfl ?_); refine box_event ?hg (N := 6) ?hd (cs := #[.int .i64 0, .int .i64 0, .int .i64 0]) (t := 31) ?hr ?_; (case hd => rfl); (case hg => rfl); (case hr => first | (go_simp; done) | (go_simp; rfl)); intro gb133 hg w3 hbox hb; have n0_ := Aside0.mk (below_step (by repeat (first | (with_reducible first | exact HB.out | apply below_alloc | apply pw_below_drewN | apply below_drew1) | exact HB.out)) hb); have n1_ := Aside0.mk (hbox); have n2_ := Aside0.mk ((by rw [hg]; exact (below_size (by repeat (first | (with_reducible first | exact HB.out | apply below_alloc | apply pw_below_drewN | apply below_drew1) | exact HB.out))) : w.heap.size ≤ gb133)); have n3_ := Aside0.mk ((by rw [hg]; exact (below_size (by repeat (first | (with_reducible first | exact HB.out | apply below_alloc | apply pw_below_drewN | apply below_drew1) | exact HB.out))) : w.heap.size ≤ gb133)); clear HB; have HB := n0_; have BK133 := n1_; have GW133 := n2_; have GE133 := n3_; clear n0_ n1_ n2_ n3_; clear hb hbox hg; have hcz4_0 : w3.cell? ⟨gb133, 0, none⟩ = some (.int .i64 0) := (blk_cell BK133.out 0).trans rfl; have hcz4_1 : w3.cell? ⟨gb133, 1, none⟩ = some (.int .i64 0) := (blk_cell BK133.out 1).trans rfl; have hcz4_2 : w3.cell? ⟨gb133, 2, none⟩ = some (.int .i64 0) := (blk_cell BK133.out 2).trans rfl; have hfz4_0 := blk_frozen BK133.out 0; have hfz4_1 := blk_frozen BK133.out 1; have hfz4_2 := blk_frozen BK133.out 2))
  go_loopg [7, 8] k (fun kq v7 v8 w' => ∃ (x7_1 : Int) (x8_1 : Int) (x134000_1 : Int) (x134001_1 : Int) (x134002_1 : Int), v7 = .int .i64 x7_1 ∧ v8 = .int .i64 x8_1 ∧ Aside0 (decorumlaw19_BreakerGood.l0 kq l1 (wrap64 ((wrap64 (Int.tmod a0 6)) + 1)) x7_1 x8_1 x134000_1 x134001_1 x134002_1 = some r) ∧ Aside0 (kq ≤ k) ∧ Aside0 (w'.heap[gb133]? = some (.cells #[.int .i64 x134000_1, .int .i64 x134001_1, .int .i64 x134002_1] 31 (0, 0))) ∧ Aside0 (Below w.heap.size w w'))
  case atStart => exact ⟨(0), (0), (0), (0), (0), (by first | rfl | (simp; done) | (simp [*]; done)), (by first | rfl | (simp; done) | (simp [*]; done)), H', ⟨Nat.le_refl _⟩, ⟨by (with_reducible repeat (first | refine blk_drewN ?_ _ | refine blk_drew ?_ | refine blk_alloc ?_ _)); refine blk_put (cs := #[.int .i64 0, .int .i64 0, .int .i64 0]) ?_ 2 _ rfl; (with_reducible repeat (first | refine blk_drewN ?_ _ | refine blk_drew ?_ | refine blk_alloc ?_ _)); refine blk_put (cs := #[.int .i64 0, .int .i64 0, .int .i64 0]) ?_ 1 _ rfl; (with_reducible repeat (first | refine blk_drewN ?_ _ | refine blk_drew ?_ | refine blk_alloc ?_ _)); refine blk_put (cs := #[.int .i64 0, .int .i64 0, .int .i64 0]) ?_ 0 _ rfl; (with_reducible repeat (first | refine blk_drewN ?_ _ | refine blk_drew ?_ | refine blk_alloc ?_ _)); exact BK133.out⟩, ⟨by repeat (first | (with_reducible first | exact HB.out | apply below_alloc | apply pw_below_drewN | apply below_drew1 | refine below_set ?_ GE133.out) | exact HB.out)⟩⟩
  case round =>
    clear H'
    try clear c1
    try clear p2
    try clear hcz4_0
    try clear hcz4_1
    try clear hcz4_2
    try clear hfz4_0
    try clear hfz4_1
    try clear hfz4_2
    obtain ⟨x7_1, x8_1, x134000_1, x134001_1, x134002_1, rfl, rfl, HA, HK1, BK133, HB⟩ := hrel
    cases gk with
    | zero => exact absurd HA.out (by simp [decorumlaw19_BreakerGood.l0])
    | succ k1 =>
      have H := HA.out
      clear HA
      simp only [decorumlaw19_BreakerGood.l0] at H
      have HC5 := Aside0.mk H
      clear H
      go_upto_region 5 with (fail)
      go_cut [21] (fun v21 wc => ∃ (kq : Nat) (x21_4 : Bool), v21 = .bool x21_4 ∧ Aside0 (decorumlaw19_BreakerGood.j1 kq l1 (wrap64 ((wrap64 (Int.tmod a0 6)) + 1)) x7_1 x8_1 x21_4 x134000_1 x134001_1 x134002_1 = some r) ∧ Aside0 (kq ≤ k1) ∧ Aside0 (wc.heap[gb133]? = some (.cells #[.int .i64 x134000_1, .int .i64 x134001_1, .int .i64 x134002_1] 31 (0, 0))) ∧ Aside0 (Below w.heap.size w wc))
      case first =>
        have H := HC5.out
        clear HC5
        by_cases c6 : x8_1 < (l1.length : Int)
        · rw [if_pos c6] at H
          have c6b0 : decide (x8_1 < (l1.length : Int)) = true := decide_eq_true c6
          clear c6
          (first | rw [c6b0] | (simp only [i64_w, i32_w]; rw [c6b0]) | skip)
          have H' := Aside0.mk H
          clear H
          go_wp2
          go_meet
          case rel => exact ⟨_, (decide (x8_1 < 80)), (by first | rfl | (simp; done) | (simp [*]; done)), H', ⟨by have := HK1.out; first | omega | exact Nat.le_refl _⟩, ⟨by (with_reducible repeat (first | refine blk_drewN ?_ _ | refine blk_drew ?_ | refine blk_alloc ?_ _)); exact BK133.out⟩, ⟨by repeat (first | (with_reducible first | exact HB.out | apply below_alloc | apply pw_below_drewN | apply below_drew1 | refine below_set ?_ GE133.out) | exact HB.out)⟩⟩
        · rw [if_neg c6] at H
          have c6b0 : decide (x8_1 < (l1.length : Int)) = false := decide_eq_false c6
          clear c6
          (first | rw [c6b0] | (simp only [i64_w, i32_w]; rw [c6b0]) | skip)
          have H' := Aside0.mk H
          clear H
          go_wp2
          go_meet
          case rel => exact ⟨_, (false), (by first | rfl | (simp; done) | (simp [*]; done)), H', ⟨by have := HK1.out; first | omega | exact Nat.le_refl _⟩, ⟨by (with_reducible repeat (first | refine blk_drewN ?_ _ | refine blk_drew ?_ | refine blk_alloc ?_ _)); exact BK133.out⟩, ⟨by repeat (first | (with_reducible first | exact HB.out | apply below_alloc | apply pw_below_drewN | apply below_drew1 | refine below_set ?_ GE133.out) | exact HB.out)⟩⟩
      case rest =>
        clear HC5
        try clear c1
        try clear p2
        try clear c6
        try clear c6b0
        try clear p6
        try clear hcz4_0
        try clear hcz4_1
        try clear hcz4_2
        try clear hfz4_0
        try clear hfz4_1
        try clear hfz4_2
        try clear p2
        obtain ⟨kq, x21_4, rfl, HA, HJ4, BK133, HB⟩ := hcut
        cases kq with
        | zero => exact absurd HA.out (by simp [decorumlaw19_BreakerGood.j1])
        | succ kj4 =>
          have H := HA.out
          clear HA
          simp only [decorumlaw19_BreakerGood.j1] at H
          by_cases c7 : x21_4 = true
          · subst c7
            have H1 : (if 0 ≤ x8_1 then (if x8_1 < (l1.length : Int) then (if rdOf false l1 x8_1 = true then ((breaker_Fail.f x134000_1 x134001_1 x134002_1 x8_1 (wrap64 ((wrap64 (Int.tmod a0 6)) + 1)) 10).bind fun bt136 => (if ((bt136.1 == 1) != (decide ((wrap64 (x7_1 + 1)) ≥ (wrap64 ((wrap64 (Int.tmod a0 6)) + 1))))) = true then (some false) else (if bt136.2.1 = (wrap64 (x7_1 + 1)) then (decorumlaw19_BreakerGood.l0 kj4 l1 (wrap64 ((wrap64 (Int.tmod a0 6)) + 1)) (wrap64 (x7_1 + 1)) (wrap64 (x8_1 + 1)) bt136.1 bt136.2.1 bt136.2.2) else (some false)))) else ((breaker_Good.f x134000_1 x134001_1 x134002_1).bind fun bt139 => (if ((bt139.1 == 1) != (decide (0 ≥ (wrap64 ((wrap64 (Int.tmod a0 6)) + 1))))) = true then (some false) else (if bt139.2.1 = 0 then (decorumlaw19_BreakerGood.l0 kj4 l1 (wrap64 ((wrap64 (Int.tmod a0 6)) + 1)) 0 (wrap64 (x8_1 + 1)) bt139.1 bt139.2.1 bt139.2.2) else (some false))))) else (none)) else (none)) = some r := by rw [if_pos rfl] at H; exact H
            clear H
            have H := H1
            clear H1
            by_cases c8 : 0 ≤ x8_1
            · rw [if_pos c8] at H
              have c8b0 : decide (0 ≤ x8_1) = true := decide_eq_true c8
              clear c8
              by_cases c9 : x8_1 < (l1.length : Int)
              · rw [if_pos c9] at H
                have c9b0 : decide (x8_1 < (l1.length : Int)) = true := decide_eq_true c9
                clear c9
                obtain ⟨bq10, hbq10⟩ : ∃ b_ : Bool, b_ = (rdOf false l1 x8_1) := ⟨_, rfl⟩
                replace H : (if bq10 = true then ((breaker_Fail.f x134000_1 x134001_1 x134002_1 x8_1 (wrap64 ((wrap64 (Int.tmod a0 6)) + 1)) 10).bind fun bt136 => (if ((bt136.1 == 1) != (decide ((wrap64 (x7_1 + 1)) ≥ (wrap64 ((wrap64 (Int.tmod a0 6)) + 1))))) = true then (some false) else (if bt136.2.1 = (wrap64 (x7_1 + 1)) then (decorumlaw19_BreakerGood.l0 kj4 l1 (wrap64 ((wrap64 (Int.tmod a0 6)) + 1)) (wrap64 (x7_1 + 1)) (wrap64 (x8_1 + 1)) bt136.1 bt136.2.1 bt136.2.2) else (some false)))) else ((breaker_Good.f x134000_1 x134001_1 x134002_1).bind fun bt139 => (if ((bt139.1 == 1) != (decide (0 ≥ (wrap64 ((wrap64 (Int.tmod a0 6)) + 1))))) = true then (some false) else (if bt139.2.1 = 0 then (decorumlaw19_BreakerGood.l0 kj4 l1 (wrap64 ((wrap64 (Int.tmod a0 6)) + 1)) 0 (wrap64 (x8_1 + 1)) bt139.1 bt139.2.1 bt139.2.2) else (some false))))) = some r := by rw [← hbq10] at H; exact H
                have Nbq10 := Aside0.mk hbq10
                clear hbq10
                by_cases c11 : bq10 = true
                · subst c11
                  have H1 : ((breaker_Fail.f x134000_1 x134001_1 x134002_1 x8_1 (wrap64 ((wrap64 (Int.tmod a0 6)) + 1)) 10).bind fun bt136 => (if ((bt136.1 == 1) != (decide ((wrap64 (x7_1 + 1)) ≥ (wrap64 ((wrap64 (Int.tmod a0 6)) + 1))))) = true then (some false) else (if bt136.2.1 = (wrap64 (x7_1 + 1)) then (decorumlaw19_BreakerGood.l0 kj4 l1 (wrap64 ((wrap64 (Int.tmod a0 6)) + 1)) (wrap64 (x7_1 + 1)) (wrap64 (x8_1 + 1)) bt136.1 bt136.2.1 bt136.2.2) else (some false)))) = some r := by rw [if_pos rfl] at H; exact H
                  clear H
                  have H := H1
                  clear H1
                  replace H := Option.bind_eq_some_iff.mp H
                  obtain ⟨⟨t136, t137, t138⟩, A120, H⟩ := H
                  replace H : (if ((t136 == 1) != (decide ((wrap64 (x7_1 + 1)) ≥ (wrap64 ((wrap64 (Int.tmod a0 6)) + 1))))) = true then (some false) else (if t137 = (wrap64 (x7_1 + 1)) then (decorumlaw19_BreakerGood.l0 kj4 l1 (wrap64 ((wrap64 (Int.tmod a0 6)) + 1)) (wrap64 (x7_1 + 1)) (wrap64 (x8_1 + 1)) t136 t137 t138) else (some false))) = some r := H
                  have A12 := Aside0.mk A120
                  clear A120
                  by_cases c13 : ((t136 == 1) != (decide ((wrap64 (x7_1 + 1)) ≥ (wrap64 ((wrap64 (Int.tmod a0 6)) + 1))))) = true
                  · rw [if_pos c13] at H
                    have c13b0 : ((t136 == 1) != (decide ((wrap64 (x7_1 + 1)) ≥ (wrap64 ((wrap64 (Int.tmod a0 6)) + 1))))) = true := c13
                    (try (have c13b1 : decide ((t136 == 1) = (decide ((wrap64 (x7_1 + 1)) ≥ (wrap64 ((wrap64 (Int.tmod a0 6)) + 1))))) = false := by simpa using c13))
                    (try (have c13b2 : ((t136 == 1) == (decide ((wrap64 (x7_1 + 1)) ≥ (wrap64 ((wrap64 (Int.tmod a0 6)) + 1))))) = false := by simpa using c13))
                    (try (have c13b3 : ¬ ((t136 == 1) = (decide ((wrap64 (x7_1 + 1)) ≥ (wrap64 ((wrap64 (Int.tmod a0 6)) + 1))))) := by simpa using c13))
                    clear c13
                    obtain rfl := Option.some.inj H
                    have p135 : 0 ≤ (x8_1 : Int) := of_decide_eq_true (by first | (with_reducible assumption) | assumption)
                    have q135 : x8_1 < (l1.length : Int) := of_decide_eq_true (by first | (with_reducible assumption) | assumption)
                    obtain ⟨ad135, e135, hx135_0⟩ := Kd.at_bool HR1.out x8_1 p135 q135
                    (try rw [← Nbq10.out] at hx135_0)
                    cases e135
                    replace hx135_0 := (HB.out.cell (World.block_lt_of_cell? w _ hx135_0)).trans hx135_0
                    replace p135 := eq_true p135
                    replace q135 := eq_true q135
                    have hcz14_0 : wc.cell? ⟨gb133, 0, none⟩ = some (.int .i64 x134000_1) := (blk_cell BK133.out 0).trans rfl
                    have hcz14_1 : wc.cell? ⟨gb133, 1, none⟩ = some (.int .i64 x134001_1) := (blk_cell BK133.out 1).trans rfl
                    have hcz14_2 : wc.cell? ⟨gb133, 2, none⟩ = some (.int .i64 x134002_1) := (blk_cell BK133.out 2).trans rfl
                    have hfz14_0 := blk_frozen BK133.out 0
                    have hfz14_1 := blk_frozen BK133.out 1
                    have hfz14_2 := blk_frozen BK133.out 2
                    go_wp2_with (first | ((with_reducible refine gate_callee (f := 21) rfl ?_); refine goesL_ (some 31) rfl rfl Try.func21 (by kernel_rfl) rfl #[.agg #[.int .i64 x134000_1, .int .i64 x134001_1, .int .i64 x134002_1], .int .i64 x8_1, .int .i64 (wrap64 ((wrap64 (Int.tmod a0 6)) + 1)), .int .i64 10] rfl (by (try simp only [List.map_toArray, List.map_cons, List.map_nil]); first | done | rfl | (simp only [List.length_drop, List.length_take]; rfl)) ?_; (with_reducible refine (breaker_Fail.calls x134000_1 x134001_1 x134002_1 x8_1 (wrap64 ((wrap64 (Int.tmod a0 6)) + 1)) 10 t136 t137 t138 _ A12.out).mono ?_); rintro e w15 ⟨rfl, hb⟩; refine ⟨_, rfl, ?_⟩; have n0_ := Aside0.mk (blk_below (g := gb133) (o := .cells #[.int .i64 x134000_1, .int .i64 x134001_1, .int .i64 x134002_1] 31 (0, 0)) (by (with_reducible repeat (first | refine blk_drewN ?_ _ | refine blk_drew ?_ | refine blk_alloc ?_ _)); exact BK133.out) hb); have n1_ := Aside0.mk (below_step (by repeat (first | (with_reducible first | exact HB.out | apply below_alloc | apply pw_below_drewN | apply below_drew1 | refine below_set ?_ GE133.out) | exact HB.out)) hb); clear BK133; clear HB; have BK133 := n0_; have HB := n1_; clear n0_ n1_; (try clear hb); (try clear hb2); (try clear hk); (try clear hi); have hcz16_0 : w15.cell? ⟨gb133, 0, none⟩ = some (.int .i64 x134000_1) := (blk_cell BK133.out 0).trans rfl; have hcz16_1 : w15.cell? ⟨gb133, 1, none⟩ = some (.int .i64 x134001_1) := (blk_cell BK133.out 1).trans rfl; have hcz16_2 : w15.cell? ⟨gb133, 2, none⟩ = some (.int .i64 x134002_1) := (blk_cell BK133.out 2).trans rfl; have hfz16_0 := blk_frozen BK133.out 0; have hfz16_1 := blk_frozen BK133.out 1; have hfz16_2 := blk_frozen BK133.out 2))
                    go_ret
                    exact ⟨by first | rfl | (simp [errW_none, errW_some] <;> rfl) | (simp [*, errW_none, errW_some] <;> rfl), by repeat (first | (with_reducible first | exact HB.out | apply below_alloc | apply pw_below_drewN | apply below_drew1 | refine below_set ?_ GE133.out) | exact HB.out)⟩
                  · rw [if_neg c13] at H
                    have c13b0 : ((t136 == 1) != (decide ((wrap64 (x7_1 + 1)) ≥ (wrap64 ((wrap64 (Int.tmod a0 6)) + 1))))) = false := by simpa using c13
                    (try (have c13b1 : decide ((t136 == 1) = (decide ((wrap64 (x7_1 + 1)) ≥ (wrap64 ((wrap64 (Int.tmod a0 6)) + 1))))) = true := by simpa using c13))
                    (try (have c13b2 : ((t136 == 1) == (decide ((wrap64 (x7_1 + 1)) ≥ (wrap64 ((wrap64 (Int.tmod a0 6)) + 1))))) = true := by simpa using c13))
                    clear c13
                    by_cases c17 : t137 = (wrap64 (x7_1 + 1))
                    · rw [if_pos c17] at H
                      have c17b0 : (t137 == (wrap64 (x7_1 + 1))) = true := beq_iff_eq.mpr c17
                      have c17b1 : (t137 != (wrap64 (x7_1 + 1))) = false := bne_eq_false_iff_eq.mpr c17
                      clear c17
                      have H' := Aside0.mk H
                      clear H
                      have p135 : 0 ≤ (x8_1 : Int) := of_decide_eq_true (by first | (with_reducible assumption) | assumption)
                      have q135 : x8_1 < (l1.length : Int) := of_decide_eq_true (by first | (with_reducible assumption) | assumption)
                      obtain ⟨ad135, e135, hx135_0⟩ := Kd.at_bool HR1.out x8_1 p135 q135
                      (try rw [← Nbq10.out] at hx135_0)
                      cases e135
                      replace hx135_0 := (HB.out.cell (World.block_lt_of_cell? w _ hx135_0)).trans hx135_0
                      replace p135 := eq_true p135
                      replace q135 := eq_true q135
                      have hcz18_0 : wc.cell? ⟨gb133, 0, none⟩ = some (.int .i64 x134000_1) := (blk_cell BK133.out 0).trans rfl
                      have hcz18_1 : wc.cell? ⟨gb133, 1, none⟩ = some (.int .i64 x134001_1) := (blk_cell BK133.out 1).trans rfl
                      have hcz18_2 : wc.cell? ⟨gb133, 2, none⟩ = some (.int .i64 x134002_1) := (blk_cell BK133.out 2).trans rfl
                      have hfz18_0 := blk_frozen BK133.out 0
                      have hfz18_1 := blk_frozen BK133.out 1
                      have hfz18_2 := blk_frozen BK133.out 2
                      go_wp2_with (first | ((with_reducible refine gate_callee (f := 21) rfl ?_); refine goesL_ (some 31) rfl rfl Try.func21 (by kernel_rfl) rfl #[.agg #[.int .i64 x134000_1, .int .i64 x134001_1, .int .i64 x134002_1], .int .i64 x8_1, .int .i64 (wrap64 ((wrap64 (Int.tmod a0 6)) + 1)), .int .i64 10] rfl (by (try simp only [List.map_toArray, List.map_cons, List.map_nil]); first | done | rfl | (simp only [List.length_drop, List.length_take]; rfl)) ?_; (with_reducible refine (breaker_Fail.calls x134000_1 x134001_1 x134002_1 x8_1 (wrap64 ((wrap64 (Int.tmod a0 6)) + 1)) 10 t136 t137 t138 _ A12.out).mono ?_); rintro e w19 ⟨rfl, hb⟩; refine ⟨_, rfl, ?_⟩; have n0_ := Aside0.mk (blk_below (g := gb133) (o := .cells #[.int .i64 x134000_1, .int .i64 x134001_1, .int .i64 x134002_1] 31 (0, 0)) (by (with_reducible repeat (first | refine blk_drewN ?_ _ | refine blk_drew ?_ | refine blk_alloc ?_ _)); exact BK133.out) hb); have n1_ := Aside0.mk (below_step (by repeat (first | (with_reducible first | exact HB.out | apply below_alloc | apply pw_below_drewN | apply below_drew1 | refine below_set ?_ GE133.out) | exact HB.out)) hb); clear BK133; clear HB; have BK133 := n0_; have HB := n1_; clear n0_ n1_; (try clear hb); (try clear hb2); (try clear hk); (try clear hi); have hcz20_0 : w19.cell? ⟨gb133, 0, none⟩ = some (.int .i64 x134000_1) := (blk_cell BK133.out 0).trans rfl; have hcz20_1 : w19.cell? ⟨gb133, 1, none⟩ = some (.int .i64 x134001_1) := (blk_cell BK133.out 1).trans rfl; have hcz20_2 : w19.cell? ⟨gb133, 2, none⟩ = some (.int .i64 x134002_1) := (blk_cell BK133.out 2).trans rfl; have hfz20_0 := blk_frozen BK133.out 0; have hfz20_1 := blk_frozen BK133.out 1; have hfz20_2 := blk_frozen BK133.out 2))
                      go_roundg kj4
                      case measure => have := HK1.out; have := HJ4.out; omega
                      case rel => exact ⟨(wrap64 (x7_1 + 1)), (wrap64 (x8_1 + 1)), (t136), (t137), (t138), (by first | rfl | (simp; done) | (simp [*]; done)), (by first | rfl | (simp; done) | (simp [*]; done)), H', ⟨by have := HK1.out; have := HJ4.out; omega⟩, ⟨by (with_reducible repeat (first | refine blk_drewN ?_ _ | refine blk_drew ?_ | refine blk_alloc ?_ _)); refine blk_put (cs := #[.int .i64 t136, .int .i64 t137, .int .i64 x134002_1]) ?_ 2 _ rfl; (with_reducible repeat (first | refine blk_drewN ?_ _ | refine blk_drew ?_ | refine blk_alloc ?_ _)); refine blk_put (cs := #[.int .i64 t136, .int .i64 x134001_1, .int .i64 x134002_1]) ?_ 1 _ rfl; (with_reducible repeat (first | refine blk_drewN ?_ _ | refine blk_drew ?_ | refine blk_alloc ?_ _)); refine blk_put (cs := #[.int .i64 x134000_1, .int .i64 x134001_1, .int .i64 x134002_1]) ?_ 0 _ rfl; (with_reducible repeat (first | refine blk_drewN ?_ _ | refine blk_drew ?_ | refine blk_alloc ?_ _)); exact BK133.out⟩, ⟨by repeat (first | (with_reducible first | exact HB.out | apply below_alloc | apply pw_below_drewN | apply below_drew1 | refine below_set ?_ GE133.out) | exact HB.out)⟩⟩
                    · rw [if_neg c17] at H
                      have c17b0 : (t137 == (wrap64 (x7_1 + 1))) = false := beq_eq_false_iff_ne.mpr c17
                      have c17b1 : (t137 != (wrap64 (x7_1 + 1))) = true := bne_iff_ne.mpr c17
                      obtain rfl := Option.some.inj H
                      have p135 : 0 ≤ (x8_1 : Int) := of_decide_eq_true (by first | (with_reducible assumption) | assumption)
                      have q135 : x8_1 < (l1.length : Int) := of_decide_eq_true (by first | (with_reducible assumption) | assumption)
                      obtain ⟨ad135, e135, hx135_0⟩ := Kd.at_bool HR1.out x8_1 p135 q135
                      (try rw [← Nbq10.out] at hx135_0)
                      cases e135
                      replace hx135_0 := (HB.out.cell (World.block_lt_of_cell? w _ hx135_0)).trans hx135_0
                      replace p135 := eq_true p135
                      replace q135 := eq_true q135
                      have hcz21_0 : wc.cell? ⟨gb133, 0, none⟩ = some (.int .i64 x134000_1) := (blk_cell BK133.out 0).trans rfl
                      have hcz21_1 : wc.cell? ⟨gb133, 1, none⟩ = some (.int .i64 x134001_1) := (blk_cell BK133.out 1).trans rfl
                      have hcz21_2 : wc.cell? ⟨gb133, 2, none⟩ = some (.int .i64 x134002_1) := (blk_cell BK133.out 2).trans rfl
                      have hfz21_0 := blk_frozen BK133.out 0
                      have hfz21_1 := blk_frozen BK133.out 1
                      have hfz21_2 := blk_frozen BK133.out 2
                      go_wp2_with (first | ((with_reducible refine gate_callee (f := 21) rfl ?_); refine goesL_ (some 31) rfl rfl Try.func21 (by kernel_rfl) rfl #[.agg #[.int .i64 x134000_1, .int .i64 x134001_1, .int .i64 x134002_1], .int .i64 x8_1, .int .i64 (wrap64 ((wrap64 (Int.tmod a0 6)) + 1)), .int .i64 10] rfl (by (try simp only [List.map_toArray, List.map_cons, List.map_nil]); first | done | rfl | (simp only [List.length_drop, List.length_take]; rfl)) ?_; (with_reducible refine (breaker_Fail.calls x134000_1 x134001_1 x134002_1 x8_1 (wrap64 ((wrap64 (Int.tmod a0 6)) + 1)) 10 t136 t137 t138 _ A12.out).mono ?_); rintro e w22 ⟨rfl, hb⟩; refine ⟨_, rfl, ?_⟩; have n0_ := Aside0.mk (blk_below (g := gb133) (o := .cells #[.int .i64 x134000_1, .int .i64 x134001_1, .int .i64 x134002_1] 31 (0, 0)) (by (with_reducible repeat (first | refine blk_drewN ?_ _ | refine blk_drew ?_ | refine blk_alloc ?_ _)); exact BK133.out) hb); have n1_ := Aside0.mk (below_step (by repeat (first | (with_reducible first | exact HB.out | apply below_alloc | apply pw_below_drewN | apply below_drew1 | refine below_set ?_ GE133.out) | exact HB.out)) hb); clear BK133; clear HB; have BK133 := n0_; have HB := n1_; clear n0_ n1_; (try clear hb); (try clear hb2); (try clear hk); (try clear hi); have hcz23_0 : w22.cell? ⟨gb133, 0, none⟩ = some (.int .i64 x134000_1) := (blk_cell BK133.out 0).trans rfl; have hcz23_1 : w22.cell? ⟨gb133, 1, none⟩ = some (.int .i64 x134001_1) := (blk_cell BK133.out 1).trans rfl; have hcz23_2 : w22.cell? ⟨gb133, 2, none⟩ = some (.int .i64 x134002_1) := (blk_cell BK133.out 2).trans rfl; have hfz23_0 := blk_frozen BK133.out 0; have hfz23_1 := blk_frozen BK133.out 1; have hfz23_2 := blk_frozen BK133.out 2))
                      go_ret
                      exact ⟨by first | rfl | (simp [errW_none, errW_some] <;> rfl) | (simp [*, errW_none, errW_some] <;> rfl), by repeat (first | (with_reducible first | exact HB.out | apply below_alloc | apply pw_below_drewN | apply below_drew1 | refine below_set ?_ GE133.out) | exact HB.out)⟩
                · replace c11 := Bool.eq_false_iff.mpr c11
                  subst c11
                  have H1 : ((breaker_Good.f x134000_1 x134001_1 x134002_1).bind fun bt139 => (if ((bt139.1 == 1) != (decide (0 ≥ (wrap64 ((wrap64 (Int.tmod a0 6)) + 1))))) = true then (some false) else (if bt139.2.1 = 0 then (decorumlaw19_BreakerGood.l0 kj4 l1 (wrap64 ((wrap64 (Int.tmod a0 6)) + 1)) 0 (wrap64 (x8_1 + 1)) bt139.1 bt139.2.1 bt139.2.2) else (some false)))) = some r := by rw [if_neg (show ¬ (false = true) by decide)] at H; exact H
                  clear H
                  have H := H1
                  clear H1
                  replace H := Option.bind_eq_some_iff.mp H
                  obtain ⟨⟨t139, t140, t141⟩, A240, H⟩ := H
                  replace H : (if ((t139 == 1) != (decide (0 ≥ (wrap64 ((wrap64 (Int.tmod a0 6)) + 1))))) = true then (some false) else (if t140 = 0 then (decorumlaw19_BreakerGood.l0 kj4 l1 (wrap64 ((wrap64 (Int.tmod a0 6)) + 1)) 0 (wrap64 (x8_1 + 1)) t139 t140 t141) else (some false))) = some r := H
                  have A24 := Aside0.mk A240
                  clear A240
                  by_cases c25 : ((t139 == 1) != (decide (0 ≥ (wrap64 ((wrap64 (Int.tmod a0 6)) + 1))))) = true
                  · rw [if_pos c25] at H
                    have c25b0 : ((t139 == 1) != (decide (0 ≥ (wrap64 ((wrap64 (Int.tmod a0 6)) + 1))))) = true := c25
                    (try (have c25b1 : decide ((t139 == 1) = (decide (0 ≥ (wrap64 ((wrap64 (Int.tmod a0 6)) + 1))))) = false := by simpa using c25))
                    (try (have c25b2 : ((t139 == 1) == (decide (0 ≥ (wrap64 ((wrap64 (Int.tmod a0 6)) + 1))))) = false := by simpa using c25))
                    (try (have c25b3 : ¬ ((t139 == 1) = (decide (0 ≥ (wrap64 ((wrap64 (Int.tmod a0 6)) + 1))))) := by simpa using c25))
                    clear c25
                    obtain rfl := Option.some.inj H
                    have p135 : 0 ≤ (x8_1 : Int) := of_decide_eq_true (by first | (with_reducible assumption) | assumption)
                    have q135 : x8_1 < (l1.length : Int) := of_decide_eq_true (by first | (with_reducible assumption) | assumption)
                    obtain ⟨ad135, e135, hx135_0⟩ := Kd.at_bool HR1.out x8_1 p135 q135
                    (try rw [← Nbq10.out] at hx135_0)
                    cases e135
                    replace hx135_0 := (HB.out.cell (World.block_lt_of_cell? w _ hx135_0)).trans hx135_0
                    replace p135 := eq_true p135
                    replace q135 := eq_true q135
                    have hcz26_0 : wc.cell? ⟨gb133, 0, none⟩ = some (.int .i64 x134000_1) := (blk_cell BK133.out 0).trans rfl
                    have hcz26_1 : wc.cell? ⟨gb133, 1, none⟩ = some (.int .i64 x134001_1) := (blk_cell BK133.out 1).trans rfl
                    have hcz26_2 : wc.cell? ⟨gb133, 2, none⟩ = some (.int .i64 x134002_1) := (blk_cell BK133.out 2).trans rfl
                    have hfz26_0 := blk_frozen BK133.out 0
                    have hfz26_1 := blk_frozen BK133.out 1
                    have hfz26_2 := blk_frozen BK133.out 2
                    go_wp2_with (first | ((with_reducible refine gate_callee (f := 22) rfl ?_); refine goesL_ (some 35) rfl rfl Try.func22 (by kernel_rfl) rfl #[.agg #[.int .i64 x134000_1, .int .i64 x134001_1, .int .i64 x134002_1]] rfl (by (try simp only [List.map_toArray, List.map_cons, List.map_nil]); first | done | rfl | (simp only [List.length_drop, List.length_take]; rfl)) ?_; (with_reducible refine (breaker_Good.calls x134000_1 x134001_1 x134002_1 t139 t140 t141 _ A24.out).mono ?_); rintro e w27 ⟨rfl, hb⟩; refine ⟨_, rfl, ?_⟩; have n0_ := Aside0.mk (blk_below (g := gb133) (o := .cells #[.int .i64 x134000_1, .int .i64 x134001_1, .int .i64 x134002_1] 31 (0, 0)) (by (with_reducible repeat (first | refine blk_drewN ?_ _ | refine blk_drew ?_ | refine blk_alloc ?_ _)); exact BK133.out) hb); have n1_ := Aside0.mk (below_step (by repeat (first | (with_reducible first | exact HB.out | apply below_alloc | apply pw_below_drewN | apply below_drew1 | refine below_set ?_ GE133.out) | exact HB.out)) hb); clear BK133; clear HB; have BK133 := n0_; have HB := n1_; clear n0_ n1_; (try clear hb); (try clear hb2); (try clear hk); (try clear hi); have hcz28_0 : w27.cell? ⟨gb133, 0, none⟩ = some (.int .i64 x134000_1) := (blk_cell BK133.out 0).trans rfl; have hcz28_1 : w27.cell? ⟨gb133, 1, none⟩ = some (.int .i64 x134001_1) := (blk_cell BK133.out 1).trans rfl; have hcz28_2 : w27.cell? ⟨gb133, 2, none⟩ = some (.int .i64 x134002_1) := (blk_cell BK133.out 2).trans rfl; have hfz28_0 := blk_frozen BK133.out 0; have hfz28_1 := blk_frozen BK133.out 1; have hfz28_2 := blk_frozen BK133.out 2))
                    go_ret
                    exact ⟨by first | rfl | (simp [errW_none, errW_some] <;> rfl) | (simp [*, errW_none, errW_some] <;> rfl), by repeat (first | (with_reducible first | exact HB.out | apply below_alloc | apply pw_below_drewN | apply below_drew1 | refine below_set ?_ GE133.out) | exact HB.out)⟩
                  · rw [if_neg c25] at H
                    have c25b0 : ((t139 == 1) != (decide (0 ≥ (wrap64 ((wrap64 (Int.tmod a0 6)) + 1))))) = false := by simpa using c25
                    (try (have c25b1 : decide ((t139 == 1) = (decide (0 ≥ (wrap64 ((wrap64 (Int.tmod a0 6)) + 1))))) = true := by simpa using c25))
                    (try (have c25b2 : ((t139 == 1) == (decide (0 ≥ (wrap64 ((wrap64 (Int.tmod a0 6)) + 1))))) = true := by simpa using c25))
                    clear c25
                    by_cases c29 : t140 = 0
                    · rw [if_pos c29] at H
                      have c29b0 : (t140 == 0) = true := beq_iff_eq.mpr c29
                      have c29b1 : (t140 != 0) = false := bne_eq_false_iff_eq.mpr c29
                      clear c29
                      have H' := Aside0.mk H
                      clear H
                      have p135 : 0 ≤ (x8_1 : Int) := of_decide_eq_true (by first | (with_reducible assumption) | assumption)
                      have q135 : x8_1 < (l1.length : Int) := of_decide_eq_true (by first | (with_reducible assumption) | assumption)
                      obtain ⟨ad135, e135, hx135_0⟩ := Kd.at_bool HR1.out x8_1 p135 q135
                      (try rw [← Nbq10.out] at hx135_0)
                      cases e135
                      replace hx135_0 := (HB.out.cell (World.block_lt_of_cell? w _ hx135_0)).trans hx135_0
                      replace p135 := eq_true p135
                      replace q135 := eq_true q135
                      have hcz30_0 : wc.cell? ⟨gb133, 0, none⟩ = some (.int .i64 x134000_1) := (blk_cell BK133.out 0).trans rfl
                      have hcz30_1 : wc.cell? ⟨gb133, 1, none⟩ = some (.int .i64 x134001_1) := (blk_cell BK133.out 1).trans rfl
                      have hcz30_2 : wc.cell? ⟨gb133, 2, none⟩ = some (.int .i64 x134002_1) := (blk_cell BK133.out 2).trans rfl
                      have hfz30_0 := blk_frozen BK133.out 0
                      have hfz30_1 := blk_frozen BK133.out 1
                      have hfz30_2 := blk_frozen BK133.out 2
                      go_wp2_with (first | ((with_reducible refine gate_callee (f := 22) rfl ?_); refine goesL_ (some 35) rfl rfl Try.func22 (by kernel_rfl) rfl #[.agg #[.int .i64 x134000_1, .int .i64 x134001_1, .int .i64 x134002_1]] rfl (by (try simp only [List.map_toArray, List.map_cons, List.map_nil]); first | done | rfl | (simp only [List.length_drop, List.length_take]; rfl)) ?_; (with_reducible refine (breaker_Good.calls x134000_1 x134001_1 x134002_1 t139 t140 t141 _ A24.out).mono ?_); rintro e w31 ⟨rfl, hb⟩; refine ⟨_, rfl, ?_⟩; have n0_ := Aside0.mk (blk_below (g := gb133) (o := .cells #[.int .i64 x134000_1, .int .i64 x134001_1, .int .i64 x134002_1] 31 (0, 0)) (by (with_reducible repeat (first | refine blk_drewN ?_ _ | refine blk_drew ?_ | refine blk_alloc ?_ _)); exact BK133.out) hb); have n1_ := Aside0.mk (below_step (by repeat (first | (with_reducible first | exact HB.out | apply below_alloc | apply pw_below_drewN | apply below_drew1 | refine below_set ?_ GE133.out) | exact HB.out)) hb); clear BK133; clear HB; have BK133 := n0_; have HB := n1_; clear n0_ n1_; (try clear hb); (try clear hb2); (try clear hk); (try clear hi); have hcz32_0 : w31.cell? ⟨gb133, 0, none⟩ = some (.int .i64 x134000_1) := (blk_cell BK133.out 0).trans rfl; have hcz32_1 : w31.cell? ⟨gb133, 1, none⟩ = some (.int .i64 x134001_1) := (blk_cell BK133.out 1).trans rfl; have hcz32_2 : w31.cell? ⟨gb133, 2, none⟩ = some (.int .i64 x134002_1) := (blk_cell BK133.out 2).trans rfl; have hfz32_0 := blk_frozen BK133.out 0; have hfz32_1 := blk_frozen BK133.out 1; have hfz32_2 := blk_frozen BK133.out 2))
                      go_roundg kj4
                      case measure => have := HK1.out; have := HJ4.out; omega
                      case rel => exact ⟨(0), (wrap64 (x8_1 + 1)), (t139), (t140), (t141), (by first | rfl | (simp; done) | (simp [*]; done)), (by first | rfl | (simp; done) | (simp [*]; done)), H', ⟨by have := HK1.out; have := HJ4.out; omega⟩, ⟨by (with_reducible repeat (first | refine blk_drewN ?_ _ | refine blk_drew ?_ | refine blk_alloc ?_ _)); refine blk_put (cs := #[.int .i64 t139, .int .i64 t140, .int .i64 x134002_1]) ?_ 2 _ rfl; (with_reducible repeat (first | refine blk_drewN ?_ _ | refine blk_drew ?_ | refine blk_alloc ?_ _)); refine blk_put (cs := #[.int .i64 t139, .int .i64 x134001_1, .int .i64 x134002_1]) ?_ 1 _ rfl; (with_reducible repeat (first | refine blk_drewN ?_ _ | refine blk_drew ?_ | refine blk_alloc ?_ _)); refine blk_put (cs := #[.int .i64 x134000_1, .int .i64 x134001_1, .int .i64 x134002_1]) ?_ 0 _ rfl; (with_reducible repeat (first | refine blk_drewN ?_ _ | refine blk_drew ?_ | refine blk_alloc ?_ _)); exact BK133.out⟩, ⟨by repeat (first | (with_reducible first | exact HB.out | apply below_alloc | apply pw_below_drewN | apply below_drew1 | refine below_set ?_ GE133.out) | exact HB.out)⟩⟩
                    · rw [if_neg c29] at H
                      have c29b0 : (t140 == 0) = false := beq_eq_false_iff_ne.mpr c29
                      have c29b1 : (t140 != 0) = true := bne_iff_ne.mpr c29
                      obtain rfl := Option.some.inj H
                      have p135 : 0 ≤ (x8_1 : Int) := of_decide_eq_true (by first | (with_reducible assumption) | assumption)
                      have q135 : x8_1 < (l1.length : Int) := of_decide_eq_true (by first | (with_reducible assumption) | assumption)
                      obtain ⟨ad135, e135, hx135_0⟩ := Kd.at_bool HR1.out x8_1 p135 q135
                      (try rw [← Nbq10.out] at hx135_0)
                      cases e135
                      replace hx135_0 := (HB.out.cell (World.block_lt_of_cell? w _ hx135_0)).trans hx135_0
                      replace p135 := eq_true p135
                      replace q135 := eq_true q135
                      have hcz33_0 : wc.cell? ⟨gb133, 0, none⟩ = some (.int .i64 x134000_1) := (blk_cell BK133.out 0).trans rfl
                      have hcz33_1 : wc.cell? ⟨gb133, 1, none⟩ = some (.int .i64 x134001_1) := (blk_cell BK133.out 1).trans rfl
                      have hcz33_2 : wc.cell? ⟨gb133, 2, none⟩ = some (.int .i64 x134002_1) := (blk_cell BK133.out 2).trans rfl
                      have hfz33_0 := blk_frozen BK133.out 0
                      have hfz33_1 := blk_frozen BK133.out 1
                      have hfz33_2 := blk_frozen BK133.out 2
                      go_wp2_with (first | ((with_reducible refine gate_callee (f := 22) rfl ?_); refine goesL_ (some 35) rfl rfl Try.func22 (by kernel_rfl) rfl #[.agg #[.int .i64 x134000_1, .int .i64 x134001_1, .int .i64 x134002_1]] rfl (by (try simp only [List.map_toArray, List.map_cons, List.map_nil]); first | done | rfl | (simp only [List.length_drop, List.length_take]; rfl)) ?_; (with_reducible refine (breaker_Good.calls x134000_1 x134001_1 x134002_1 t139 t140 t141 _ A24.out).mono ?_); rintro e w34 ⟨rfl, hb⟩; refine ⟨_, rfl, ?_⟩; have n0_ := Aside0.mk (blk_below (g := gb133) (o := .cells #[.int .i64 x134000_1, .int .i64 x134001_1, .int .i64 x134002_1] 31 (0, 0)) (by (with_reducible repeat (first | refine blk_drewN ?_ _ | refine blk_drew ?_ | refine blk_alloc ?_ _)); exact BK133.out) hb); have n1_ := Aside0.mk (below_step (by repeat (first | (with_reducible first | exact HB.out | apply below_alloc | apply pw_below_drewN | apply below_drew1 | refine below_set ?_ GE133.out) | exact HB.out)) hb); clear BK133; clear HB; have BK133 := n0_; have HB := n1_; clear n0_ n1_; (try clear hb); (try clear hb2); (try clear hk); (try clear hi); have hcz35_0 : w34.cell? ⟨gb133, 0, none⟩ = some (.int .i64 x134000_1) := (blk_cell BK133.out 0).trans rfl; have hcz35_1 : w34.cell? ⟨gb133, 1, none⟩ = some (.int .i64 x134001_1) := (blk_cell BK133.out 1).trans rfl; have hcz35_2 : w34.cell? ⟨gb133, 2, none⟩ = some (.int .i64 x134002_1) := (blk_cell BK133.out 2).trans rfl; have hfz35_0 := blk_frozen BK133.out 0; have hfz35_1 := blk_frozen BK133.out 1; have hfz35_2 := blk_frozen BK133.out 2))
                      go_ret
                      exact ⟨by first | rfl | (simp [errW_none, errW_some] <;> rfl) | (simp [*, errW_none, errW_some] <;> rfl), by repeat (first | (with_reducible first | exact HB.out | apply below_alloc | apply pw_below_drewN | apply below_drew1 | refine below_set ?_ GE133.out) | exact HB.out)⟩
              · rw [if_neg c9] at H
                exact absurd H (by simp)
            · rw [if_neg c8] at H
              exact absurd H (by simp)
          · replace c7 := Bool.eq_false_iff.mpr c7
            subst c7
            have H1 : ((decorumlaw19_awake.f).bind fun t134 => (some t134)) = some r := by rw [if_neg (show ¬ (false = true) by decide)] at H; exact H
            clear H
            have H := H1
            clear H1
            replace H := Option.bind_eq_some_iff.mp H
            obtain ⟨t134, A360, H⟩ := H
            replace H : (some t134) = some r := H
            have A36 := Aside0.mk A360
            clear A360
            obtain rfl := Option.some.inj H
            go_wp2_with (first | ((with_reducible refine gate_callee (f := 18) rfl ?_); refine goesL_ (some 49) rfl rfl Try.func18 (by kernel_rfl) rfl #[] rfl (by (try simp only [List.map_toArray, List.map_cons, List.map_nil]); first | done | rfl | (simp only [List.length_drop, List.length_take]; rfl)) ?_; (with_reducible refine (decorumlaw19_awake.calls  t134 _ A36.out).mono ?_); rintro e w37 ⟨rfl, hb⟩; refine ⟨_, rfl, ?_⟩; have n0_ := Aside0.mk (blk_below (g := gb133) (o := .cells #[.int .i64 x134000_1, .int .i64 x134001_1, .int .i64 x134002_1] 31 (0, 0)) (by (with_reducible repeat (first | refine blk_drewN ?_ _ | refine blk_drew ?_ | refine blk_alloc ?_ _)); exact BK133.out) hb); have n1_ := Aside0.mk (below_step (by repeat (first | (with_reducible first | exact HB.out | apply below_alloc | apply pw_below_drewN | apply below_drew1 | refine below_set ?_ GE133.out) | exact HB.out)) hb); clear BK133; clear HB; have BK133 := n0_; have HB := n1_; clear n0_ n1_; (try clear hb); (try clear hb2); (try clear hk); (try clear hi)))
            go_ret
            exact ⟨by first | rfl | (simp [errW_none, errW_some] <;> rfl) | (simp [*, errW_none, errW_some] <;> rfl), by repeat (first | (with_reducible first | exact HB.out | apply below_alloc | apply pw_below_drewN | apply below_drew1 | refine below_set ?_ GE133.out) | exact HB.out)⟩

end Go.Proofs.Yteopghkhegccfaa.PBreakerGood
