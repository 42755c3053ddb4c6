-- PRINTED BY print.sh 35421559b90ae4d0a3588c463048766b98c2df88dd9212a6774a882060cdf62d: not written by this session
import Derived.Test.YteopghkhegccfaaPBreakerOpensx0
import Derived.Test.YteopghkhegccfaaPBreakerOpensx2
namespace Go.Proofs.Yteopghkhegccfaa.PBreakerOpens
open Go.RowKit Go.Proofs.YteopghkhegccfaaW.PrintWords Go.Proofs.YteopghkhegccfaaW.PrintLast Go.Proofs.YteopghkhegccfaaW.PrintMore
attribute [local go_sem] max2_int min2_int max_two min_two max_three min_three max_four min_four   -- for this text's walks alone
set_option linter.unusedVariables false
set_option linter.unusedSimpArgs false

/-! ### decorumlaw19_BreakerOpens: function 8 -/
mutual
def decorumlaw19_BreakerOpens.j1 : Nat → Int → Bool → Int → Int → Int → Int → Option (Bool)
  | 0, _, _, _, _, _, _ => none
  | k + 1, x1, x3, x9, x134000, x134001, x134002 => if x134000 = 1 then (if (wrap64 (x1)) > 0 then ((breaker_May.f x134000 x134001 x134002 (wrap64 (x134002 - 1)) 0).bind fun t139 => (if t139 = true then (decorumlaw19_BreakerOpens.j2 k x1 x3 x9 true x134000 x134001 x134002) else ((breaker_May.f x134000 x134001 x134002 x134002 0).bind fun t140 => (if t140 = true then (decorumlaw19_BreakerOpens.j2 k x1 x3 x9 (x134002 != (wrap64 ((wrap64 (x9 - 1)) + (wrap64 (x1))))) x134000 x134001 x134002) else (decorumlaw19_BreakerOpens.j2 k x1 x3 x9 true x134000 x134001 x134002))))) else ((breaker_May.f x134000 x134001 x134002 x134002 0).bind fun t141 => (if t141 = true then (decorumlaw19_BreakerOpens.j2 k x1 x3 x9 (x134002 != (wrap64 ((wrap64 (x9 - 1)) + (wrap64 (x1))))) x134000 x134001 x134002) else (decorumlaw19_BreakerOpens.j2 k x1 x3 x9 true x134000 x134001 x134002)))) else ((decorumlaw19_awake.f).bind fun t137 => (if t137 = true then ((breaker_May.f x134000 x134001 x134002 0 99).bind fun t138 => (some t138)) else (some false)))
def decorumlaw19_BreakerOpens.j2 : Nat → Int → Bool → Int → Bool → Int → Int → Int → Option (Bool)
  | 0, _, _, _, _, _, _, _ => none
  | k + 1, x1, x3, x9, x84, x134000, x134001, x134002 => if x84 = true then (some false) else ((breaker_Send.f x134000 x134001 x134002 x134002).bind fun bt142 => (if bt142.1 = 2 then ((breaker_May.f bt142.1 bt142.2.1 bt142.2.2 (wrap64 (x134002 + 5)) 1).bind fun t146 => (decorumlaw19_BreakerOpens.j3 k x1 x3 x9 t146 x134000 x134001 x134002 bt142.1 bt142.2.1 bt142.2.2)) else (decorumlaw19_BreakerOpens.j3 k x1 x3 x9 true x134000 x134001 x134002 bt142.1 bt142.2.1 bt142.2.2)))
def decorumlaw19_BreakerOpens.j3 : Nat → Int → Bool → Int → Bool → Int → Int → Int → Int → Int → Int → Option (Bool)
  | 0, _, _, _, _, _, _, _, _, _, _ => none
  | k + 1, x1, x3, x9, x98, x134000, x134001, x134002, x146000, x146001, x146002 => if x98 = true then (some false) else (if x3 = true then ((decorumlaw19_awake.f).bind fun t147 => (if t147 = true then ((breaker_Good.f x146000 x146001 x146002).bind fun bt148 => ((breaker_May.f bt148.1 bt148.2.1 bt148.2.2 0 5).bind fun t151 => (some t151))) else (some false))) else ((breaker_Fail.f x146000 x146001 x146002 (wrap64 (x134002 + 3)) x9 (wrap64 (x1))).bind fun bt152 => ((decorumlaw19_awake.f).bind fun t156 => (if t156 = true then (if bt152.1 = 1 then (some (bt152.2.2 == (wrap64 ((wrap64 (x134002 + 3)) + (wrap64 (x1)))))) else (some false)) else (some false)))))
def decorumlaw19_BreakerOpens.l0 : Nat → Int → Int → Bool → Int → Int → Int → Int → Int → Option (Bool)
  | 0, _, _, _, _, _, _, _, _ => none
  | k + 1, x1, x2, x3, x9, x11, x134000, x134001, x134002 => if x11 < (wrap64 (Int.tmod x2 40)) then (if x134000 = 0 then ((breaker_Fail.f x134000 x134001 x134002 x11 x9 (wrap64 (x1))).bind fun bt134 => (if ((bt134.1 == 1) != (decide ((wrap64 (x11 + 1)) ≥ x9))) = true then (some false) else (if bt134.2.1 = (wrap64 (x11 + 1)) then (decorumlaw19_BreakerOpens.l0 k x1 x2 x3 x9 (wrap64 (x11 + 1)) bt134.1 bt134.2.1 bt134.2.2) else (some false)))) else (decorumlaw19_BreakerOpens.j1 k x1 x3 x9 x134000 x134001 x134002)) else (decorumlaw19_BreakerOpens.j1 k x1 x3 x9 x134000 x134001 x134002)
end
def decorumlaw19_BreakerOpens.f (k : Nat) (a0 : Int) (a1 : Int) (a2 : Int) (a3 : Bool) : Option (Bool) := decorumlaw19_BreakerOpens.l0 k a1 a2 a3 (wrap64 ((wrap64 (Int.tmod a0 20)) + 1)) 0 0 0 0
theorem decorumlaw19_BreakerOpens.mono_l : ∀ k, (∀ y0 y1 y2 y3 y4 y5, LeO (decorumlaw19_BreakerOpens.j1 k y0 y1 y2 y3 y4 y5) (decorumlaw19_BreakerOpens.j1 (k + 1) y0 y1 y2 y3 y4 y5)) ∧ (∀ y0 y1 y2 y3 y4 y5 y6, LeO (decorumlaw19_BreakerOpens.j2 k y0 y1 y2 y3 y4 y5 y6) (decorumlaw19_BreakerOpens.j2 (k + 1) y0 y1 y2 y3 y4 y5 y6)) ∧ (∀ y0 y1 y2 y3 y4 y5 y6 y7 y8 y9, LeO (decorumlaw19_BreakerOpens.j3 k y0 y1 y2 y3 y4 y5 y6 y7 y8 y9) (decorumlaw19_BreakerOpens.j3 (k + 1) y0 y1 y2 y3 y4 y5 y6 y7 y8 y9)) ∧ (∀ y0 y1 y2 y3 y4 y5 y6 y7, LeO (decorumlaw19_BreakerOpens.l0 k y0 y1 y2 y3 y4 y5 y6 y7) (decorumlaw19_BreakerOpens.l0 (k + 1) y0 y1 y2 y3 y4 y5 y6 y7))
  | 0 => ⟨fun _ _ _ _ _ _ r h => by simp [decorumlaw19_BreakerOpens.j1] at h, fun _ _ _ _ _ _ _ r h => by simp [decorumlaw19_BreakerOpens.j2] at h, fun _ _ _ _ _ _ _ _ _ _ r h => by simp [decorumlaw19_BreakerOpens.j3] at h, fun _ _ _ _ _ _ _ _ r h => by simp [decorumlaw19_BreakerOpens.l0] at h⟩
  | k + 1 => by
    obtain ⟨ih0, ih1, ih2, ih3⟩ := decorumlaw19_BreakerOpens.mono_l k
    refine ⟨?_, ?_, ?_, ?_⟩
    · intro y0 y1 y2 y3 y4 y5
      unfold decorumlaw19_BreakerOpens.j1
      repeat' first
      | (with_reducible exact ih0 _ _ _ _ _ _)
      | (with_reducible exact ih1 _ _ _ _ _ _ _)
      | (with_reducible exact ih2 _ _ _ _ _ _ _ _ _ _)
      | (with_reducible exact ih3 _ _ _ _ _ _ _ _)
      | (with_reducible exact LeO.refl _)
      | (with_reducible exact LeO.none _)
      | (with_reducible refine LeO.ite ?_ ?_)
      | (with_reducible refine LeO.bind ?_ (fun _ => ?_))
      | exact ih0 _ _ _ _ _ _
      | exact ih1 _ _ _ _ _ _ _
      | exact ih2 _ _ _ _ _ _ _ _ _ _
      | exact ih3 _ _ _ _ _ _ _ _
      | exact LeO.none _
      | refine LeO.ite ?_ ?_
      | refine LeO.bind ?_ (fun _ => ?_)
    · intro y0 y1 y2 y3 y4 y5 y6
      unfold decorumlaw19_BreakerOpens.j2
      repeat' first
      | (with_reducible exact ih0 _ _ _ _ _ _)
      | (with_reducible exact ih1 _ _ _ _ _ _ _)
      | (with_reducible exact ih2 _ _ _ _ _ _ _ _ _ _)
      | (with_reducible exact ih3 _ _ _ _ _ _ _ _)
      | (with_reducible exact LeO.refl _)
      | (with_reducible exact LeO.none _)
      | (with_reducible refine LeO.ite ?_ ?_)
      | (with_reducible refine LeO.bind ?_ (fun _ => ?_))
      | exact ih0 _ _ _ _ _ _
      | exact ih1 _ _ _ _ _ _ _
      | exact ih2 _ _ _ _ _ _ _ _ _ _
      | exact ih3 _ _ _ _ _ _ _ _
      | exact LeO.none _
      | refine LeO.ite ?_ ?_
      | refine LeO.bind ?_ (fun _ => ?_)
    · intro y0 y1 y2 y3 y4 y5 y6 y7 y8 y9
      unfold decorumlaw19_BreakerOpens.j3
      repeat' first
      | (with_reducible exact ih0 _ _ _ _ _ _)
      | (with_reducible exact ih1 _ _ _ _ _ _ _)
      | (with_reducible exact ih2 _ _ _ _ _ _ _ _ _ _)
      | (with_reducible exact ih3 _ _ _ _ _ _ _ _)
      | (with_reducible exact LeO.refl _)
      | (with_reducible exact LeO.none _)
      | (with_reducible refine LeO.ite ?_ ?_)
      | (with_reducible refine LeO.bind ?_ (fun _ => ?_))
      | exact ih0 _ _ _ _ _ _
      | exact ih1 _ _ _ _ _ _ _
      | exact ih2 _ _ _ _ _ _ _ _ _ _
      | exact ih3 _ _ _ _ _ _ _ _
      | exact LeO.none _
      | refine LeO.ite ?_ ?_
      | refine LeO.bind ?_ (fun _ => ?_)
    · intro y0 y1 y2 y3 y4 y5 y6 y7
      unfold decorumlaw19_BreakerOpens.l0
      repeat' first
      | (with_reducible exact ih0 _ _ _ _ _ _)
      | (with_reducible exact ih1 _ _ _ _ _ _ _)
      | (with_reducible exact ih2 _ _ _ _ _ _ _ _ _ _)
      | (with_reducible exact ih3 _ _ _ _ _ _ _ _)
      | (with_reducible exact LeO.refl _)
      | (with_reducible exact LeO.none _)
      | (with_reducible refine LeO.ite ?_ ?_)
      | (with_reducible refine LeO.bind ?_ (fun _ => ?_))
      | exact ih0 _ _ _ _ _ _
      | exact ih1 _ _ _ _ _ _ _
      | exact ih2 _ _ _ _ _ _ _ _ _ _
      | exact ih3 _ _ _ _ _ _ _ _
      | exact LeO.none _
      | refine LeO.ite ?_ ?_
      | refine LeO.bind ?_ (fun _ => ?_)
theorem decorumlaw19_BreakerOpens.mono : ∀ a0 a1 a2 a3 k, LeO (decorumlaw19_BreakerOpens.f k a0 a1 a2 a3) (decorumlaw19_BreakerOpens.f (k + 1) a0 a1 a2 a3) := by
  intro a0 a1 a2 a3 k
  obtain ⟨ih0, ih1, ih2, ih3⟩ := decorumlaw19_BreakerOpens.mono_l k
  unfold decorumlaw19_BreakerOpens.f
  repeat' first
      | (with_reducible exact ih0 _ _ _ _ _ _)
      | (with_reducible exact ih1 _ _ _ _ _ _ _)
      | (with_reducible exact ih2 _ _ _ _ _ _ _ _ _ _)
      | (with_reducible exact ih3 _ _ _ _ _ _ _ _)
      | (with_reducible exact LeO.refl _)
      | (with_reducible exact LeO.none _)
      | (with_reducible refine LeO.ite ?_ ?_)
      | (with_reducible refine LeO.bind ?_ (fun _ => ?_))
      | exact ih0 _ _ _ _ _ _
      | exact ih1 _ _ _ _ _ _ _
      | exact ih2 _ _ _ _ _ _ _ _ _ _
      | exact ih3 _ _ _ _ _ _ _ _
      | exact LeO.none _
      | refine LeO.ite ?_ ?_
      | refine LeO.bind ?_ (fun _ => ?_)
set_option maxHeartbeats 8000000 in
set_option maxRecDepth 100000 in
theorem decorumlaw19_BreakerOpens.calls (k : Nat) (a0 : Int) (a1 : Int) (a2 : Int) (a3 : Bool) (r : Bool) (w : World) (h : decorumlaw19_BreakerOpens.f k a0 a1 a2 a3 = some r) :
    Calls Try.prog 8 #[.int .u8 a0, .int .u16 a1, .int .u8 a2, .bool a3] w fun e w' => e = .returned (.bool r) ∧ Below w.heap.size w w' := by
  have hu31 := Try.underlying31
  have HB := Aside0.mk (Below.refl w.heap.size w)
  have H : (decorumlaw19_BreakerOpens.l0 k a1 a2 a3 (wrap64 ((wrap64 (Int.tmod a0 20)) + 1)) 0 0 0 0) = some r := h
  clear h
  have HC5 := Aside0.mk H
  clear H
  go_enter Try.func8, Try.ntmps8
  go_upto_block 0 with (first | ((with_reducible refine gate_dst (N := 10) rfl ?_); refine box_event ?hg (N := 10) ?hd (cs := #[.int .i64 0, .int .i64 0, .int .i64 0]) (t := 31) ?hr ?_; (case hd => rfl); (case hg => rfl); (case hr => first | (go_simp; done) | (go_simp; rfl)); intro gb133 hg w6 hbox hb; have n0_ := Aside0.mk (below_step (by repeat (first | (with_reducible first | exact HB.out | apply below_alloc | apply pw_below_drewN | apply below_drew1) | exact HB.out)) hb); have n1_ := Aside0.mk (hbox); have n2_ := Aside0.mk ((by rw [hg]; exact (below_size (by repeat (first | (with_reducible first | exact HB.out | apply below_alloc | apply pw_below_drewN | apply below_drew1) | exact HB.out))) : w.heap.size ≤ gb133)); have n3_ := Aside0.mk ((by rw [hg]; exact (below_size (by repeat (first | (with_reducible first | exact HB.out | apply below_alloc | apply pw_below_drewN | apply below_drew1) | exact HB.out))) : w.heap.size ≤ gb133)); clear HB; have HB := n0_; have BK133 := n1_; have GW133 := n2_; have GE133 := n3_; clear n0_ n1_ n2_ n3_; clear hb hbox hg; have hcz7_0 : w6.cell? ⟨gb133, 0, none⟩ = some (.int .i64 0) := (blk_cell BK133.out 0).trans rfl; have hcz7_1 : w6.cell? ⟨gb133, 1, none⟩ = some (.int .i64 0) := (blk_cell BK133.out 1).trans rfl; have hcz7_2 : w6.cell? ⟨gb133, 2, none⟩ = some (.int .i64 0) := (blk_cell BK133.out 2).trans rfl; have hfz7_0 := blk_frozen BK133.out 0; have hfz7_1 := blk_frozen BK133.out 1; have hfz7_2 := blk_frozen BK133.out 2))
  (try simp only [Act.put, List.setIfInBounds_toArray, List.set_cons_zero, List.set_cons_succ])
  go_cut [] (fun wc => ∃ (kq : Nat) (x134000_4 : Int) (x134001_4 : Int) (x134002_4 : Int), Aside0 (decorumlaw19_BreakerOpens.j1 kq a1 a3 (wrap64 ((wrap64 (Int.tmod a0 20)) + 1)) x134000_4 x134001_4 x134002_4 = some r) ∧ Aside0 (kq ≤ k) ∧ Aside0 (wc.heap[gb133]? = some (.cells #[.int .i64 x134000_4, .int .i64 x134001_4, .int .i64 x134002_4] 31 (0, 0))) ∧ Aside0 (Below w.heap.size w wc))
  case first =>
    have H := HC5.out
    clear HC5
    have H' := Aside0.mk H
    clear H
    go_wp2
    go_loopg [11] k (fun kq v11 w' => ∃ (x11_1 : Int) (x134000_1 : Int) (x134001_1 : Int) (x134002_1 : Int), v11 = .int .i64 x11_1 ∧ Aside0 (decorumlaw19_BreakerOpens.l0 kq a1 a2 a3 (wrap64 ((wrap64 (Int.tmod a0 20)) + 1)) x11_1 x134000_1 x134001_1 x134002_1 = some r) ∧ Aside0 (kq ≤ k) ∧ Aside0 (w'.heap[gb133]? = some (.cells #[.int .i64 x134000_1, .int .i64 x134001_1, .int .i64 x134002_1] 31 (0, 0))) ∧ Aside0 (Below w.heap.size w w'))
    case atStart => exact ⟨(0), (0), (0), (0), (by first | rfl | (simp; done) | (simp [*]; done)), H', ⟨Nat.le_refl _⟩, ⟨by (with_reducible repeat (first | refine blk_drewN ?_ _ | refine blk_drew ?_ | refine blk_alloc ?_ _)); refine blk_put (cs := #[.int .i64 0, .int .i64 0, .int .i64 0]) ?_ 2 _ rfl; (with_reducible repeat (first | refine blk_drewN ?_ _ | refine blk_drew ?_ | refine blk_alloc ?_ _)); refine blk_put (cs := #[.int .i64 0, .int .i64 0, .int .i64 0]) ?_ 1 _ rfl; (with_reducible repeat (first | refine blk_drewN ?_ _ | refine blk_drew ?_ | refine blk_alloc ?_ _)); refine blk_put (cs := #[.int .i64 0, .int .i64 0, .int .i64 0]) ?_ 0 _ rfl; (with_reducible repeat (first | refine blk_drewN ?_ _ | refine blk_drew ?_ | refine blk_alloc ?_ _)); exact BK133.out⟩, ⟨by repeat (first | (with_reducible first | exact HB.out | apply below_alloc | apply pw_below_drewN | apply below_drew1 | refine below_set ?_ GE133.out) | exact HB.out)⟩⟩
    case round =>
      clear H'
      try clear p2
      try clear p6
      try clear hcz7_0
      try clear hcz7_1
      try clear hcz7_2
      try clear hfz7_0
      try clear hfz7_1
      try clear hfz7_2
      obtain ⟨x11_1, x134000_1, x134001_1, x134002_1, rfl, HA, HK1, BK133, HB⟩ := hrel
      cases gk with
      | zero => exact absurd HA.out (by simp [decorumlaw19_BreakerOpens.l0])
      | succ k1 =>
        have H := HA.out
        clear HA
        simp only [decorumlaw19_BreakerOpens.l0] at H
        by_cases c8 : x11_1 < (wrap64 (Int.tmod a2 40))
        · rw [if_pos c8] at H
          have c8b0 : decide (x11_1 < (wrap64 (Int.tmod a2 40))) = true := decide_eq_true c8
          clear c8
          (first | rw [c8b0] | (simp only [i64_w, i32_w]; rw [c8b0]) | skip)
          by_cases c9 : x134000_1 = 0
          · rw [if_pos c9] at H
            have c9b0 : (x134000_1 == 0) = true := beq_iff_eq.mpr c9
            have c9b1 : (x134000_1 != 0) = false := bne_eq_false_iff_eq.mpr c9
            clear c9
            replace H := Option.bind_eq_some_iff.mp H
            obtain ⟨⟨t134, t135, t136⟩, A100, H⟩ := H
            replace H : (if ((t134 == 1) != (decide ((wrap64 (x11_1 + 1)) ≥ (wrap64 ((wrap64 (Int.tmod a0 20)) + 1))))) = true then (some false) else (if t135 = (wrap64 (x11_1 + 1)) then (decorumlaw19_BreakerOpens.l0 k1 a1 a2 a3 (wrap64 ((wrap64 (Int.tmod a0 20)) + 1)) (wrap64 (x11_1 + 1)) t134 t135 t136) else (some false))) = some r := H
            have A10 := Aside0.mk A100
            clear A100
            by_cases c11 : ((t134 == 1) != (decide ((wrap64 (x11_1 + 1)) ≥ (wrap64 ((wrap64 (Int.tmod a0 20)) + 1))))) = true
            · rw [if_pos c11] at H
              have c11b0 : ((t134 == 1) != (decide ((wrap64 (x11_1 + 1)) ≥ (wrap64 ((wrap64 (Int.tmod a0 20)) + 1))))) = true := c11
              (try (have c11b1 : decide ((t134 == 1) = (decide ((wrap64 (x11_1 + 1)) ≥ (wrap64 ((wrap64 (Int.tmod a0 20)) + 1))))) = false := by simpa using c11))
              (try (have c11b2 : ((t134 == 1) == (decide ((wrap64 (x11_1 + 1)) ≥ (wrap64 ((wrap64 (Int.tmod a0 20)) + 1))))) = false := by simpa using c11))
              (try (have c11b3 : ¬ ((t134 == 1) = (decide ((wrap64 (x11_1 + 1)) ≥ (wrap64 ((wrap64 (Int.tmod a0 20)) + 1))))) := by simpa using c11))
              clear c11
              obtain rfl := Option.some.inj H
              have hcz12_0 : wr.cell? ⟨gb133, 0, none⟩ = some (.int .i64 x134000_1) := (blk_cell BK133.out 0).trans rfl
              have hcz12_1 : wr.cell? ⟨gb133, 1, none⟩ = some (.int .i64 x134001_1) := (blk_cell BK133.out 1).trans rfl
              have hcz12_2 : wr.cell? ⟨gb133, 2, none⟩ = some (.int .i64 x134002_1) := (blk_cell BK133.out 2).trans rfl
              have hfz12_0 := blk_frozen BK133.out 0
              have hfz12_1 := blk_frozen BK133.out 1
              have hfz12_2 := blk_frozen BK133.out 2
              go_wp2_with (first | ((with_reducible refine gate_callee (f := 21) rfl ?_); refine goesL_ (some 34) rfl rfl Try.func21 (by kernel_rfl) rfl #[.agg #[.int .i64 x134000_1, .int .i64 x134001_1, .int .i64 x134002_1], .int .i64 x11_1, .int .i64 (wrap64 ((wrap64 (Int.tmod a0 20)) + 1)), .int .i64 (wrap64 (a1))] rfl (by (try simp only [List.map_toArray, List.map_cons, List.map_nil]); first | done | rfl | (simp only [List.length_drop, List.length_take]; rfl)) ?_; (with_reducible refine (breaker_Fail.calls x134000_1 x134001_1 x134002_1 x11_1 (wrap64 ((wrap64 (Int.tmod a0 20)) + 1)) (wrap64 (a1)) t134 t135 t136 _ A10.out).mono ?_); rintro e w13 ⟨rfl, hb⟩; refine ⟨_, rfl, ?_⟩; have n0_ := Aside0.mk (blk_below (g := gb133) (o := .cells #[.int .i64 x134000_1, .int .i64 x134001_1, .int .i64 x134002_1] 31 (0, 0)) (by (with_reducible repeat (first | refine blk_drewN ?_ _ | refine blk_drew ?_ | refine blk_alloc ?_ _)); exact BK133.out) hb); have n1_ := Aside0.mk (below_step (by repeat (first | (with_reducible first | exact HB.out | apply below_alloc | apply pw_below_drewN | apply below_drew1 | refine below_set ?_ GE133.out) | exact HB.out)) hb); clear BK133; clear HB; have BK133 := n0_; have HB := n1_; clear n0_ n1_; (try clear hb); (try clear hb2); (try clear hk); (try clear hi); have hcz14_0 : w13.cell? ⟨gb133, 0, none⟩ = some (.int .i64 x134000_1) := (blk_cell BK133.out 0).trans rfl; have hcz14_1 : w13.cell? ⟨gb133, 1, none⟩ = some (.int .i64 x134001_1) := (blk_cell BK133.out 1).trans rfl; have hcz14_2 : w13.cell? ⟨gb133, 2, none⟩ = some (.int .i64 x134002_1) := (blk_cell BK133.out 2).trans rfl; have hfz14_0 := blk_frozen BK133.out 0; have hfz14_1 := blk_frozen BK133.out 1; have hfz14_2 := blk_frozen BK133.out 2))
              go_ret
              exact ⟨by first | rfl | (simp [errW_none, errW_some] <;> rfl) | (simp [*, errW_none, errW_some] <;> rfl), by repeat (first | (with_reducible first | exact HB.out | apply below_alloc | apply pw_below_drewN | apply below_drew1 | refine below_set ?_ GE133.out) | exact HB.out)⟩
            · rw [if_neg c11] at H
              have c11b0 : ((t134 == 1) != (decide ((wrap64 (x11_1 + 1)) ≥ (wrap64 ((wrap64 (Int.tmod a0 20)) + 1))))) = false := by simpa using c11
              (try (have c11b1 : decide ((t134 == 1) = (decide ((wrap64 (x11_1 + 1)) ≥ (wrap64 ((wrap64 (Int.tmod a0 20)) + 1))))) = true := by simpa using c11))
              (try (have c11b2 : ((t134 == 1) == (decide ((wrap64 (x11_1 + 1)) ≥ (wrap64 ((wrap64 (Int.tmod a0 20)) + 1))))) = true := by simpa using c11))
              clear c11
              by_cases c15 : t135 = (wrap64 (x11_1 + 1))
              · rw [if_pos c15] at H
                have c15b0 : (t135 == (wrap64 (x11_1 + 1))) = true := beq_iff_eq.mpr c15
                have c15b1 : (t135 != (wrap64 (x11_1 + 1))) = false := bne_eq_false_iff_eq.mpr c15
                clear c15
                have H' := Aside0.mk H
                clear H
                have hcz16_0 : wr.cell? ⟨gb133, 0, none⟩ = some (.int .i64 x134000_1) := (blk_cell BK133.out 0).trans rfl
                have hcz16_1 : wr.cell? ⟨gb133, 1, none⟩ = some (.int .i64 x134001_1) := (blk_cell BK133.out 1).trans rfl
                have hcz16_2 : wr.cell? ⟨gb133, 2, none⟩ = some (.int .i64 x134002_1) := (blk_cell BK133.out 2).trans rfl
                have hfz16_0 := blk_frozen BK133.out 0
                have hfz16_1 := blk_frozen BK133.out 1
                have hfz16_2 := blk_frozen BK133.out 2
                go_wp2_with (first | ((with_reducible refine gate_callee (f := 21) rfl ?_); refine goesL_ (some 34) rfl rfl Try.func21 (by kernel_rfl) rfl #[.agg #[.int .i64 x134000_1, .int .i64 x134001_1, .int .i64 x134002_1], .int .i64 x11_1, .int .i64 (wrap64 ((wrap64 (Int.tmod a0 20)) + 1)), .int .i64 (wrap64 (a1))] rfl (by (try simp only [List.map_toArray, List.map_cons, List.map_nil]); first | done | rfl | (simp only [List.length_drop, List.length_take]; rfl)) ?_; (with_reducible refine (breaker_Fail.calls x134000_1 x134001_1 x134002_1 x11_1 (wrap64 ((wrap64 (Int.tmod a0 20)) + 1)) (wrap64 (a1)) t134 t135 t136 _ A10.out).mono ?_); rintro e w17 ⟨rfl, hb⟩; refine ⟨_, rfl, ?_⟩; have n0_ := Aside0.mk (blk_below (g := gb133) (o := .cells #[.int .i64 x134000_1, .int .i64 x134001_1, .int .i64 x134002_1] 31 (0, 0)) (by (with_reducible repeat (first | refine blk_drewN ?_ _ | refine blk_drew ?_ | refine blk_alloc ?_ _)); exact BK133.out) hb); have n1_ := Aside0.mk (below_step (by repeat (first | (with_reducible first | exact HB.out | apply below_alloc | apply pw_below_drewN | apply below_drew1 | refine below_set ?_ GE133.out) | exact HB.out)) hb); clear BK133; clear HB; have BK133 := n0_; have HB := n1_; clear n0_ n1_; (try clear hb); (try clear hb2); (try clear hk); (try clear hi); have hcz18_0 : w17.cell? ⟨gb133, 0, none⟩ = some (.int .i64 x134000_1) := (blk_cell BK133.out 0).trans rfl; have hcz18_1 : w17.cell? ⟨gb133, 1, none⟩ = some (.int .i64 x134001_1) := (blk_cell BK133.out 1).trans rfl; have hcz18_2 : w17.cell? ⟨gb133, 2, none⟩ = some (.int .i64 x134002_1) := (blk_cell BK133.out 2).trans rfl; have hfz18_0 := blk_frozen BK133.out 0; have hfz18_1 := blk_frozen BK133.out 1; have hfz18_2 := blk_frozen BK133.out 2))
                go_roundg k1
                case measure => have := HK1.out; omega
                case rel => exact ⟨(wrap64 (x11_1 + 1)), (t134), (t135), (t136), (by first | rfl | (simp; done) | (simp [*]; done)), H', ⟨by have := HK1.out; omega⟩, ⟨by (with_reducible repeat (first | refine blk_drewN ?_ _ | refine blk_drew ?_ | refine blk_alloc ?_ _)); refine blk_put (cs := #[.int .i64 t134, .int .i64 t135, .int .i64 x134002_1]) ?_ 2 _ rfl; (with_reducible repeat (first | refine blk_drewN ?_ _ | refine blk_drew ?_ | refine blk_alloc ?_ _)); refine blk_put (cs := #[.int .i64 t134, .int .i64 x134001_1, .int .i64 x134002_1]) ?_ 1 _ rfl; (with_reducible repeat (first | refine blk_drewN ?_ _ | refine blk_drew ?_ | refine blk_alloc ?_ _)); refine blk_put (cs := #[.int .i64 x134000_1, .int .i64 x134001_1, .int .i64 x134002_1]) ?_ 0 _ rfl; (with_reducible repeat (first | refine blk_drewN ?_ _ | refine blk_drew ?_ | refine blk_alloc ?_ _)); exact BK133.out⟩, ⟨by repeat (first | (with_reducible first | exact HB.out | apply below_alloc | apply pw_below_drewN | apply below_drew1 | refine below_set ?_ GE133.out) | exact HB.out)⟩⟩
              · rw [if_neg c15] at H
                have c15b0 : (t135 == (wrap64 (x11_1 + 1))) = false := beq_eq_false_iff_ne.mpr c15
                have c15b1 : (t135 != (wrap64 (x11_1 + 1))) = true := bne_iff_ne.mpr c15
                obtain rfl := Option.some.inj H
                have hcz19_0 : wr.cell? ⟨gb133, 0, none⟩ = some (.int .i64 x134000_1) := (blk_cell BK133.out 0).trans rfl
                have hcz19_1 : wr.cell? ⟨gb133, 1, none⟩ = some (.int .i64 x134001_1) := (blk_cell BK133.out 1).trans rfl
                have hcz19_2 : wr.cell? ⟨gb133, 2, none⟩ = some (.int .i64 x134002_1) := (blk_cell BK133.out 2).trans rfl
                have hfz19_0 := blk_frozen BK133.out 0
                have hfz19_1 := blk_frozen BK133.out 1
                have hfz19_2 := blk_frozen BK133.out 2
                go_wp2_with (first | ((with_reducible refine gate_callee (f := 21) rfl ?_); refine goesL_ (some 34) rfl rfl Try.func21 (by kernel_rfl) rfl #[.agg #[.int .i64 x134000_1, .int .i64 x134001_1, .int .i64 x134002_1], .int .i64 x11_1, .int .i64 (wrap64 ((wrap64 (Int.tmod a0 20)) + 1)), .int .i64 (wrap64 (a1))] rfl (by (try simp only [List.map_toArray, List.map_cons, List.map_nil]); first | done | rfl | (simp only [List.length_drop, List.length_take]; rfl)) ?_; (with_reducible refine (breaker_Fail.calls x134000_1 x134001_1 x134002_1 x11_1 (wrap64 ((wrap64 (Int.tmod a0 20)) + 1)) (wrap64 (a1)) t134 t135 t136 _ A10.out).mono ?_); rintro e w20 ⟨rfl, hb⟩; refine ⟨_, rfl, ?_⟩; have n0_ := Aside0.mk (blk_below (g := gb133) (o := .cells #[.int .i64 x134000_1, .int .i64 x134001_1, .int .i64 x134002_1] 31 (0, 0)) (by (with_reducible repeat (first | refine blk_drewN ?_ _ | refine blk_drew ?_ | refine blk_alloc ?_ _)); exact BK133.out) hb); have n1_ := Aside0.mk (below_step (by repeat (first | (with_reducible first | exact HB.out | apply below_alloc | apply pw_below_drewN | apply below_drew1 | refine below_set ?_ GE133.out) | exact HB.out)) hb); clear BK133; clear HB; have BK133 := n0_; have HB := n1_; clear n0_ n1_; (try clear hb); (try clear hb2); (try clear hk); (try clear hi); have hcz21_0 : w20.cell? ⟨gb133, 0, none⟩ = some (.int .i64 x134000_1) := (blk_cell BK133.out 0).trans rfl; have hcz21_1 : w20.cell? ⟨gb133, 1, none⟩ = some (.int .i64 x134001_1) := (blk_cell BK133.out 1).trans rfl; have hcz21_2 : w20.cell? ⟨gb133, 2, none⟩ = some (.int .i64 x134002_1) := (blk_cell BK133.out 2).trans rfl; have hfz21_0 := blk_frozen BK133.out 0; have hfz21_1 := blk_frozen BK133.out 1; have hfz21_2 := blk_frozen BK133.out 2))
                go_ret
                exact ⟨by first | rfl | (simp [errW_none, errW_some] <;> rfl) | (simp [*, errW_none, errW_some] <;> rfl), by repeat (first | (with_reducible first | exact HB.out | apply below_alloc | apply pw_below_drewN | apply below_drew1 | refine below_set ?_ GE133.out) | exact HB.out)⟩
          · rw [if_neg c9] at H
            have c9b0 : (x134000_1 == 0) = false := beq_eq_false_iff_ne.mpr c9
            have c9b1 : (x134000_1 != 0) = true := bne_iff_ne.mpr c9
            have H' := Aside0.mk H
            clear H
            have hcz22_0 : wr.cell? ⟨gb133, 0, none⟩ = some (.int .i64 x134000_1) := (blk_cell BK133.out 0).trans rfl
            have hcz22_1 : wr.cell? ⟨gb133, 1, none⟩ = some (.int .i64 x134001_1) := (blk_cell BK133.out 1).trans rfl
            have hcz22_2 : wr.cell? ⟨gb133, 2, none⟩ = some (.int .i64 x134002_1) := (blk_cell BK133.out 2).trans rfl
            have hfz22_0 := blk_frozen BK133.out 0
            have hfz22_1 := blk_frozen BK133.out 1
            have hfz22_2 := blk_frozen BK133.out 2
            go_wp2
            go_meet
            case rel => exact ⟨_, (x134000_1), (x134001_1), (x134002_1), H', ⟨by have := HK1.out; first | omega | exact Nat.le_refl _⟩, ⟨by (with_reducible repeat (first | refine blk_drewN ?_ _ | refine blk_drew ?_ | refine blk_alloc ?_ _)); exact BK133.out⟩, ⟨by repeat (first | (with_reducible first | exact HB.out | apply below_alloc | apply pw_below_drewN | apply below_drew1 | refine below_set ?_ GE133.out) | exact HB.out)⟩⟩
        · rw [if_neg c8] at H
          have c8b0 : decide (x11_1 < (wrap64 (Int.tmod a2 40))) = false := decide_eq_false c8
          clear c8
          (first | rw [c8b0] | (simp only [i64_w, i32_w]; rw [c8b0]) | skip)
          have H' := Aside0.mk H
          clear H
          go_wp2
          go_meet
          case rel => exact ⟨_, (x134000_1), (x134001_1), (x134002_1), H', ⟨by have := HK1.out; first | omega | exact Nat.le_refl _⟩, ⟨by (with_reducible repeat (first | refine blk_drewN ?_ _ | refine blk_drew ?_ | refine blk_alloc ?_ _)); exact BK133.out⟩, ⟨by repeat (first | (with_reducible first | exact HB.out | apply below_alloc | apply pw_below_drewN | apply below_drew1 | refine below_set ?_ GE133.out) | exact HB.out)⟩⟩
  case rest =>
    clear HC5
    try clear c1
    try clear c2
    try clear p2
    try clear p6
    try clear c8
    try clear c8b0
    try clear c9
    try clear c9b0
    try clear c9b1
    try clear c11
    try clear c11b0
    try clear c11b1
    try clear c11b2
    try clear c15
    try clear c15b0
    try clear c15b1
    try clear c21
    try clear hcz12_0
    try clear hcz12_1
    try clear hcz12_2
    try clear hcz14_0
    try clear hcz14_1
    try clear hcz14_2
    try clear hcz16_0
    try clear hcz16_1
    try clear hcz16_2
    try clear hcz18_0
    try clear hcz18_1
    try clear hcz18_2
    try clear hcz19_0
    try clear hcz19_1
    try clear hcz19_2
    try clear hcz21_0
    try clear hcz21_1
    try clear hcz21_2
    try clear hcz22_0
    try clear hcz22_1
    try clear hcz22_2
    try clear hcz7_0
    try clear hcz7_1
    try clear hcz7_2
    try clear hfz12_0
    try clear hfz12_1
    try clear hfz12_2
    try clear hfz14_0
    try clear hfz14_1
    try clear hfz14_2
    try clear hfz16_0
    try clear hfz16_1
    try clear hfz16_2
    try clear hfz18_0
    try clear hfz18_1
    try clear hfz18_2
    try clear hfz19_0
    try clear hfz19_1
    try clear hfz19_2
    try clear hfz21_0
    try clear hfz21_1
    try clear hfz21_2
    try clear hfz22_0
    try clear hfz22_1
    try clear hfz22_2
    try clear hfz7_0
    try clear hfz7_1
    try clear hfz7_2
    try clear p2
    try clear p6
    obtain ⟨kq, x134000_4, x134001_4, x134002_4, HA, HJ4, BK133, HB⟩ := hcut
    cases kq with
    | zero => exact absurd HA.out (by simp [decorumlaw19_BreakerOpens.j1])
    | succ kj4 =>
      have H := HA.out
      clear HA
      simp only [decorumlaw19_BreakerOpens.j1] at H
      by_cases c23 : x134000_4 = 1
      · rw [if_pos c23] at H
        have c23b0 : (x134000_4 == 1) = true := beq_iff_eq.mpr c23
        have c23b1 : (x134000_4 != 1) = false := bne_eq_false_iff_eq.mpr c23
        clear c23
        have HC24 := Aside0.mk H
        clear H
        have hcz25_0 : wc.cell? ⟨gb133, 0, none⟩ = some (.int .i64 x134000_4) := (blk_cell BK133.out 0).trans rfl
        have hcz25_1 : wc.cell? ⟨gb133, 1, none⟩ = some (.int .i64 x134001_4) := (blk_cell BK133.out 1).trans rfl
        have hcz25_2 : wc.cell? ⟨gb133, 2, none⟩ = some (.int .i64 x134002_4) := (blk_cell BK133.out 2).trans rfl
        have hfz25_0 := blk_frozen BK133.out 0
        have hfz25_1 := blk_frozen BK133.out 1
        have hfz25_2 := blk_frozen BK133.out 2
        go_upto_region 12 with (fail)
        go_cut [84] (fun v84 wc => ∃ (kq : Nat) (x84_23 : Bool), v84 = .bool x84_23 ∧ Aside0 (decorumlaw19_BreakerOpens.j2 kq a1 a3 (wrap64 ((wrap64 (Int.tmod a0 20)) + 1)) x84_23 x134000_4 x134001_4 x134002_4 = some r) ∧ Aside0 (kq ≤ kj4) ∧ Aside0 (wc.heap[gb133]? = some (.cells #[.int .i64 x134000_4, .int .i64 x134001_4, .int .i64 x134002_4] 31 (0, 0))) ∧ Aside0 (Below w.heap.size w wc))
        case first =>
          have H := HC24.out
          clear HC24
          by_cases c26 : (wrap64 (a1)) > 0
          · rw [if_pos c26] at H
            have c26b0 : decide (0 < (wrap64 (a1))) = true := decide_eq_true c26
            clear c26
            (first | rw [c26b0] | (simp only [i64_w, i32_w]; rw [c26b0]) | skip)
            replace H := Option.bind_eq_some_iff.mp H
            obtain ⟨t139, A270, H⟩ := H
            replace H : (if t139 = true then (decorumlaw19_BreakerOpens.j2 kj4 a1 a3 (wrap64 ((wrap64 (Int.tmod a0 20)) + 1)) true x134000_4 x134001_4 x134002_4) else ((breaker_May.f x134000_4 x134001_4 x134002_4 x134002_4 0).bind fun t140 => (if t140 = true then (decorumlaw19_BreakerOpens.j2 kj4 a1 a3 (wrap64 ((wrap64 (Int.tmod a0 20)) + 1)) (x134002_4 != (wrap64 ((wrap64 ((wrap64 ((wrap64 (Int.tmod a0 20)) + 1)) - 1)) + (wrap64 (a1))))) x134000_4 x134001_4 x134002_4) else (decorumlaw19_BreakerOpens.j2 kj4 a1 a3 (wrap64 ((wrap64 (Int.tmod a0 20)) + 1)) true x134000_4 x134001_4 x134002_4)))) = some r := H
            have A27 := Aside0.mk A270
            clear A270
            by_cases c28 : t139 = true
            · subst c28
              have H1 : (decorumlaw19_BreakerOpens.j2 kj4 a1 a3 (wrap64 ((wrap64 (Int.tmod a0 20)) + 1)) true x134000_4 x134001_4 x134002_4) = some r := by rw [if_pos rfl] at H; exact H
              clear H
              have H := H1
              clear H1
              have H' := Aside0.mk H
              clear H
              have hcz29_0 : wc.cell? ⟨gb133, 0, none⟩ = some (.int .i64 x134000_4) := (blk_cell BK133.out 0).trans rfl
              have hcz29_1 : wc.cell? ⟨gb133, 1, none⟩ = some (.int .i64 x134001_4) := (blk_cell BK133.out 1).trans rfl
              have hcz29_2 : wc.cell? ⟨gb133, 2, none⟩ = some (.int .i64 x134002_4) := (blk_cell BK133.out 2).trans rfl
              have hfz29_0 := blk_frozen BK133.out 0
              have hfz29_1 := blk_frozen BK133.out 1
              have hfz29_2 := blk_frozen BK133.out 2
              go_wp2_with (first | (go_at_call 19; (with_reducible refine (breaker_May.calls x134000_4 x134001_4 x134002_4 (wrap64 (x134002_4 - 1)) 0 true _ A27.out).mono ?_); rintro e w30 ⟨rfl, hb⟩; have n0_ := Aside0.mk (blk_below (g := gb133) (o := .cells #[.int .i64 x134000_4, .int .i64 x134001_4, .int .i64 x134002_4] 31 (0, 0)) (by (with_reducible repeat (first | refine blk_drewN ?_ _ | refine blk_drew ?_ | refine blk_alloc ?_ _)); exact BK133.out) hb); have n1_ := Aside0.mk (below_step (by repeat (first | (with_reducible first | exact HB.out | apply below_alloc | apply pw_below_drewN | apply below_drew1 | refine below_set ?_ GE133.out) | exact HB.out)) hb); clear BK133; clear HB; have BK133 := n0_; have HB := n1_; clear n0_ n1_; (try clear hb); (try clear hb2); (try clear hk); (try clear hi)))
              go_meet
              case rel => exact ⟨_, (true), (by first | rfl | (simp; done) | (simp [*]; done)), H', ⟨by have := HJ4.out; first | omega | exact Nat.le_refl _⟩, ⟨by (with_reducible repeat (first | refine blk_drewN ?_ _ | refine blk_drew ?_ | refine blk_alloc ?_ _)); exact BK133.out⟩, ⟨by repeat (first | (with_reducible first | exact HB.out | apply below_alloc | apply pw_below_drewN | apply below_drew1 | refine below_set ?_ GE133.out) | exact HB.out)⟩⟩
            · replace c28 := Bool.eq_false_iff.mpr c28
              subst c28
              have H1 : ((breaker_May.f x134000_4 x134001_4 x134002_4 x134002_4 0).bind fun t140 => (if t140 = true then (decorumlaw19_BreakerOpens.j2 kj4 a1 a3 (wrap64 ((wrap64 (Int.tmod a0 20)) + 1)) (x134002_4 != (wrap64 ((wrap64 ((wrap64 ((wrap64 (Int.tmod a0 20)) + 1)) - 1)) + (wrap64 (a1))))) x134000_4 x134001_4 x134002_4) else (decorumlaw19_BreakerOpens.j2 kj4 a1 a3 (wrap64 ((wrap64 (Int.tmod a0 20)) + 1)) true x134000_4 x134001_4 x134002_4))) = some r := by rw [if_neg (show ¬ (false = true) by decide)] at H; exact H
              clear H
              have H := H1
              clear H1
              replace H := Option.bind_eq_some_iff.mp H
              obtain ⟨t140, A310, H⟩ := H
              replace H : (if t140 = true then (decorumlaw19_BreakerOpens.j2 kj4 a1 a3 (wrap64 ((wrap64 (Int.tmod a0 20)) + 1)) (x134002_4 != (wrap64 ((wrap64 ((wrap64 ((wrap64 (Int.tmod a0 20)) + 1)) - 1)) + (wrap64 (a1))))) x134000_4 x134001_4 x134002_4) else (decorumlaw19_BreakerOpens.j2 kj4 a1 a3 (wrap64 ((wrap64 (Int.tmod a0 20)) + 1)) true x134000_4 x134001_4 x134002_4)) = some r := H
              have A31 := Aside0.mk A310
              clear A310
              by_cases c32 : t140 = true
              · subst c32
                have H1 : (decorumlaw19_BreakerOpens.j2 kj4 a1 a3 (wrap64 ((wrap64 (Int.tmod a0 20)) + 1)) (x134002_4 != (wrap64 ((wrap64 ((wrap64 ((wrap64 (Int.tmod a0 20)) + 1)) - 1)) + (wrap64 (a1))))) x134000_4 x134001_4 x134002_4) = some r := by rw [if_pos rfl] at H; exact H
                clear H
                have H := H1
                clear H1
                have H' := Aside0.mk H
                clear H
                have hcz33_0 : wc.cell? ⟨gb133, 0, none⟩ = some (.int .i64 x134000_4) := (blk_cell BK133.out 0).trans rfl
                have hcz33_1 : wc.cell? ⟨gb133, 1, none⟩ = some (.int .i64 x134001_4) := (blk_cell BK133.out 1).trans rfl
                have hcz33_2 : wc.cell? ⟨gb133, 2, none⟩ = some (.int .i64 x134002_4) := (blk_cell BK133.out 2).trans rfl
                have hfz33_0 := blk_frozen BK133.out 0
                have hfz33_1 := blk_frozen BK133.out 1
                have hfz33_2 := blk_frozen BK133.out 2
                go_wp2_with (first | (go_at_call 19; (with_reducible refine (breaker_May.calls x134000_4 x134001_4 x134002_4 (wrap64 (x134002_4 - 1)) 0 false _ A27.out).mono ?_); rintro e w34 ⟨rfl, hb⟩; have n0_ := Aside0.mk (blk_below (g := gb133) (o := .cells #[.int .i64 x134000_4, .int .i64 x134001_4, .int .i64 x134002_4] 31 (0, 0)) (by (with_reducible repeat (first | refine blk_drewN ?_ _ | refine blk_drew ?_ | refine blk_alloc ?_ _)); exact BK133.out) hb); have n1_ := Aside0.mk (below_step (by repeat (first | (with_reducible first | exact HB.out | apply below_alloc | apply pw_below_drewN | apply below_drew1 | refine below_set ?_ GE133.out) | exact HB.out)) hb); clear BK133; clear HB; have BK133 := n0_; have HB := n1_; clear n0_ n1_; (try clear hb); (try clear hb2); (try clear hk); (try clear hi); have hcz35_0 : w34.cell? ⟨gb133, 0, none⟩ = some (.int .i64 x134000_4) := (blk_cell BK133.out 0).trans rfl; have hcz35_1 : w34.cell? ⟨gb133, 1, none⟩ = some (.int .i64 x134001_4) := (blk_cell BK133.out 1).trans rfl; have hcz35_2 : w34.cell? ⟨gb133, 2, none⟩ = some (.int .i64 x134002_4) := (blk_cell BK133.out 2).trans rfl; have hfz35_0 := blk_frozen BK133.out 0; have hfz35_1 := blk_frozen BK133.out 1; have hfz35_2 := blk_frozen BK133.out 2) | (go_at_call 19; (with_reducible refine (breaker_May.calls x134000_4 x134001_4 x134002_4 x134002_4 0 true _ A31.out).mono ?_); rintro e w36 ⟨rfl, hb⟩; have n0_ := Aside0.mk (blk_below (g := gb133) (o := .cells #[.int .i64 x134000_4, .int .i64 x134001_4, .int .i64 x134002_4] 31 (0, 0)) (by (with_reducible repeat (first | refine blk_drewN ?_ _ | refine blk_drew ?_ | refine blk_alloc ?_ _)); exact BK133.out) hb); have n1_ := Aside0.mk (below_step (by repeat (first | (with_reducible first | exact HB.out | apply below_alloc | apply pw_below_drewN | apply below_drew1 | refine below_set ?_ GE133.out) | exact HB.out)) hb); clear BK133; clear HB; have BK133 := n0_; have HB := n1_; clear n0_ n1_; (try clear hb); (try clear hb2); (try clear hk); (try clear hi); have hcz37_0 : w36.cell? ⟨gb133, 0, none⟩ = some (.int .i64 x134000_4) := (blk_cell BK133.out 0).trans rfl; have hcz37_1 : w36.cell? ⟨gb133, 1, none⟩ = some (.int .i64 x134001_4) := (blk_cell BK133.out 1).trans rfl; have hcz37_2 : w36.cell? ⟨gb133, 2, none⟩ = some (.int .i64 x134002_4) := (blk_cell BK133.out 2).trans rfl; have hfz37_0 := blk_frozen BK133.out 0; have hfz37_1 := blk_frozen BK133.out 1; have hfz37_2 := blk_frozen BK133.out 2))
                go_meet
                case rel => exact ⟨_, ((x134002_4 != (wrap64 ((wrap64 ((wrap64 ((wrap64 (Int.tmod a0 20)) + 1)) - 1)) + (wrap64 (a1)))))), (by first | rfl | (simp; done) | (simp [*]; done)), H', ⟨by have := HJ4.out; first | omega | exact Nat.le_refl _⟩, ⟨by (with_reducible repeat (first | refine blk_drewN ?_ _ | refine blk_drew ?_ | refine blk_alloc ?_ _)); exact BK133.out⟩, ⟨by repeat (first | (with_reducible first | exact HB.out | apply below_alloc | apply pw_below_drewN | apply below_drew1 | refine below_set ?_ GE133.out) | exact HB.out)⟩⟩
              · replace c32 := Bool.eq_false_iff.mpr c32
                subst c32
                have H1 : (decorumlaw19_BreakerOpens.j2 kj4 a1 a3 (wrap64 ((wrap64 (Int.tmod a0 20)) + 1)) true x134000_4 x134001_4 x134002_4) = some r := by rw [if_neg (show ¬ (false = true) by decide)] at H; exact H
                clear H
                have H := H1
                clear H1
                have H' := Aside0.mk H
                clear H
                have hcz38_0 : wc.cell? ⟨gb133, 0, none⟩ = some (.int .i64 x134000_4) := (blk_cell BK133.out 0).trans rfl
                have hcz38_1 : wc.cell? ⟨gb133, 1, none⟩ = some (.int .i64 x134001_4) := (blk_cell BK133.out 1).trans rfl
                have hcz38_2 : wc.cell? ⟨gb133, 2, none⟩ = some (.int .i64 x134002_4) := (blk_cell BK133.out 2).trans rfl
                have hfz38_0 := blk_frozen BK133.out 0
                have hfz38_1 := blk_frozen BK133.out 1
                have hfz38_2 := blk_frozen BK133.out 2
                go_wp2_with (first | (go_at_call 19; (with_reducible refine (breaker_May.calls x134000_4 x134001_4 x134002_4 (wrap64 (x134002_4 - 1)) 0 false _ A27.out).mono ?_); rintro e w39 ⟨rfl, hb⟩; have n0_ := Aside0.mk (blk_below (g := gb133) (o := .cells #[.int .i64 x134000_4, .int .i64 x134001_4, .int .i64 x134002_4] 31 (0, 0)) (by (with_reducible repeat (first | refine blk_drewN ?_ _ | refine blk_drew ?_ | refine blk_alloc ?_ _)); exact BK133.out) hb); have n1_ := Aside0.mk (below_step (by repeat (first | (with_reducible first | exact HB.out | apply below_alloc | apply pw_below_drewN | apply below_drew1 | refine below_set ?_ GE133.out) | exact HB.out)) hb); clear BK133; clear HB; have BK133 := n0_; have HB := n1_; clear n0_ n1_; (try clear hb); (try clear hb2); (try clear hk); (try clear hi); have hcz40_0 : w39.cell? ⟨gb133, 0, none⟩ = some (.int .i64 x134000_4) := (blk_cell BK133.out 0).trans rfl; have hcz40_1 : w39.cell? ⟨gb133, 1, none⟩ = some (.int .i64 x134001_4) := (blk_cell BK133.out 1).trans rfl; have hcz40_2 : w39.cell? ⟨gb133, 2, none⟩ = some (.int .i64 x134002_4) := (blk_cell BK133.out 2).trans rfl; have hfz40_0 := blk_frozen BK133.out 0; have hfz40_1 := blk_frozen BK133.out 1; have hfz40_2 := blk_frozen BK133.out 2) | (go_at_call 19; (with_reducible refine (breaker_May.calls x134000_4 x134001_4 x134002_4 x134002_4 0 false _ A31.out).mono ?_); rintro e w41 ⟨rfl, hb⟩; have n0_ := Aside0.mk (blk_below (g := gb133) (o := .cells #[.int .i64 x134000_4, .int .i64 x134001_4, .int .i64 x134002_4] 31 (0, 0)) (by (with_reducible repeat (first | refine blk_drewN ?_ _ | refine blk_drew ?_ | refine blk_alloc ?_ _)); exact BK133.out) hb); have n1_ := Aside0.mk (below_step (by repeat (first | (with_reducible first | exact HB.out | apply below_alloc | apply pw_below_drewN | apply below_drew1 | refine below_set ?_ GE133.out) | exact HB.out)) hb); clear BK133; clear HB; have BK133 := n0_; have HB := n1_; clear n0_ n1_; (try clear hb); (try clear hb2); (try clear hk); (try clear hi)))
                go_meet
                case rel => exact ⟨_, (true), (by first | rfl | (simp; done) | (simp [*]; done)), H', ⟨by have := HJ4.out; first | omega | exact Nat.le_refl _⟩, ⟨by (with_reducible repeat (first | refine blk_drewN ?_ _ | refine blk_drew ?_ | refine blk_alloc ?_ _)); exact BK133.out⟩, ⟨by repeat (first | (with_reducible first | exact HB.out | apply below_alloc | apply pw_below_drewN | apply below_drew1 | refine below_set ?_ GE133.out) | exact HB.out)⟩⟩
          · rw [if_neg c26] at H
            have c26b0 : decide (0 < (wrap64 (a1))) = false := decide_eq_false c26
            clear c26
            (first | rw [c26b0] | (simp only [i64_w, i32_w]; rw [c26b0]) | skip)
            replace H := Option.bind_eq_some_iff.mp H
            obtain ⟨t141, A420, H⟩ := H
            replace H : (if t141 = true then (decorumlaw19_BreakerOpens.j2 kj4 a1 a3 (wrap64 ((wrap64 (Int.tmod a0 20)) + 1)) (x134002_4 != (wrap64 ((wrap64 ((wrap64 ((wrap64 (Int.tmod a0 20)) + 1)) - 1)) + (wrap64 (a1))))) x134000_4 x134001_4 x134002_4) else (decorumlaw19_BreakerOpens.j2 kj4 a1 a3 (wrap64 ((wrap64 (Int.tmod a0 20)) + 1)) true x134000_4 x134001_4 x134002_4)) = some r := H
            have A42 := Aside0.mk A420
            clear A420
            by_cases c43 : t141 = true
            · subst c43
              have H1 : (decorumlaw19_BreakerOpens.j2 kj4 a1 a3 (wrap64 ((wrap64 (Int.tmod a0 20)) + 1)) (x134002_4 != (wrap64 ((wrap64 ((wrap64 ((wrap64 (Int.tmod a0 20)) + 1)) - 1)) + (wrap64 (a1))))) x134000_4 x134001_4 x134002_4) = some r := by rw [if_pos rfl] at H; exact H
              clear H
              have H := H1
              clear H1
              have H' := Aside0.mk H
              clear H
              have hcz44_0 : wc.cell? ⟨gb133, 0, none⟩ = some (.int .i64 x134000_4) := (blk_cell BK133.out 0).trans rfl
              have hcz44_1 : wc.cell? ⟨gb133, 1, none⟩ = some (.int .i64 x134001_4) := (blk_cell BK133.out 1).trans rfl
              have hcz44_2 : wc.cell? ⟨gb133, 2, none⟩ = some (.int .i64 x134002_4) := (blk_cell BK133.out 2).trans rfl
              have hfz44_0 := blk_frozen BK133.out 0
              have hfz44_1 := blk_frozen BK133.out 1
              have hfz44_2 := blk_frozen BK133.out 2
              go_wp2_with (first | (go_at_call 19; (with_reducible refine (breaker_May.calls x134000_4 x134001_4 x134002_4 x134002_4 0 true _ A42.out).mono ?_); rintro e w45 ⟨rfl, hb⟩; have n0_ := Aside0.mk (blk_below (g := gb133) (o := .cells #[.int .i64 x134000_4, .int .i64 x134001_4, .int .i64 x134002_4] 31 (0, 0)) (by (with_reducible repeat (first | refine blk_drewN ?_ _ | refine blk_drew ?_ | refine blk_alloc ?_ _)); exact BK133.out) hb); have n1_ := Aside0.mk (below_step (by repeat (first | (with_reducible first | exact HB.out | apply below_alloc | apply pw_below_drewN | apply below_drew1 | refine below_set ?_ GE133.out) | exact HB.out)) hb); clear BK133; clear HB; have BK133 := n0_; have HB := n1_; clear n0_ n1_; (try clear hb); (try clear hb2); (try clear hk); (try clear hi); have hcz46_0 : w45.cell? ⟨gb133, 0, none⟩ = some (.int .i64 x134000_4) := (blk_cell BK133.out 0).trans rfl; have hcz46_1 : w45.cell? ⟨gb133, 1, none⟩ = some (.int .i64 x134001_4) := (blk_cell BK133.out 1).trans rfl; have hcz46_2 : w45.cell? ⟨gb133, 2, none⟩ = some (.int .i64 x134002_4) := (blk_cell BK133.out 2).trans rfl; have hfz46_0 := blk_frozen BK133.out 0; have hfz46_1 := blk_frozen BK133.out 1; have hfz46_2 := blk_frozen BK133.out 2))
              go_meet
              case rel => exact ⟨_, ((x134002_4 != (wrap64 ((wrap64 ((wrap64 ((wrap64 (Int.tmod a0 20)) + 1)) - 1)) + (wrap64 (a1)))))), (by first | rfl | (simp; done) | (simp [*]; done)), H', ⟨by have := HJ4.out; first | omega | exact Nat.le_refl _⟩, ⟨by (with_reducible repeat (first | refine blk_drewN ?_ _ | refine blk_drew ?_ | refine blk_alloc ?_ _)); exact BK133.out⟩, ⟨by repeat (first | (with_reducible first | exact HB.out | apply below_alloc | apply pw_below_drewN | apply below_drew1 | refine below_set ?_ GE133.out) | exact HB.out)⟩⟩
            · replace c43 := Bool.eq_false_iff.mpr c43
              subst c43
              have H1 : (decorumlaw19_BreakerOpens.j2 kj4 a1 a3 (wrap64 ((wrap64 (Int.tmod a0 20)) + 1)) true x134000_4 x134001_4 x134002_4) = some r := by rw [if_neg (show ¬ (false = true) by decide)] at H; exact H
              clear H
              have H := H1
              clear H1
              have H' := Aside0.mk H
              clear H
              have hcz47_0 : wc.cell? ⟨gb133, 0, none⟩ = some (.int .i64 x134000_4) := (blk_cell BK133.out 0).trans rfl
              have hcz47_1 : wc.cell? ⟨gb133, 1, none⟩ = some (.int .i64 x134001_4) := (blk_cell BK133.out 1).trans rfl
              have hcz47_2 : wc.cell? ⟨gb133, 2, none⟩ = some (.int .i64 x134002_4) := (blk_cell BK133.out 2).trans rfl
              have hfz47_0 := blk_frozen BK133.out 0
              have hfz47_1 := blk_frozen BK133.out 1
              have hfz47_2 := blk_frozen BK133.out 2
              go_wp2_with (first | (go_at_call 19; (with_reducible refine (breaker_May.calls x134000_4 x134001_4 x134002_4 x134002_4 0 false _ A42.out).mono ?_); rintro e w48 ⟨rfl, hb⟩; have n0_ := Aside0.mk (blk_below (g := gb133) (o := .cells #[.int .i64 x134000_4, .int .i64 x134001_4, .int .i64 x134002_4] 31 (0, 0)) (by (with_reducible repeat (first | refine blk_drewN ?_ _ | refine blk_drew ?_ | refine blk_alloc ?_ _)); exact BK133.out) hb); have n1_ := Aside0.mk (below_step (by repeat (first | (with_reducible first | exact HB.out | apply below_alloc | apply pw_below_drewN | apply below_drew1 | refine below_set ?_ GE133.out) | exact HB.out)) hb); clear BK133; clear HB; have BK133 := n0_; have HB := n1_; clear n0_ n1_; (try clear hb); (try clear hb2); (try clear hk); (try clear hi)))
              go_meet
              case rel => exact ⟨_, (true), (by first | rfl | (simp; done) | (simp [*]; done)), H', ⟨by have := HJ4.out; first | omega | exact Nat.le_refl _⟩, ⟨by (with_reducible repeat (first | refine blk_drewN ?_ _ | refine blk_drew ?_ | refine blk_alloc ?_ _)); exact BK133.out⟩, ⟨by repeat (first | (with_reducible first | exact HB.out | apply below_alloc | apply pw_below_drewN | apply below_drew1 | refine below_set ?_ GE133.out) | exact HB.out)⟩⟩
        case rest =>
          clear HC24
          try clear c1
          try clear c2
          try clear p2
          try clear c3
          try clear c4
          try clear p6
          try clear c8
          try clear c8b0
          try clear c9
          try clear c9b0
          try clear c9b1
          try clear c11
          try clear c11b0
          try clear c11b1
          try clear c11b2
          try clear c15
          try clear c15b0
          try clear c15b1
          try clear c21
          try clear c23
          try clear c23b0
          try clear c23b1
          try clear c26
          try clear c26b0
          try clear c28
          try clear c32
          try clear c43
          try clear hcz12_0
          try clear hcz12_1
          try clear hcz12_2
          try clear hcz14_0
          try clear hcz14_1
          try clear hcz14_2
          try clear hcz16_0
          try clear hcz16_1
          try clear hcz16_2
          try clear hcz18_0
          try clear hcz18_1
          try clear hcz18_2
          try clear hcz19_0
          try clear hcz19_1
          try clear hcz19_2
          try clear hcz21_0
          try clear hcz21_1
          try clear hcz21_2
          try clear hcz22_0
          try clear hcz22_1
          try clear hcz22_2
          try clear hcz25_0
          try clear hcz25_1
          try clear hcz25_2
          try clear hcz29_0
          try clear hcz29_1
          try clear hcz29_2
          try clear hcz33_0
          try clear hcz33_1
          try clear hcz33_2
          try clear hcz35_0
          try clear hcz35_1
          try clear hcz35_2
          try clear hcz37_0
          try clear hcz37_1
          try clear hcz37_2
          try clear hcz38_0
          try clear hcz38_1
          try clear hcz38_2
          try clear hcz40_0
          try clear hcz40_1
          try clear hcz40_2
          try clear hcz44_0
          try clear hcz44_1
          try clear hcz44_2
          try clear hcz46_0
          try clear hcz46_1
          try clear hcz46_2
          try clear hcz47_0
          try clear hcz47_1
          try clear hcz47_2
          try clear hcz7_0
          try clear hcz7_1
          try clear hcz7_2
          try clear hfz12_0
          try clear hfz12_1
          try clear hfz12_2
          try clear hfz14_0
          try clear hfz14_1
          try clear hfz14_2
          try clear hfz16_0
          try clear hfz16_1
          try clear hfz16_2
          try clear hfz18_0
          try clear hfz18_1
          try clear hfz18_2
          try clear hfz19_0
          try clear hfz19_1
          try clear hfz19_2
          try clear hfz21_0
          try clear hfz21_1
          try clear hfz21_2
          try clear hfz22_0
          try clear hfz22_1
          try clear hfz22_2
          try clear hfz25_0
          try clear hfz25_1
          try clear hfz25_2
          try clear hfz29_0
          try clear hfz29_1
          try clear hfz29_2
          try clear hfz33_0
          try clear hfz33_1
          try clear hfz33_2
          try clear hfz35_0
          try clear hfz35_1
          try clear hfz35_2
          try clear hfz37_0
          try clear hfz37_1
          try clear hfz37_2
          try clear hfz38_0
          try clear hfz38_1
          try clear hfz38_2
          try clear hfz40_0
          try clear hfz40_1
          try clear hfz40_2
          try clear hfz44_0
          try clear hfz44_1
          try clear hfz44_2
          try clear hfz46_0
          try clear hfz46_1
          try clear hfz46_2
          try clear hfz47_0
          try clear hfz47_1
          try clear hfz47_2
          try clear hfz7_0
          try clear hfz7_1
          try clear hfz7_2
          try clear p2
          try clear p6
          obtain ⟨kq, x84_23, rfl, HA, HJ23, BK133, HB⟩ := hcut
          cases kq with
          | zero => exact absurd HA.out (by simp [decorumlaw19_BreakerOpens.j2])
          | succ kj23 =>
            have H := HA.out
            clear HA
            simp only [decorumlaw19_BreakerOpens.j2] at H
            by_cases c49 : x84_23 = true
            · subst c49
              have H1 : (some false) = some r := by rw [if_pos rfl] at H; exact H
              clear H
              have H := H1
              clear H1
              obtain rfl := Option.some.inj H
              go_wp2
              go_ret
              exact ⟨by first | rfl | (simp [errW_none, errW_some] <;> rfl) | (simp [*, errW_none, errW_some] <;> rfl), by repeat (first | (with_reducible first | exact HB.out | apply below_alloc | apply pw_below_drewN | apply below_drew1 | refine below_set ?_ GE133.out) | exact HB.out)⟩
            · replace c49 := Bool.eq_false_iff.mpr c49
              subst c49
              have H1 : ((breaker_Send.f x134000_4 x134001_4 x134002_4 x134002_4).bind fun bt142 => (if bt142.1 = 2 then ((breaker_May.f bt142.1 bt142.2.1 bt142.2.2 (wrap64 (x134002_4 + 5)) 1).bind fun t146 => (decorumlaw19_BreakerOpens.j3 kj23 a1 a3 (wrap64 ((wrap64 (Int.tmod a0 20)) + 1)) t146 x134000_4 x134001_4 x134002_4 bt142.1 bt142.2.1 bt142.2.2)) else (decorumlaw19_BreakerOpens.j3 kj23 a1 a3 (wrap64 ((wrap64 (Int.tmod a0 20)) + 1)) true x134000_4 x134001_4 x134002_4 bt142.1 bt142.2.1 bt142.2.2))) = some r := by rw [if_neg (show ¬ (false = true) by decide)] at H; exact H
              clear H
              have H := H1
              clear H1
              replace H := Option.bind_eq_some_iff.mp H
              obtain ⟨⟨t142, t143, t144⟩, A500, H⟩ := H
              replace H : (if t142 = 2 then ((breaker_May.f t142 t143 t144 (wrap64 (x134002_4 + 5)) 1).bind fun t146 => (decorumlaw19_BreakerOpens.j3 kj23 a1 a3 (wrap64 ((wrap64 (Int.tmod a0 20)) + 1)) t146 x134000_4 x134001_4 x134002_4 t142 t143 t144)) else (decorumlaw19_BreakerOpens.j3 kj23 a1 a3 (wrap64 ((wrap64 (Int.tmod a0 20)) + 1)) true x134000_4 x134001_4 x134002_4 t142 t143 t144)) = some r := H
              have A50 := Aside0.mk A500
              clear A500
              have HC51 := Aside0.mk H
              clear H
              have hcz52_0 : wc.cell? ⟨gb133, 0, none⟩ = some (.int .i64 x134000_4) := (blk_cell BK133.out 0).trans rfl
              have hcz52_1 : wc.cell? ⟨gb133, 1, none⟩ = some (.int .i64 x134001_4) := (blk_cell BK133.out 1).trans rfl
              have hcz52_2 : wc.cell? ⟨gb133, 2, none⟩ = some (.int .i64 x134002_4) := (blk_cell BK133.out 2).trans rfl
              have hfz52_0 := blk_frozen BK133.out 0
              have hfz52_1 := blk_frozen BK133.out 1
              have hfz52_2 := blk_frozen BK133.out 2
              go_upto_region 15 with (first | ((with_reducible refine gate_callee (f := 20) rfl ?_); refine goesL_ (some 88) rfl rfl Try.func20 (by kernel_rfl) rfl #[.agg #[.int .i64 x134000_4, .int .i64 x134001_4, .int .i64 x134002_4], .int .i64 x134002_4] rfl (by (try simp only [List.map_toArray, List.map_cons, List.map_nil]); first | done | rfl | (simp only [List.length_drop, List.length_take]; rfl)) ?_; (with_reducible refine (breaker_Send.calls x134000_4 x134001_4 x134002_4 x134002_4 t142 t143 t144 _ A50.out).mono ?_); rintro e w53 ⟨rfl, hb⟩; refine ⟨_, rfl, ?_⟩; have n0_ := Aside0.mk (blk_below (g := gb133) (o := .cells #[.int .i64 x134000_4, .int .i64 x134001_4, .int .i64 x134002_4] 31 (0, 0)) (by (with_reducible repeat (first | refine blk_drewN ?_ _ | refine blk_drew ?_ | refine blk_alloc ?_ _)); exact BK133.out) hb); have n1_ := Aside0.mk (below_step (by repeat (first | (with_reducible first | exact HB.out | apply below_alloc | apply pw_below_drewN | apply below_drew1 | refine below_set ?_ GE133.out) | exact HB.out)) hb); clear BK133; clear HB; have BK133 := n0_; have HB := n1_; clear n0_ n1_; (try clear hb); (try clear hb2); (try clear hk); (try clear hi)) | ((with_reducible refine gate_dst (N := 12) rfl ?_); refine box_event ?hg (N := 12) ?hd (cs := #[.int .i64 0, .int .i64 0, .int .i64 0]) (t := 31) ?hr ?_; (case hd => rfl); (case hg => rfl); (case hr => first | (go_simp; done) | (go_simp; rfl)); intro gb145 hg w54 hbox hb; have n0_ := Aside0.mk (blk_below (g := gb133) (o := .cells #[.int .i64 x134000_4, .int .i64 x134001_4, .int .i64 x134002_4] 31 (0, 0)) (by (with_reducible repeat (first | refine blk_drewN ?_ _ | refine blk_drew ?_ | refine blk_alloc ?_ _)); exact BK133.out) hb); have n1_ := Aside0.mk (below_step (by repeat (first | (with_reducible first | exact HB.out | apply below_alloc | apply pw_below_drewN | apply below_drew1 | refine below_set ?_ GE133.out) | exact HB.out)) hb); have n2_ := Aside0.mk (hbox); have n3_ := Aside0.mk ((by rw [hg]; exact (below_size (by repeat (first | (with_reducible first | exact HB.out | apply below_alloc | apply pw_below_drewN | apply below_drew1 | refine below_set ?_ GE133.out) | exact HB.out))) : w.heap.size ≤ gb145)); have n4_ := Aside0.mk ((by rw [hg]; exact (below_size (by repeat (first | (with_reducible first | exact HB.out | apply below_alloc | apply pw_below_drewN | apply below_drew1 | refine below_set ?_ GE133.out) | exact HB.out))) : w.heap.size ≤ gb145)); have n5_ := Aside0.mk ((by rw [hg]; exact Nat.ne_of_lt (blk_lt (g := gb133) (o := .cells #[.int .i64 x134000_4, .int .i64 x134001_4, .int .i64 x134002_4] 31 (0, 0)) (by (with_reducible repeat (first | refine blk_drewN ?_ _ | refine blk_drew ?_ | refine blk_alloc ?_ _)); exact BK133.out)) : gb133 ≠ gb145)); have n6_ := Aside0.mk ((by rw [hg]; exact Nat.ne_of_gt (blk_lt (g := gb133) (o := .cells #[.int .i64 x134000_4, .int .i64 x134001_4, .int .i64 x134002_4] 31 (0, 0)) (by (with_reducible repeat (first | refine blk_drewN ?_ _ | refine blk_drew ?_ | refine blk_alloc ?_ _)); exact BK133.out)) : gb145 ≠ gb133)); clear BK133; clear HB; have BK133 := n0_; have HB := n1_; have BK145 := n2_; have GW145 := n3_; have GE145 := n4_; have NB133_145 := n5_; have NB145_133 := n6_; clear n0_ n1_ n2_ n3_ n4_ n5_ n6_; clear hb hbox hg; have hnb55 := NB145_133.out; have hnc55 := NB133_145.out; have hcz56_0 : w54.cell? ⟨gb145, 0, none⟩ = some (.int .i64 0) := (blk_cell BK145.out 0).trans rfl; have hcz56_1 : w54.cell? ⟨gb145, 1, none⟩ = some (.int .i64 0) := (blk_cell BK145.out 1).trans rfl; have hcz56_2 : w54.cell? ⟨gb145, 2, none⟩ = some (.int .i64 0) := (blk_cell BK145.out 2).trans rfl; have hfz56_0 := blk_frozen BK145.out 0; have hfz56_1 := blk_frozen BK145.out 1; have hfz56_2 := blk_frozen BK145.out 2))
              (try simp only [Act.put, List.setIfInBounds_toArray, List.set_cons_zero, List.set_cons_succ])
              go_cut [98] (fun v98 wc => ∃ (kq : Nat) (x98_50 : Bool), v98 = .bool x98_50 ∧ Aside0 (decorumlaw19_BreakerOpens.j3 kq a1 a3 (wrap64 ((wrap64 (Int.tmod a0 20)) + 1)) x98_50 x134000_4 x134001_4 x134002_4 t142 t143 t144 = some r) ∧ Aside0 (kq ≤ kj23) ∧ Aside0 (wc.heap[gb133]? = some (.cells #[.int .i64 x134000_4, .int .i64 x134001_4, .int .i64 x134002_4] 31 (0, 0))) ∧ Aside0 (wc.heap[gb145]? = some (.cells #[.int .i64 t142, .int .i64 t143, .int .i64 t144] 31 (0, 0))) ∧ Aside0 (Below w.heap.size w wc))
              case first =>
                have H := HC51.out
                clear HC51
                by_cases c57 : t142 = 2
                · rw [if_pos c57] at H
                  have c57b0 : (t142 == 2) = true := beq_iff_eq.mpr c57
                  have c57b1 : (t142 != 2) = false := bne_eq_false_iff_eq.mpr c57
                  clear c57
                  (first | rw [c57b0] | (simp only [i64_w, i32_w]; rw [c57b0]) | skip)
                  replace H := Option.bind_eq_some_iff.mp H
                  obtain ⟨t146, A580, H⟩ := H
                  replace H : (decorumlaw19_BreakerOpens.j3 kj23 a1 a3 (wrap64 ((wrap64 (Int.tmod a0 20)) + 1)) t146 x134000_4 x134001_4 x134002_4 t142 t143 t144) = some r := H
                  have A58 := Aside0.mk A580
                  clear A580
                  have H' := Aside0.mk H
                  clear H
                  have hnb59 := NB145_133.out
                  have hnc59 := NB133_145.out
                  have hcz60_0 : w54.cell? ⟨gb145, 0, none⟩ = some (.int .i64 0) := (blk_cell BK145.out 0).trans rfl
                  have hcz60_1 : w54.cell? ⟨gb145, 1, none⟩ = some (.int .i64 0) := (blk_cell BK145.out 1).trans rfl
                  have hcz60_2 : w54.cell? ⟨gb145, 2, none⟩ = some (.int .i64 0) := (blk_cell BK145.out 2).trans rfl
                  have hfz60_0 := blk_frozen BK145.out 0
                  have hfz60_1 := blk_frozen BK145.out 1
                  have hfz60_2 := blk_frozen BK145.out 2
                  have hcz61_0 : w54.cell? ⟨gb133, 0, none⟩ = some (.int .i64 x134000_4) := (blk_cell BK133.out 0).trans rfl
                  have hcz61_1 : w54.cell? ⟨gb133, 1, none⟩ = some (.int .i64 x134001_4) := (blk_cell BK133.out 1).trans rfl
                  have hcz61_2 : w54.cell? ⟨gb133, 2, none⟩ = some (.int .i64 x134002_4) := (blk_cell BK133.out 2).trans rfl
                  have hfz61_0 := blk_frozen BK133.out 0
                  have hfz61_1 := blk_frozen BK133.out 1
                  have hfz61_2 := blk_frozen BK133.out 2
                  go_wp2_with (first | (go_at_call 19; (with_reducible refine (breaker_May.calls t142 t143 t144 (wrap64 (x134002_4 + 5)) 1 t146 _ A58.out).mono ?_); rintro e w62 ⟨rfl, hb⟩; have n0_ := Aside0.mk (blk_below (g := gb133) (o := .cells #[.int .i64 x134000_4, .int .i64 x134001_4, .int .i64 x134002_4] 31 (0, 0)) (by (with_reducible repeat (first | refine blk_drewN ?_ _ | refine blk_drew ?_ | refine blk_alloc ?_ _)); refine blk_far ?_ NB133_145.out _; (with_reducible repeat (first | refine blk_drewN ?_ _ | refine blk_drew ?_ | refine blk_alloc ?_ _)); refine blk_far ?_ NB133_145.out _; (with_reducible repeat (first | refine blk_drewN ?_ _ | refine blk_drew ?_ | refine blk_alloc ?_ _)); refine blk_far ?_ NB133_145.out _; (with_reducible repeat (first | refine blk_drewN ?_ _ | refine blk_drew ?_ | refine blk_alloc ?_ _)); exact BK133.out) hb); have n1_ := Aside0.mk (blk_below (g := gb145) (o := .cells #[.int .i64 t142, .int .i64 t143, .int .i64 t144] 31 (0, 0)) (by (with_reducible repeat (first | refine blk_drewN ?_ _ | refine blk_drew ?_ | refine blk_alloc ?_ _)); refine blk_put (cs := #[.int .i64 t142, .int .i64 t143, .int .i64 0]) ?_ 2 _ rfl; (with_reducible repeat (first | refine blk_drewN ?_ _ | refine blk_drew ?_ | refine blk_alloc ?_ _)); refine blk_put (cs := #[.int .i64 t142, .int .i64 0, .int .i64 0]) ?_ 1 _ rfl; (with_reducible repeat (first | refine blk_drewN ?_ _ | refine blk_drew ?_ | refine blk_alloc ?_ _)); refine blk_put (cs := #[.int .i64 0, .int .i64 0, .int .i64 0]) ?_ 0 _ rfl; (with_reducible repeat (first | refine blk_drewN ?_ _ | refine blk_drew ?_ | refine blk_alloc ?_ _)); exact BK145.out) hb); have n2_ := Aside0.mk (below_step (by repeat (first | (with_reducible first | exact HB.out | apply below_alloc | apply pw_below_drewN | apply below_drew1 | refine below_set ?_ GE133.out | refine below_set ?_ GE145.out) | exact HB.out)) hb); clear BK133; clear BK145; clear HB; have BK133 := n0_; have BK145 := n1_; have HB := n2_; clear n0_ n1_ n2_; (try clear hb); (try clear hb2); (try clear hk); (try clear hi)))
                  go_meet
                  case rel => exact ⟨_, (t146), (by first | rfl | (simp; done) | (simp [*]; done)), H', ⟨by have := HJ4.out; have := HJ23.out; first | omega | exact Nat.le_refl _⟩, ⟨by (with_reducible repeat (first | refine blk_drewN ?_ _ | refine blk_drew ?_ | refine blk_alloc ?_ _)); exact BK133.out⟩, ⟨by (with_reducible repeat (first | refine blk_drewN ?_ _ | refine blk_drew ?_ | refine blk_alloc ?_ _)); exact BK145.out⟩, ⟨by repeat (first | (with_reducible first | exact HB.out | apply below_alloc | apply pw_below_drewN | apply below_drew1 | refine below_set ?_ GE133.out | refine below_set ?_ GE145.out) | exact HB.out)⟩⟩
                · rw [if_neg c57] at H
                  have c57b0 : (t142 == 2) = false := beq_eq_false_iff_ne.mpr c57
                  have c57b1 : (t142 != 2) = true := bne_iff_ne.mpr c57
                  (first | rw [c57b0] | (simp only [i64_w, i32_w]; rw [c57b0]) | skip)
                  have H' := Aside0.mk H
                  clear H
                  have hnb63 := NB145_133.out
                  have hnc63 := NB133_145.out
                  have hcz64_0 : w54.cell? ⟨gb145, 0, none⟩ = some (.int .i64 0) := (blk_cell BK145.out 0).trans rfl
                  have hcz64_1 : w54.cell? ⟨gb145, 1, none⟩ = some (.int .i64 0) := (blk_cell BK145.out 1).trans rfl
                  have hcz64_2 : w54.cell? ⟨gb145, 2, none⟩ = some (.int .i64 0) := (blk_cell BK145.out 2).trans rfl
                  have hfz64_0 := blk_frozen BK145.out 0
                  have hfz64_1 := blk_frozen BK145.out 1
                  have hfz64_2 := blk_frozen BK145.out 2
                  go_wp2
                  go_meet
                  case rel => exact ⟨_, (true), (by first | rfl | (simp; done) | (simp [*]; done)), H', ⟨by have := HJ4.out; have := HJ23.out; first | omega | exact Nat.le_refl _⟩, ⟨by (with_reducible repeat (first | refine blk_drewN ?_ _ | refine blk_drew ?_ | refine blk_alloc ?_ _)); refine blk_far ?_ NB133_145.out _; (with_reducible repeat (first | refine blk_drewN ?_ _ | refine blk_drew ?_ | refine blk_alloc ?_ _)); refine blk_far ?_ NB133_145.out _; (with_reducible repeat (first | refine blk_drewN ?_ _ | refine blk_drew ?_ | refine blk_alloc ?_ _)); refine blk_far ?_ NB133_145.out _; (with_reducible repeat (first | refine blk_drewN ?_ _ | refine blk_drew ?_ | refine blk_alloc ?_ _)); exact BK133.out⟩, ⟨by (with_reducible repeat (first | refine blk_drewN ?_ _ | refine blk_drew ?_ | refine blk_alloc ?_ _)); refine blk_put (cs := #[.int .i64 t142, .int .i64 t143, .int .i64 0]) ?_ 2 _ rfl; (with_reducible repeat (first | refine blk_drewN ?_ _ | refine blk_drew ?_ | refine blk_alloc ?_ _)); refine blk_put (cs := #[.int .i64 t142, .int .i64 0, .int .i64 0]) ?_ 1 _ rfl; (with_reducible repeat (first | refine blk_drewN ?_ _ | refine blk_drew ?_ | refine blk_alloc ?_ _)); refine blk_put (cs := #[.int .i64 0, .int .i64 0, .int .i64 0]) ?_ 0 _ rfl; (with_reducible repeat (first | refine blk_drewN ?_ _ | refine blk_drew ?_ | refine blk_alloc ?_ _)); exact BK145.out⟩, ⟨by repeat (first | (with_reducible first | exact HB.out | apply below_alloc | apply pw_below_drewN | apply below_drew1 | refine below_set ?_ GE133.out | refine below_set ?_ GE145.out) | exact HB.out)⟩⟩
              case rest =>
                clear HC51
                try clear c1
                try clear c2
                try clear p2
                try clear c3
                try clear c4
                try clear c5
                try clear c6
                try clear p6
                try clear c8
                try clear c8b0
                try clear c9
                try clear c9b0
                try clear c9b1
                try clear c11
                try clear c11b0
                try clear c11b1
                try clear c11b2
                try clear c15
                try clear c15b0
                try clear c15b1
                try clear c20
                try clear c21
                try clear c23
                try clear c23b0
                try clear c23b1
                try clear c26
                try clear c26b0
                try clear c28
                try clear c32
                try clear c43
                try clear c49
                try clear c55
                try clear c57
                try clear c57b0
                try clear c57b1
                try clear c59
                try clear c63
                try clear p64
                try clear hcz12_0
                try clear hcz12_1
                try clear hcz12_2
                try clear hcz14_0
                try clear hcz14_1
                try clear hcz14_2
                try clear hcz16_0
                try clear hcz16_1
                try clear hcz16_2
                try clear hcz18_0
                try clear hcz18_1
                try clear hcz18_2
                try clear hcz19_0
                try clear hcz19_1
                try clear hcz19_2
                try clear hcz21_0
                try clear hcz21_1
                try clear hcz21_2
                try clear hcz22_0
                try clear hcz22_1
                try clear hcz22_2
                try clear hcz25_0
                try clear hcz25_1
                try clear hcz25_2
                try clear hcz29_0
                try clear hcz29_1
                try clear hcz29_2
                try clear hcz33_0
                try clear hcz33_1
                try clear hcz33_2
                try clear hcz35_0
                try clear hcz35_1
                try clear hcz35_2
                try clear hcz37_0
                try clear hcz37_1
                try clear hcz37_2
                try clear hcz38_0
                try clear hcz38_1
                try clear hcz38_2
                try clear hcz40_0
                try clear hcz40_1
                try clear hcz40_2
                try clear hcz44_0
                try clear hcz44_1
                try clear hcz44_2
                try clear hcz46_0
                try clear hcz46_1
                try clear hcz46_2
                try clear hcz47_0
                try clear hcz47_1
                try clear hcz47_2
                try clear hcz52_0
                try clear hcz52_1
                try clear hcz52_2
                try clear hcz56_0
                try clear hcz56_1
                try clear hcz56_2
                try clear hcz60_0
                try clear hcz60_1
                try clear hcz60_2
                try clear hcz61_0
                try clear hcz61_1
                try clear hcz61_2
                try clear hcz64_0
                try clear hcz64_1
                try clear hcz64_2
                try clear hcz7_0
                try clear hcz7_1
                try clear hcz7_2
                try clear hfz12_0
                try clear hfz12_1
                try clear hfz12_2
                try clear hfz14_0
                try clear hfz14_1
                try clear hfz14_2
                try clear hfz16_0
                try clear hfz16_1
                try clear hfz16_2
                try clear hfz18_0
                try clear hfz18_1
                try clear hfz18_2
                try clear hfz19_0
                try clear hfz19_1
                try clear hfz19_2
                try clear hfz21_0
                try clear hfz21_1
                try clear hfz21_2
                try clear hfz22_0
                try clear hfz22_1
                try clear hfz22_2
                try clear hfz25_0
                try clear hfz25_1
                try clear hfz25_2
                try clear hfz29_0
                try clear hfz29_1
                try clear hfz29_2
                try clear hfz33_0
                try clear hfz33_1
                try clear hfz33_2
                try clear hfz35_0
                try clear hfz35_1
                try clear hfz35_2
                try clear hfz37_0
                try clear hfz37_1
                try clear hfz37_2
                try clear hfz38_0
                try clear hfz38_1
                try clear hfz38_2
                try clear hfz40_0
                try clear hfz40_1
                try clear hfz40_2
                try clear hfz44_0
                try clear hfz44_1
                try clear hfz44_2
                try clear hfz46_0
                try clear hfz46_1
                try clear hfz46_2
                try clear hfz47_0
                try clear hfz47_1
                try clear hfz47_2
                try clear hfz52_0
                try clear hfz52_1
                try clear hfz52_2
                try clear hfz56_0
                try clear hfz56_1
                try clear hfz56_2
                try clear hfz60_0
                try clear hfz60_1
                try clear hfz60_2
                try clear hfz61_0
                try clear hfz61_1
                try clear hfz61_2
                try clear hfz64_0
                try clear hfz64_1
                try clear hfz64_2
                try clear hfz7_0
                try clear hfz7_1
                try clear hfz7_2
                try clear p2
                try clear p6
                obtain ⟨kq, x98_50, rfl, HA, HJ50, BK133, BK145, HB⟩ := hcut
                cases kq with
                | zero => exact absurd HA.out (by simp [decorumlaw19_BreakerOpens.j3])
                | succ kj50 =>
                  have H := HA.out
                  clear HA
                  simp only [decorumlaw19_BreakerOpens.j3] at H
                  by_cases c65 : x98_50 = true
                  · subst c65
                    have H1 : (some false) = some r := by rw [if_pos rfl] at H; exact H
                    clear H
                    have H := H1
                    clear H1
                    obtain rfl := Option.some.inj H
                    go_wp2
                    go_ret
                    exact ⟨by first | rfl | (simp [errW_none, errW_some] <;> rfl) | (simp [*, errW_none, errW_some] <;> rfl), by repeat (first | (with_reducible first | exact HB.out | apply below_alloc | apply pw_below_drewN | apply below_drew1 | refine below_set ?_ GE133.out | refine below_set ?_ GE145.out) | exact HB.out)⟩
                  · replace c65 := Bool.eq_false_iff.mpr c65
                    subst c65
                    have H1 : (if a3 = true then ((decorumlaw19_awake.f).bind fun t147 => (if t147 = true then ((breaker_Good.f t142 t143 t144).bind fun bt148 => ((breaker_May.f bt148.1 bt148.2.1 bt148.2.2 0 5).bind fun t151 => (some t151))) else (some false))) else ((breaker_Fail.f t142 t143 t144 (wrap64 (x134002_4 + 3)) (wrap64 ((wrap64 (Int.tmod a0 20)) + 1)) (wrap64 (a1))).bind fun bt152 => ((decorumlaw19_awake.f).bind fun t156 => (if t156 = true then (if bt152.1 = 1 then (some (bt152.2.2 == (wrap64 ((wrap64 (x134002_4 + 3)) + (wrap64 (a1)))))) else (some false)) else (some false))))) = some r := by rw [if_neg (show ¬ (false = true) by decide)] at H; exact H
                    clear H
                    have H := H1
                    clear H1
                    by_cases c66 : a3 = true
                    · subst c66
                      have H1 : ((decorumlaw19_awake.f).bind fun t147 => (if t147 = true then ((breaker_Good.f t142 t143 t144).bind fun bt148 => ((breaker_May.f bt148.1 bt148.2.1 bt148.2.2 0 5).bind fun t151 => (some t151))) else (some false))) = some r := by rw [if_pos rfl] at H; exact H
                      clear H
                      have H := H1
                      clear H1
                      replace H := Option.bind_eq_some_iff.mp H
                      obtain ⟨t147, A670, H⟩ := H
                      replace H : (if t147 = true then ((breaker_Good.f t142 t143 t144).bind fun bt148 => ((breaker_May.f bt148.1 bt148.2.1 bt148.2.2 0 5).bind fun t151 => (some t151))) else (some false)) = some r := H
                      have A67 := Aside0.mk A670
                      clear A670
                      by_cases c68 : t147 = true
                      · subst c68
                        have H1 : ((breaker_Good.f t142 t143 t144).bind fun bt148 => ((breaker_May.f bt148.1 bt148.2.1 bt148.2.2 0 5).bind fun t151 => (some t151))) = some r := by rw [if_pos rfl] at H; exact H
                        clear H
                        have H := H1
                        clear H1
                        replace H := Option.bind_eq_some_iff.mp H
                        obtain ⟨⟨t148, t149, t150⟩, A690, H⟩ := H
                        replace H : ((breaker_May.f t148 t149 t150 0 5).bind fun t151 => (some t151)) = some r := H
                        have A69 := Aside0.mk A690
                        clear A690
                        replace H := Option.bind_eq_some_iff.mp H
                        obtain ⟨t151, A700, H⟩ := H
                        replace H : (some t151) = some r := H
                        have A70 := Aside0.mk A700
                        clear A700
                        obtain rfl := Option.some.inj H
                        go_wp2_with (first | ((with_reducible refine gate_callee (f := 18) rfl ?_); refine goesL_ (some 100) rfl rfl Try.func18 (by kernel_rfl) rfl #[] rfl (by (try simp only [List.map_toArray, List.map_cons, List.map_nil]); first | done | rfl | (simp only [List.length_drop, List.length_take]; rfl)) ?_; (with_reducible refine (decorumlaw19_awake.calls  true _ A67.out).mono ?_); rintro e w71 ⟨rfl, hb⟩; refine ⟨_, rfl, ?_⟩; have n0_ := Aside0.mk (blk_below (g := gb133) (o := .cells #[.int .i64 x134000_4, .int .i64 x134001_4, .int .i64 x134002_4] 31 (0, 0)) (by (with_reducible repeat (first | refine blk_drewN ?_ _ | refine blk_drew ?_ | refine blk_alloc ?_ _)); exact BK133.out) hb); have n1_ := Aside0.mk (blk_below (g := gb145) (o := .cells #[.int .i64 t142, .int .i64 t143, .int .i64 t144] 31 (0, 0)) (by (with_reducible repeat (first | refine blk_drewN ?_ _ | refine blk_drew ?_ | refine blk_alloc ?_ _)); exact BK145.out) hb); have n2_ := Aside0.mk (below_step (by repeat (first | (with_reducible first | exact HB.out | apply below_alloc | apply pw_below_drewN | apply below_drew1 | refine below_set ?_ GE133.out | refine below_set ?_ GE145.out) | exact HB.out)) hb); clear BK133; clear BK145; clear HB; have BK133 := n0_; have BK145 := n1_; have HB := n2_; clear n0_ n1_ n2_; (try clear hb); (try clear hb2); (try clear hk); (try clear hi); have hnb72 := NB145_133.out; have hnc72 := NB133_145.out; have hcz73_0 : w71.cell? ⟨gb145, 0, none⟩ = some (.int .i64 t142) := (blk_cell BK145.out 0).trans rfl; have hcz73_1 : w71.cell? ⟨gb145, 1, none⟩ = some (.int .i64 t143) := (blk_cell BK145.out 1).trans rfl; have hcz73_2 : w71.cell? ⟨gb145, 2, none⟩ = some (.int .i64 t144) := (blk_cell BK145.out 2).trans rfl; have hfz73_0 := blk_frozen BK145.out 0; have hfz73_1 := blk_frozen BK145.out 1; have hfz73_2 := blk_frozen BK145.out 2) | (go_at_call 22; (with_reducible refine (breaker_Good.calls t142 t143 t144 t148 t149 t150 _ A69.out).mono ?_); rintro e w74 ⟨rfl, hb⟩; have n0_ := Aside0.mk (blk_below (g := gb133) (o := .cells #[.int .i64 x134000_4, .int .i64 x134001_4, .int .i64 x134002_4] 31 (0, 0)) (by (with_reducible repeat (first | refine blk_drewN ?_ _ | refine blk_drew ?_ | refine blk_alloc ?_ _)); exact BK133.out) hb); have n1_ := Aside0.mk (blk_below (g := gb145) (o := .cells #[.int .i64 t142, .int .i64 t143, .int .i64 t144] 31 (0, 0)) (by (with_reducible repeat (first | refine blk_drewN ?_ _ | refine blk_drew ?_ | refine blk_alloc ?_ _)); exact BK145.out) hb); have n2_ := Aside0.mk (below_step (by repeat (first | (with_reducible first | exact HB.out | apply below_alloc | apply pw_below_drewN | apply below_drew1 | refine below_set ?_ GE133.out | refine below_set ?_ GE145.out) | exact HB.out)) hb); clear BK133; clear BK145; clear HB; have BK133 := n0_; have BK145 := n1_; have HB := n2_; clear n0_ n1_ n2_; (try clear hb); (try clear hb2); (try clear hk); (try clear hi)) | (go_at_call 19; (with_reducible refine (breaker_May.calls t148 t149 t150 0 5 t151 _ A70.out).mono ?_); rintro e w75 ⟨rfl, hb⟩; have n0_ := Aside0.mk (blk_below (g := gb133) (o := .cells #[.int .i64 x134000_4, .int .i64 x134001_4, .int .i64 x134002_4] 31 (0, 0)) (by (with_reducible repeat (first | refine blk_drewN ?_ _ | refine blk_drew ?_ | refine blk_alloc ?_ _)); exact BK133.out) hb); have n1_ := Aside0.mk (blk_below (g := gb145) (o := .cells #[.int .i64 t142, .int .i64 t143, .int .i64 t144] 31 (0, 0)) (by (with_reducible repeat (first | refine blk_drewN ?_ _ | refine blk_drew ?_ | refine blk_alloc ?_ _)); exact BK145.out) hb); have n2_ := Aside0.mk (below_step (by repeat (first | (with_reducible first | exact HB.out | apply below_alloc | apply pw_below_drewN | apply below_drew1 | refine below_set ?_ GE133.out | refine below_set ?_ GE145.out) | exact HB.out)) hb); clear BK133; clear BK145; clear HB; have BK133 := n0_; have BK145 := n1_; have HB := n2_; clear n0_ n1_ n2_; (try clear hb); (try clear hb2); (try clear hk); (try clear hi)))
                        go_ret
                        exact ⟨by first | rfl | (simp [errW_none, errW_some] <;> rfl) | (simp [*, errW_none, errW_some] <;> rfl), by repeat (first | (with_reducible first | exact HB.out | apply below_alloc | apply pw_below_drewN | apply below_drew1 | refine below_set ?_ GE133.out | refine below_set ?_ GE145.out) | exact HB.out)⟩
                      · replace c68 := Bool.eq_false_iff.mpr c68
                        subst c68
                        have H1 : (some false) = some r := by rw [if_neg (show ¬ (false = true) by decide)] at H; exact H
                        clear H
                        have H := H1
                        clear H1
                        obtain rfl := Option.some.inj H
                        go_wp2_with (first | ((with_reducible refine gate_callee (f := 18) rfl ?_); refine goesL_ (some 100) rfl rfl Try.func18 (by kernel_rfl) rfl #[] rfl (by (try simp only [List.map_toArray, List.map_cons, List.map_nil]); first | done | rfl | (simp only [List.length_drop, List.length_take]; rfl)) ?_; (with_reducible refine (decorumlaw19_awake.calls  false _ A67.out).mono ?_); rintro e w76 ⟨rfl, hb⟩; refine ⟨_, rfl, ?_⟩; have n0_ := Aside0.mk (blk_below (g := gb133) (o := .cells #[.int .i64 x134000_4, .int .i64 x134001_4, .int .i64 x134002_4] 31 (0, 0)) (by (with_reducible repeat (first | refine blk_drewN ?_ _ | refine blk_drew ?_ | refine blk_alloc ?_ _)); exact BK133.out) hb); have n1_ := Aside0.mk (blk_below (g := gb145) (o := .cells #[.int .i64 t142, .int .i64 t143, .int .i64 t144] 31 (0, 0)) (by (with_reducible repeat (first | refine blk_drewN ?_ _ | refine blk_drew ?_ | refine blk_alloc ?_ _)); exact BK145.out) hb); have n2_ := Aside0.mk (below_step (by repeat (first | (with_reducible first | exact HB.out | apply below_alloc | apply pw_below_drewN | apply below_drew1 | refine below_set ?_ GE133.out | refine below_set ?_ GE145.out) | exact HB.out)) hb); clear BK133; clear BK145; clear HB; have BK133 := n0_; have BK145 := n1_; have HB := n2_; clear n0_ n1_ n2_; (try clear hb); (try clear hb2); (try clear hk); (try clear hi)))
                        go_ret
                        exact ⟨by first | rfl | (simp [errW_none, errW_some] <;> rfl) | (simp [*, errW_none, errW_some] <;> rfl), by repeat (first | (with_reducible first | exact HB.out | apply below_alloc | apply pw_below_drewN | apply below_drew1 | refine below_set ?_ GE133.out | refine below_set ?_ GE145.out) | exact HB.out)⟩
                    · replace c66 := Bool.eq_false_iff.mpr c66
                      subst c66
                      have H1 : ((breaker_Fail.f t142 t143 t144 (wrap64 (x134002_4 + 3)) (wrap64 ((wrap64 (Int.tmod a0 20)) + 1)) (wrap64 (a1))).bind fun bt152 => ((decorumlaw19_awake.f).bind fun t156 => (if t156 = true then (if bt152.1 = 1 then (some (bt152.2.2 == (wrap64 ((wrap64 (x134002_4 + 3)) + (wrap64 (a1)))))) else (some false)) else (some false)))) = some r := by rw [if_neg (show ¬ (false = true) by decide)] at H; exact H
                      clear H
                      have H := H1
                      clear H1
                      replace H := Option.bind_eq_some_iff.mp H
                      obtain ⟨⟨t152, t153, t154⟩, A770, H⟩ := H
                      replace H : ((decorumlaw19_awake.f).bind fun t156 => (if t156 = true then (if t152 = 1 then (some (t154 == (wrap64 ((wrap64 (x134002_4 + 3)) + (wrap64 (a1)))))) else (some false)) else (some false))) = some r := H
                      have A77 := Aside0.mk A770
                      clear A770
                      replace H := Option.bind_eq_some_iff.mp H
                      obtain ⟨t156, A780, H⟩ := H
                      replace H : (if t156 = true then (if t152 = 1 then (some (t154 == (wrap64 ((wrap64 (x134002_4 + 3)) + (wrap64 (a1)))))) else (some false)) else (some false)) = some r := H
                      have A78 := Aside0.mk A780
                      clear A780
                      by_cases c79 : t156 = true
                      · subst c79
                        have H1 : (if t152 = 1 then (some (t154 == (wrap64 ((wrap64 (x134002_4 + 3)) + (wrap64 (a1)))))) else (some false)) = some r := by rw [if_pos rfl] at H; exact H
                        clear H
                        have H := H1
                        clear H1
                        by_cases c80 : t152 = 1
                        · rw [if_pos c80] at H
                          have c80b0 : (t152 == 1) = true := beq_iff_eq.mpr c80
                          have c80b1 : (t152 != 1) = false := bne_eq_false_iff_eq.mpr c80
                          clear c80
                          obtain rfl := Option.some.inj H
                          have hnb81 := NB145_133.out
                          have hnc81 := NB133_145.out
                          have hcz82_0 : wc.cell? ⟨gb145, 0, none⟩ = some (.int .i64 t142) := (blk_cell BK145.out 0).trans rfl
                          have hcz82_1 : wc.cell? ⟨gb145, 1, none⟩ = some (.int .i64 t143) := (blk_cell BK145.out 1).trans rfl
                          have hcz82_2 : wc.cell? ⟨gb145, 2, none⟩ = some (.int .i64 t144) := (blk_cell BK145.out 2).trans rfl
                          have hfz82_0 := blk_frozen BK145.out 0
                          have hfz82_1 := blk_frozen BK145.out 1
                          have hfz82_2 := blk_frozen BK145.out 2
                          have hcz83_0 : wc.cell? ⟨gb133, 0, none⟩ = some (.int .i64 x134000_4) := (blk_cell BK133.out 0).trans rfl
                          have hcz83_1 : wc.cell? ⟨gb133, 1, none⟩ = some (.int .i64 x134001_4) := (blk_cell BK133.out 1).trans rfl
                          have hcz83_2 : wc.cell? ⟨gb133, 2, none⟩ = some (.int .i64 x134002_4) := (blk_cell BK133.out 2).trans rfl
                          have hfz83_0 := blk_frozen BK133.out 0
                          have hfz83_1 := blk_frozen BK133.out 1
                          have hfz83_2 := blk_frozen BK133.out 2
                          go_wp2_with (first | ((with_reducible refine gate_callee (f := 21) rfl ?_); refine goesL_ (some 113) rfl rfl Try.func21 (by kernel_rfl) rfl #[.agg #[.int .i64 t142, .int .i64 t143, .int .i64 t144], .int .i64 (wrap64 (x134002_4 + 3)), .int .i64 (wrap64 ((wrap64 (Int.tmod a0 20)) + 1)), .int .i64 (wrap64 (a1))] rfl (by (try simp only [List.map_toArray, List.map_cons, List.map_nil]); first | done | rfl | (simp only [List.length_drop, List.length_take]; rfl)) ?_; (with_reducible refine (breaker_Fail.calls t142 t143 t144 (wrap64 (x134002_4 + 3)) (wrap64 ((wrap64 (Int.tmod a0 20)) + 1)) (wrap64 (a1)) t152 t153 t154 _ A77.out).mono ?_); rintro e w84 ⟨rfl, hb⟩; refine ⟨_, rfl, ?_⟩; have n0_ := Aside0.mk (blk_below (g := gb133) (o := .cells #[.int .i64 x134000_4, .int .i64 x134001_4, .int .i64 x134002_4] 31 (0, 0)) (by (with_reducible repeat (first | refine blk_drewN ?_ _ | refine blk_drew ?_ | refine blk_alloc ?_ _)); exact BK133.out) hb); have n1_ := Aside0.mk (blk_below (g := gb145) (o := .cells #[.int .i64 t142, .int .i64 t143, .int .i64 t144] 31 (0, 0)) (by (with_reducible repeat (first | refine blk_drewN ?_ _ | refine blk_drew ?_ | refine blk_alloc ?_ _)); exact BK145.out) hb); have n2_ := Aside0.mk (below_step (by repeat (first | (with_reducible first | exact HB.out | apply below_alloc | apply pw_below_drewN | apply below_drew1 | refine below_set ?_ GE133.out | refine below_set ?_ GE145.out) | exact HB.out)) hb); clear BK133; clear BK145; clear HB; have BK133 := n0_; have BK145 := n1_; have HB := n2_; clear n0_ n1_ n2_; (try clear hb); (try clear hb2); (try clear hk); (try clear hi)) | ((with_reducible refine gate_dst (N := 13) rfl ?_); refine box_event ?hg (N := 13) ?hd (cs := #[.int .i64 0, .int .i64 0, .int .i64 0]) (t := 31) ?hr ?_; (case hd => rfl); (case hg => rfl); (case hr => first | (go_simp; done) | (go_simp; rfl)); intro gb155 hg w85 hbox hb; have n0_ := Aside0.mk (blk_below (g := gb133) (o := .cells #[.int .i64 x134000_4, .int .i64 x134001_4, .int .i64 x134002_4] 31 (0, 0)) (by (with_reducible repeat (first | refine blk_drewN ?_ _ | refine blk_drew ?_ | refine blk_alloc ?_ _)); exact BK133.out) hb); have n1_ := Aside0.mk (blk_below (g := gb145) (o := .cells #[.int .i64 t142, .int .i64 t143, .int .i64 t144] 31 (0, 0)) (by (with_reducible repeat (first | refine blk_drewN ?_ _ | refine blk_drew ?_ | refine blk_alloc ?_ _)); exact BK145.out) hb); have n2_ := Aside0.mk (below_step (by repeat (first | (with_reducible first | exact HB.out | apply below_alloc | apply pw_below_drewN | apply below_drew1 | refine below_set ?_ GE133.out | refine below_set ?_ GE145.out) | exact HB.out)) hb); have n3_ := Aside0.mk (hbox); have n4_ := Aside0.mk ((by rw [hg]; exact (below_size (by repeat (first | (with_reducible first | exact HB.out | apply below_alloc | apply pw_below_drewN | apply below_drew1 | refine below_set ?_ GE133.out | refine below_set ?_ GE145.out) | exact HB.out))) : w.heap.size ≤ gb155)); have n5_ := Aside0.mk ((by rw [hg]; exact (below_size (by repeat (first | (with_reducible first | exact HB.out | apply below_alloc | apply pw_below_drewN | apply below_drew1 | refine below_set ?_ GE133.out | refine below_set ?_ GE145.out) | exact HB.out))) : w.heap.size ≤ gb155)); have n6_ := Aside0.mk ((by rw [hg]; exact Nat.ne_of_lt (blk_lt (g := gb133) (o := .cells #[.int .i64 x134000_4, .int .i64 x134001_4, .int .i64 x134002_4] 31 (0, 0)) (by (with_reducible repeat (first | refine blk_drewN ?_ _ | refine blk_drew ?_ | refine blk_alloc ?_ _)); exact BK133.out)) : gb133 ≠ gb155)); have n7_ := Aside0.mk ((by rw [hg]; exact Nat.ne_of_gt (blk_lt (g := gb133) (o := .cells #[.int .i64 x134000_4, .int .i64 x134001_4, .int .i64 x134002_4] 31 (0, 0)) (by (with_reducible repeat (first | refine blk_drewN ?_ _ | refine blk_drew ?_ | refine blk_alloc ?_ _)); exact BK133.out)) : gb155 ≠ gb133)); have n8_ := Aside0.mk ((by rw [hg]; exact Nat.ne_of_lt (blk_lt (g := gb145) (o := .cells #[.int .i64 t142, .int .i64 t143, .int .i64 t144] 31 (0, 0)) (by (with_reducible repeat (first | refine blk_drewN ?_ _ | refine blk_drew ?_ | refine blk_alloc ?_ _)); exact BK145.out)) : gb145 ≠ gb155)); have n9_ := Aside0.mk ((by rw [hg]; exact Nat.ne_of_gt (blk_lt (g := gb145) (o := .cells #[.int .i64 t142, .int .i64 t143, .int .i64 t144] 31 (0, 0)) (by (with_reducible repeat (first | refine blk_drewN ?_ _ | refine blk_drew ?_ | refine blk_alloc ?_ _)); exact BK145.out)) : gb155 ≠ gb145)); clear BK133; clear BK145; clear HB; have BK133 := n0_; have BK145 := n1_; have HB := n2_; have BK155 := n3_; have GW155 := n4_; have GE155 := n5_; have NB133_155 := n6_; have NB155_133 := n7_; have NB145_155 := n8_; have NB155_145 := n9_; clear n0_ n1_ n2_ n3_ n4_ n5_ n6_ n7_ n8_ n9_; clear hb hbox hg; have hnb86 := NB155_133.out; have hnc86 := NB133_155.out; have hnb87 := NB155_145.out; have hnc87 := NB145_155.out; have hcz88_0 : w85.cell? ⟨gb155, 0, none⟩ = some (.int .i64 0) := (blk_cell BK155.out 0).trans rfl; have hcz88_1 : w85.cell? ⟨gb155, 1, none⟩ = some (.int .i64 0) := (blk_cell BK155.out 1).trans rfl; have hcz88_2 : w85.cell? ⟨gb155, 2, none⟩ = some (.int .i64 0) := (blk_cell BK155.out 2).trans rfl; have hfz88_0 := blk_frozen BK155.out 0; have hfz88_1 := blk_frozen BK155.out 1; have hfz88_2 := blk_frozen BK155.out 2) | ((with_reducible refine gate_callee (f := 18) rfl ?_); refine goesL_ (some 114) rfl rfl Try.func18 (by kernel_rfl) rfl #[] rfl (by (try simp only [List.map_toArray, List.map_cons, List.map_nil]); first | done | rfl | (simp only [List.length_drop, List.length_take]; rfl)) ?_; (with_reducible refine (decorumlaw19_awake.calls  true _ A78.out).mono ?_); rintro e w89 ⟨rfl, hb⟩; refine ⟨_, rfl, ?_⟩; have n0_ := Aside0.mk (blk_below (g := gb133) (o := .cells #[.int .i64 x134000_4, .int .i64 x134001_4, .int .i64 x134002_4] 31 (0, 0)) (by (with_reducible repeat (first | refine blk_drewN ?_ _ | refine blk_drew ?_ | refine blk_alloc ?_ _)); refine blk_far ?_ NB133_155.out _; (with_reducible repeat (first | refine blk_drewN ?_ _ | refine blk_drew ?_ | refine blk_alloc ?_ _)); refine blk_far ?_ NB133_155.out _; (with_reducible repeat (first | refine blk_drewN ?_ _ | refine blk_drew ?_ | refine blk_alloc ?_ _)); refine blk_far ?_ NB133_155.out _; (with_reducible repeat (first | refine blk_drewN ?_ _ | refine blk_drew ?_ | refine blk_alloc ?_ _)); exact BK133.out) hb); have n1_ := Aside0.mk (blk_below (g := gb145) (o := .cells #[.int .i64 t142, .int .i64 t143, .int .i64 t144] 31 (0, 0)) (by (with_reducible repeat (first | refine blk_drewN ?_ _ | refine blk_drew ?_ | refine blk_alloc ?_ _)); refine blk_far ?_ NB145_155.out _; (with_reducible repeat (first | refine blk_drewN ?_ _ | refine blk_drew ?_ | refine blk_alloc ?_ _)); refine blk_far ?_ NB145_155.out _; (with_reducible repeat (first | refine blk_drewN ?_ _ | refine blk_drew ?_ | refine blk_alloc ?_ _)); refine blk_far ?_ NB145_155.out _; (with_reducible repeat (first | refine blk_drewN ?_ _ | refine blk_drew ?_ | refine blk_alloc ?_ _)); exact BK145.out) hb); have n2_ := Aside0.mk (blk_below (g := gb155) (o := .cells #[.int .i64 t152, .int .i64 t153, .int .i64 t154] 31 (0, 0)) (by (with_reducible repeat (first | refine blk_drewN ?_ _ | refine blk_drew ?_ | refine blk_alloc ?_ _)); refine blk_put (cs := #[.int .i64 t152, .int .i64 t153, .int .i64 0]) ?_ 2 _ rfl; (with_reducible repeat (first | refine blk_drewN ?_ _ | refine blk_drew ?_ | refine blk_alloc ?_ _)); refine blk_put (cs := #[.int .i64 t152, .int .i64 0, .int .i64 0]) ?_ 1 _ rfl; (with_reducible repeat (first | refine blk_drewN ?_ _ | refine blk_drew ?_ | refine blk_alloc ?_ _)); refine blk_put (cs := #[.int .i64 0, .int .i64 0, .int .i64 0]) ?_ 0 _ rfl; (with_reducible repeat (first | refine blk_drewN ?_ _ | refine blk_drew ?_ | refine blk_alloc ?_ _)); exact BK155.out) hb); have n3_ := Aside0.mk (below_step (by repeat (first | (with_reducible first | exact HB.out | apply below_alloc | apply pw_below_drewN | apply below_drew1 | refine below_set ?_ GE133.out | refine below_set ?_ GE145.out | refine below_set ?_ GE155.out) | exact HB.out)) hb); clear BK133; clear BK145; clear BK155; clear HB; have BK133 := n0_; have BK145 := n1_; have BK155 := n2_; have HB := n3_; clear n0_ n1_ n2_ n3_; (try clear hb); (try clear hb2); (try clear hk); (try clear hi); have hcz90_0 : w89.cell? ⟨gb155, 0, none⟩ = some (.int .i64 t152) := (blk_cell BK155.out 0).trans rfl; have hcz90_1 : w89.cell? ⟨gb155, 1, none⟩ = some (.int .i64 t153) := (blk_cell BK155.out 1).trans rfl; have hcz90_2 : w89.cell? ⟨gb155, 2, none⟩ = some (.int .i64 t154) := (blk_cell BK155.out 2).trans rfl; have hfz90_0 := blk_frozen BK155.out 0; have hfz90_1 := blk_frozen BK155.out 1; have hfz90_2 := blk_frozen BK155.out 2; have hcz91_0 : w89.cell? ⟨gb133, 0, none⟩ = some (.int .i64 x134000_4) := (blk_cell BK133.out 0).trans rfl; have hcz91_1 : w89.cell? ⟨gb133, 1, none⟩ = some (.int .i64 x134001_4) := (blk_cell BK133.out 1).trans rfl; have hcz91_2 : w89.cell? ⟨gb133, 2, none⟩ = some (.int .i64 x134002_4) := (blk_cell BK133.out 2).trans rfl; have hfz91_0 := blk_frozen BK133.out 0; have hfz91_1 := blk_frozen BK133.out 1; have hfz91_2 := blk_frozen BK133.out 2))
                          go_ret
                          exact ⟨by first | rfl | (simp [errW_none, errW_some] <;> rfl) | (simp [*, errW_none, errW_some] <;> rfl), by repeat (first | (with_reducible first | exact HB.out | apply below_alloc | apply pw_below_drewN | apply below_drew1 | refine below_set ?_ GE133.out | refine below_set ?_ GE145.out | refine below_set ?_ GE155.out) | exact HB.out)⟩
                        · rw [if_neg c80] at H
                          have c80b0 : (t152 == 1) = false := beq_eq_false_iff_ne.mpr c80
                          have c80b1 : (t152 != 1) = true := bne_iff_ne.mpr c80
                          obtain rfl := Option.some.inj H
                          have hnb92 := NB145_133.out
                          have hnc92 := NB133_145.out
                          have hcz93_0 : wc.cell? ⟨gb145, 0, none⟩ = some (.int .i64 t142) := (blk_cell BK145.out 0).trans rfl
                          have hcz93_1 : wc.cell? ⟨gb145, 1, none⟩ = some (.int .i64 t143) := (blk_cell BK145.out 1).trans rfl
                          have hcz93_2 : wc.cell? ⟨gb145, 2, none⟩ = some (.int .i64 t144) := (blk_cell BK145.out 2).trans rfl
                          have hfz93_0 := blk_frozen BK145.out 0
                          have hfz93_1 := blk_frozen BK145.out 1
                          have hfz93_2 := blk_frozen BK145.out 2
                          have hcz94_0 : wc.cell? ⟨gb133, 0, none⟩ = some (.int .i64 x134000_4) := (blk_cell BK133.out 0).trans rfl
                          have hcz94_1 : wc.cell? ⟨gb133, 1, none⟩ = some (.int .i64 x134001_4) := (blk_cell BK133.out 1).trans rfl
                          have hcz94_2 : wc.cell? ⟨gb133, 2, none⟩ = some (.int .i64 x134002_4) := (blk_cell BK133.out 2).trans rfl
                          have hfz94_0 := blk_frozen BK133.out 0
                          have hfz94_1 := blk_frozen BK133.out 1
                          have hfz94_2 := blk_frozen BK133.out 2
                          go_wp2_with (first | ((with_reducible refine gate_callee (f := 21) rfl ?_); refine goesL_ (some 113) rfl rfl Try.func21 (by kernel_rfl) rfl #[.agg #[.int .i64 t142, .int .i64 t143, .int .i64 t144], .int .i64 (wrap64 (x134002_4 + 3)), .int .i64 (wrap64 ((wrap64 (Int.tmod a0 20)) + 1)), .int .i64 (wrap64 (a1))] rfl (by (try simp only [List.map_toArray, List.map_cons, List.map_nil]); first | done | rfl | (simp only [List.length_drop, List.length_take]; rfl)) ?_; (with_reducible refine (breaker_Fail.calls t142 t143 t144 (wrap64 (x134002_4 + 3)) (wrap64 ((wrap64 (Int.tmod a0 20)) + 1)) (wrap64 (a1)) t152 t153 t154 _ A77.out).mono ?_); rintro e w95 ⟨rfl, hb⟩; refine ⟨_, rfl, ?_⟩; have n0_ := Aside0.mk (blk_below (g := gb133) (o := .cells #[.int .i64 x134000_4, .int .i64 x134001_4, .int .i64 x134002_4] 31 (0, 0)) (by (with_reducible repeat (first | refine blk_drewN ?_ _ | refine blk_drew ?_ | refine blk_alloc ?_ _)); exact BK133.out) hb); have n1_ := Aside0.mk (blk_below (g := gb145) (o := .cells #[.int .i64 t142, .int .i64 t143, .int .i64 t144] 31 (0, 0)) (by (with_reducible repeat (first | refine blk_drewN ?_ _ | refine blk_drew ?_ | refine blk_alloc ?_ _)); exact BK145.out) hb); have n2_ := Aside0.mk (below_step (by repeat (first | (with_reducible first | exact HB.out | apply below_alloc | apply pw_below_drewN | apply below_drew1 | refine below_set ?_ GE133.out | refine below_set ?_ GE145.out) | exact HB.out)) hb); clear BK133; clear BK145; clear HB; have BK133 := n0_; have BK145 := n1_; have HB := n2_; clear n0_ n1_ n2_; (try clear hb); (try clear hb2); (try clear hk); (try clear hi)) | ((with_reducible refine gate_dst (N := 13) rfl ?_); refine box_event ?hg (N := 13) ?hd (cs := #[.int .i64 0, .int .i64 0, .int .i64 0]) (t := 31) ?hr ?_; (case hd => rfl); (case hg => rfl); (case hr => first | (go_simp; done) | (go_simp; rfl)); intro gb155 hg w96 hbox hb; have n0_ := Aside0.mk (blk_below (g := gb133) (o := .cells #[.int .i64 x134000_4, .int .i64 x134001_4, .int .i64 x134002_4] 31 (0, 0)) (by (with_reducible repeat (first | refine blk_drewN ?_ _ | refine blk_drew ?_ | refine blk_alloc ?_ _)); exact BK133.out) hb); have n1_ := Aside0.mk (blk_below (g := gb145) (o := .cells #[.int .i64 t142, .int .i64 t143, .int .i64 t144] 31 (0, 0)) (by (with_reducible repeat (first | refine blk_drewN ?_ _ | refine blk_drew ?_ | refine blk_alloc ?_ _)); exact BK145.out) hb); have n2_ := Aside0.mk (below_step (by repeat (first | (with_reducible first | exact HB.out | apply below_alloc | apply pw_below_drewN | apply below_drew1 | refine below_set ?_ GE133.out | refine below_set ?_ GE145.out) | exact HB.out)) hb); have n3_ := Aside0.mk (hbox); have n4_ := Aside0.mk ((by rw [hg]; exact (below_size (by repeat (first | (with_reducible first | exact HB.out | apply below_alloc | apply pw_below_drewN | apply below_drew1 | refine below_set ?_ GE133.out | refine below_set ?_ GE145.out) | exact HB.out))) : w.heap.size ≤ gb155)); have n5_ := Aside0.mk ((by rw [hg]; exact (below_size (by repeat (first | (with_reducible first | exact HB.out | apply below_alloc | apply pw_below_drewN | apply below_drew1 | refine below_set ?_ GE133.out | refine below_set ?_ GE145.out) | exact HB.out))) : w.heap.size ≤ gb155)); have n6_ := Aside0.mk ((by rw [hg]; exact Nat.ne_of_lt (blk_lt (g := gb133) (o := .cells #[.int .i64 x134000_4, .int .i64 x134001_4, .int .i64 x134002_4] 31 (0, 0)) (by (with_reducible repeat (first | refine blk_drewN ?_ _ | refine blk_drew ?_ | refine blk_alloc ?_ _)); exact BK133.out)) : gb133 ≠ gb155)); have n7_ := Aside0.mk ((by rw [hg]; exact Nat.ne_of_gt (blk_lt (g := gb133) (o := .cells #[.int .i64 x134000_4, .int .i64 x134001_4, .int .i64 x134002_4] 31 (0, 0)) (by (with_reducible repeat (first | refine blk_drewN ?_ _ | refine blk_drew ?_ | refine blk_alloc ?_ _)); exact BK133.out)) : gb155 ≠ gb133)); have n8_ := Aside0.mk ((by rw [hg]; exact Nat.ne_of_lt (blk_lt (g := gb145) (o := .cells #[.int .i64 t142, .int .i64 t143, .int .i64 t144] 31 (0, 0)) (by (with_reducible repeat (first | refine blk_drewN ?_ _ | refine blk_drew ?_ | refine blk_alloc ?_ _)); exact BK145.out)) : gb145 ≠ gb155)); have n9_ := Aside0.mk ((by rw [hg]; exact Nat.ne_of_gt (blk_lt (g := gb145) (o := .cells #[.int .i64 t142, .int .i64 t143, .int .i64 t144] 31 (0, 0)) (by (with_reducible repeat (first | refine blk_drewN ?_ _ | refine blk_drew ?_ | refine blk_alloc ?_ _)); exact BK145.out)) : gb155 ≠ gb145)); clear BK133; clear BK145; clear HB; have BK133 := n0_; have BK145 := n1_; have HB := n2_; have BK155 := n3_; have GW155 := n4_; have GE155 := n5_; have NB133_155 := n6_; have NB155_133 := n7_; have NB145_155 := n8_; have NB155_145 := n9_; clear n0_ n1_ n2_ n3_ n4_ n5_ n6_ n7_ n8_ n9_; clear hb hbox hg; have hnb97 := NB155_133.out; have hnc97 := NB133_155.out; have hnb98 := NB155_145.out; have hnc98 := NB145_155.out; have hcz99_0 : w96.cell? ⟨gb155, 0, none⟩ = some (.int .i64 0) := (blk_cell BK155.out 0).trans rfl; have hcz99_1 : w96.cell? ⟨gb155, 1, none⟩ = some (.int .i64 0) := (blk_cell BK155.out 1).trans rfl; have hcz99_2 : w96.cell? ⟨gb155, 2, none⟩ = some (.int .i64 0) := (blk_cell BK155.out 2).trans rfl; have hfz99_0 := blk_frozen BK155.out 0; have hfz99_1 := blk_frozen BK155.out 1; have hfz99_2 := blk_frozen BK155.out 2) | ((with_reducible refine gate_callee (f := 18) rfl ?_); refine goesL_ (some 114) rfl rfl Try.func18 (by kernel_rfl) rfl #[] rfl (by (try simp only [List.map_toArray, List.map_cons, List.map_nil]); first | done | rfl | (simp only [List.length_drop, List.length_take]; rfl)) ?_; (with_reducible refine (decorumlaw19_awake.calls  true _ A78.out).mono ?_); rintro e w100 ⟨rfl, hb⟩; refine ⟨_, rfl, ?_⟩; have n0_ := Aside0.mk (blk_below (g := gb133) (o := .cells #[.int .i64 x134000_4, .int .i64 x134001_4, .int .i64 x134002_4] 31 (0, 0)) (by (with_reducible repeat (first | refine blk_drewN ?_ _ | refine blk_drew ?_ | refine blk_alloc ?_ _)); refine blk_far ?_ NB133_155.out _; (with_reducible repeat (first | refine blk_drewN ?_ _ | refine blk_drew ?_ | refine blk_alloc ?_ _)); refine blk_far ?_ NB133_155.out _; (with_reducible repeat (first | refine blk_drewN ?_ _ | refine blk_drew ?_ | refine blk_alloc ?_ _)); refine blk_far ?_ NB133_155.out _; (with_reducible repeat (first | refine blk_drewN ?_ _ | refine blk_drew ?_ | refine blk_alloc ?_ _)); exact BK133.out) hb); have n1_ := Aside0.mk (blk_below (g := gb145) (o := .cells #[.int .i64 t142, .int .i64 t143, .int .i64 t144] 31 (0, 0)) (by (with_reducible repeat (first | refine blk_drewN ?_ _ | refine blk_drew ?_ | refine blk_alloc ?_ _)); refine blk_far ?_ NB145_155.out _; (with_reducible repeat (first | refine blk_drewN ?_ _ | refine blk_drew ?_ | refine blk_alloc ?_ _)); refine blk_far ?_ NB145_155.out _; (with_reducible repeat (first | refine blk_drewN ?_ _ | refine blk_drew ?_ | refine blk_alloc ?_ _)); refine blk_far ?_ NB145_155.out _; (with_reducible repeat (first | refine blk_drewN ?_ _ | refine blk_drew ?_ | refine blk_alloc ?_ _)); exact BK145.out) hb); have n2_ := Aside0.mk (blk_below (g := gb155) (o := .cells #[.int .i64 t152, .int .i64 t153, .int .i64 t154] 31 (0, 0)) (by (with_reducible repeat (first | refine blk_drewN ?_ _ | refine blk_drew ?_ | refine blk_alloc ?_ _)); refine blk_put (cs := #[.int .i64 t152, .int .i64 t153, .int .i64 0]) ?_ 2 _ rfl; (with_reducible repeat (first | refine blk_drewN ?_ _ | refine blk_drew ?_ | refine blk_alloc ?_ _)); refine blk_put (cs := #[.int .i64 t152, .int .i64 0, .int .i64 0]) ?_ 1 _ rfl; (with_reducible repeat (first | refine blk_drewN ?_ _ | refine blk_drew ?_ | refine blk_alloc ?_ _)); refine blk_put (cs := #[.int .i64 0, .int .i64 0, .int .i64 0]) ?_ 0 _ rfl; (with_reducible repeat (first | refine blk_drewN ?_ _ | refine blk_drew ?_ | refine blk_alloc ?_ _)); exact BK155.out) hb); have n3_ := Aside0.mk (below_step (by repeat (first | (with_reducible first | exact HB.out | apply below_alloc | apply pw_below_drewN | apply below_drew1 | refine below_set ?_ GE133.out | refine below_set ?_ GE145.out | refine below_set ?_ GE155.out) | exact HB.out)) hb); clear BK133; clear BK145; clear BK155; clear HB; have BK133 := n0_; have BK145 := n1_; have BK155 := n2_; have HB := n3_; clear n0_ n1_ n2_ n3_; (try clear hb); (try clear hb2); (try clear hk); (try clear hi); have hcz101_0 : w100.cell? ⟨gb155, 0, none⟩ = some (.int .i64 t152) := (blk_cell BK155.out 0).trans rfl; have hcz101_1 : w100.cell? ⟨gb155, 1, none⟩ = some (.int .i64 t153) := (blk_cell BK155.out 1).trans rfl; have hcz101_2 : w100.cell? ⟨gb155, 2, none⟩ = some (.int .i64 t154) := (blk_cell BK155.out 2).trans rfl; have hfz101_0 := blk_frozen BK155.out 0; have hfz101_1 := blk_frozen BK155.out 1; have hfz101_2 := blk_frozen BK155.out 2))
                          go_ret
                          exact ⟨by first | rfl | (simp [errW_none, errW_some] <;> rfl) | (simp [*, errW_none, errW_some] <;> rfl), by repeat (first | (with_reducible first | exact HB.out | apply below_alloc | apply pw_below_drewN | apply below_drew1 | refine below_set ?_ GE133.out | refine below_set ?_ GE145.out | refine below_set ?_ GE155.out) | exact HB.out)⟩
                      · replace c79 := Bool.eq_false_iff.mpr c79
                        subst c79
                        have H1 : (some false) = some r := by rw [if_neg (show ¬ (false = true) by decide)] at H; exact H
                        clear H
                        have H := H1
                        clear H1
                        obtain rfl := Option.some.inj H
                        have hnb102 := NB145_133.out
                        have hnc102 := NB133_145.out
                        have hcz103_0 : wc.cell? ⟨gb145, 0, none⟩ = some (.int .i64 t142) := (blk_cell BK145.out 0).trans rfl
                        have hcz103_1 : wc.cell? ⟨gb145, 1, none⟩ = some (.int .i64 t143) := (blk_cell BK145.out 1).trans rfl
                        have hcz103_2 : wc.cell? ⟨gb145, 2, none⟩ = some (.int .i64 t144) := (blk_cell BK145.out 2).trans rfl
                        have hfz103_0 := blk_frozen BK145.out 0
                        have hfz103_1 := blk_frozen BK145.out 1
                        have hfz103_2 := blk_frozen BK145.out 2
                        have hcz104_0 : wc.cell? ⟨gb133, 0, none⟩ = some (.int .i64 x134000_4) := (blk_cell BK133.out 0).trans rfl
                        have hcz104_1 : wc.cell? ⟨gb133, 1, none⟩ = some (.int .i64 x134001_4) := (blk_cell BK133.out 1).trans rfl
                        have hcz104_2 : wc.cell? ⟨gb133, 2, none⟩ = some (.int .i64 x134002_4) := (blk_cell BK133.out 2).trans rfl
                        have hfz104_0 := blk_frozen BK133.out 0
                        have hfz104_1 := blk_frozen BK133.out 1
                        have hfz104_2 := blk_frozen BK133.out 2
                        go_wp2_with (first | ((with_reducible refine gate_callee (f := 21) rfl ?_); refine goesL_ (some 113) rfl rfl Try.func21 (by kernel_rfl) rfl #[.agg #[.int .i64 t142, .int .i64 t143, .int .i64 t144], .int .i64 (wrap64 (x134002_4 + 3)), .int .i64 (wrap64 ((wrap64 (Int.tmod a0 20)) + 1)), .int .i64 (wrap64 (a1))] rfl (by (try simp only [List.map_toArray, List.map_cons, List.map_nil]); first | done | rfl | (simp only [List.length_drop, List.length_take]; rfl)) ?_; (with_reducible refine (breaker_Fail.calls t142 t143 t144 (wrap64 (x134002_4 + 3)) (wrap64 ((wrap64 (Int.tmod a0 20)) + 1)) (wrap64 (a1)) t152 t153 t154 _ A77.out).mono ?_); rintro e w105 ⟨rfl, hb⟩; refine ⟨_, rfl, ?_⟩; have n0_ := Aside0.mk (blk_below (g := gb133) (o := .cells #[.int .i64 x134000_4, .int .i64 x134001_4, .int .i64 x134002_4] 31 (0, 0)) (by (with_reducible repeat (first | refine blk_drewN ?_ _ | refine blk_drew ?_ | refine blk_alloc ?_ _)); exact BK133.out) hb); have n1_ := Aside0.mk (blk_below (g := gb145) (o := .cells #[.int .i64 t142, .int .i64 t143, .int .i64 t144] 31 (0, 0)) (by (with_reducible repeat (first | refine blk_drewN ?_ _ | refine blk_drew ?_ | refine blk_alloc ?_ _)); exact BK145.out) hb); have n2_ := Aside0.mk (below_step (by repeat (first | (with_reducible first | exact HB.out | apply below_alloc | apply pw_below_drewN | apply below_drew1 | refine below_set ?_ GE133.out | refine below_set ?_ GE145.out) | exact HB.out)) hb); clear BK133; clear BK145; clear HB; have BK133 := n0_; have BK145 := n1_; have HB := n2_; clear n0_ n1_ n2_; (try clear hb); (try clear hb2); (try clear hk); (try clear hi)) | ((with_reducible refine gate_dst (N := 13) rfl ?_); refine box_event ?hg (N := 13) ?hd (cs := #[.int .i64 0, .int .i64 0, .int .i64 0]) (t := 31) ?hr ?_; (case hd => rfl); (case hg => rfl); (case hr => first | (go_simp; done) | (go_simp; rfl)); intro gb155 hg w106 hbox hb; have n0_ := Aside0.mk (blk_below (g := gb133) (o := .cells #[.int .i64 x134000_4, .int .i64 x134001_4, .int .i64 x134002_4] 31 (0, 0)) (by (with_reducible repeat (first | refine blk_drewN ?_ _ | refine blk_drew ?_ | refine blk_alloc ?_ _)); exact BK133.out) hb); have n1_ := Aside0.mk (blk_below (g := gb145) (o := .cells #[.int .i64 t142, .int .i64 t143, .int .i64 t144] 31 (0, 0)) (by (with_reducible repeat (first | refine blk_drewN ?_ _ | refine blk_drew ?_ | refine blk_alloc ?_ _)); exact BK145.out) hb); have n2_ := Aside0.mk (below_step (by repeat (first | (with_reducible first | exact HB.out | apply below_alloc | apply pw_below_drewN | apply below_drew1 | refine below_set ?_ GE133.out | refine below_set ?_ GE145.out) | exact HB.out)) hb); have n3_ := Aside0.mk (hbox); have n4_ := Aside0.mk ((by rw [hg]; exact (below_size (by repeat (first | (with_reducible first | exact HB.out | apply below_alloc | apply pw_below_drewN | apply below_drew1 | refine below_set ?_ GE133.out | refine below_set ?_ GE145.out) | exact HB.out))) : w.heap.size ≤ gb155)); have n5_ := Aside0.mk ((by rw [hg]; exact (below_size (by repeat (first | (with_reducible first | exact HB.out | apply below_alloc | apply pw_below_drewN | apply below_drew1 | refine below_set ?_ GE133.out | refine below_set ?_ GE145.out) | exact HB.out))) : w.heap.size ≤ gb155)); have n6_ := Aside0.mk ((by rw [hg]; exact Nat.ne_of_lt (blk_lt (g := gb133) (o := .cells #[.int .i64 x134000_4, .int .i64 x134001_4, .int .i64 x134002_4] 31 (0, 0)) (by (with_reducible repeat (first | refine blk_drewN ?_ _ | refine blk_drew ?_ | refine blk_alloc ?_ _)); exact BK133.out)) : gb133 ≠ gb155)); have n7_ := Aside0.mk ((by rw [hg]; exact Nat.ne_of_gt (blk_lt (g := gb133) (o := .cells #[.int .i64 x134000_4, .int .i64 x134001_4, .int .i64 x134002_4] 31 (0, 0)) (by (with_reducible repeat (first | refine blk_drewN ?_ _ | refine blk_drew ?_ | refine blk_alloc ?_ _)); exact BK133.out)) : gb155 ≠ gb133)); have n8_ := Aside0.mk ((by rw [hg]; exact Nat.ne_of_lt (blk_lt (g := gb145) (o := .cells #[.int .i64 t142, .int .i64 t143, .int .i64 t144] 31 (0, 0)) (by (with_reducible repeat (first | refine blk_drewN ?_ _ | refine blk_drew ?_ | refine blk_alloc ?_ _)); exact BK145.out)) : gb145 ≠ gb155)); have n9_ := Aside0.mk ((by rw [hg]; exact Nat.ne_of_gt (blk_lt (g := gb145) (o := .cells #[.int .i64 t142, .int .i64 t143, .int .i64 t144] 31 (0, 0)) (by (with_reducible repeat (first | refine blk_drewN ?_ _ | refine blk_drew ?_ | refine blk_alloc ?_ _)); exact BK145.out)) : gb155 ≠ gb145)); clear BK133; clear BK145; clear HB; have BK133 := n0_; have BK145 := n1_; have HB := n2_; have BK155 := n3_; have GW155 := n4_; have GE155 := n5_; have NB133_155 := n6_; have NB155_133 := n7_; have NB145_155 := n8_; have NB155_145 := n9_; clear n0_ n1_ n2_ n3_ n4_ n5_ n6_ n7_ n8_ n9_; clear hb hbox hg; have hnb107 := NB155_133.out; have hnc107 := NB133_155.out; have hnb108 := NB155_145.out; have hnc108 := NB145_155.out; have hcz109_0 : w106.cell? ⟨gb155, 0, none⟩ = some (.int .i64 0) := (blk_cell BK155.out 0).trans rfl; have hcz109_1 : w106.cell? ⟨gb155, 1, none⟩ = some (.int .i64 0) := (blk_cell BK155.out 1).trans rfl; have hcz109_2 : w106.cell? ⟨gb155, 2, none⟩ = some (.int .i64 0) := (blk_cell BK155.out 2).trans rfl; have hfz109_0 := blk_frozen BK155.out 0; have hfz109_1 := blk_frozen BK155.out 1; have hfz109_2 := blk_frozen BK155.out 2) | ((with_reducible refine gate_callee (f := 18) rfl ?_); refine goesL_ (some 114) rfl rfl Try.func18 (by kernel_rfl) rfl #[] rfl (by (try simp only [List.map_toArray, List.map_cons, List.map_nil]); first | done | rfl | (simp only [List.length_drop, List.length_take]; rfl)) ?_; (with_reducible refine (decorumlaw19_awake.calls  false _ A78.out).mono ?_); rintro e w110 ⟨rfl, hb⟩; refine ⟨_, rfl, ?_⟩; have n0_ := Aside0.mk (blk_below (g := gb133) (o := .cells #[.int .i64 x134000_4, .int .i64 x134001_4, .int .i64 x134002_4] 31 (0, 0)) (by (with_reducible repeat (first | refine blk_drewN ?_ _ | refine blk_drew ?_ | refine blk_alloc ?_ _)); refine blk_far ?_ NB133_155.out _; (with_reducible repeat (first | refine blk_drewN ?_ _ | refine blk_drew ?_ | refine blk_alloc ?_ _)); refine blk_far ?_ NB133_155.out _; (with_reducible repeat (first | refine blk_drewN ?_ _ | refine blk_drew ?_ | refine blk_alloc ?_ _)); refine blk_far ?_ NB133_155.out _; (with_reducible repeat (first | refine blk_drewN ?_ _ | refine blk_drew ?_ | refine blk_alloc ?_ _)); exact BK133.out) hb); have n1_ := Aside0.mk (blk_below (g := gb145) (o := .cells #[.int .i64 t142, .int .i64 t143, .int .i64 t144] 31 (0, 0)) (by (with_reducible repeat (first | refine blk_drewN ?_ _ | refine blk_drew ?_ | refine blk_alloc ?_ _)); refine blk_far ?_ NB145_155.out _; (with_reducible repeat (first | refine blk_drewN ?_ _ | refine blk_drew ?_ | refine blk_alloc ?_ _)); refine blk_far ?_ NB145_155.out _; (with_reducible repeat (first | refine blk_drewN ?_ _ | refine blk_drew ?_ | refine blk_alloc ?_ _)); refine blk_far ?_ NB145_155.out _; (with_reducible repeat (first | refine blk_drewN ?_ _ | refine blk_drew ?_ | refine blk_alloc ?_ _)); exact BK145.out) hb); have n2_ := Aside0.mk (blk_below (g := gb155) (o := .cells #[.int .i64 t152, .int .i64 t153, .int .i64 t154] 31 (0, 0)) (by (with_reducible repeat (first | refine blk_drewN ?_ _ | refine blk_drew ?_ | refine blk_alloc ?_ _)); refine blk_put (cs := #[.int .i64 t152, .int .i64 t153, .int .i64 0]) ?_ 2 _ rfl; (with_reducible repeat (first | refine blk_drewN ?_ _ | refine blk_drew ?_ | refine blk_alloc ?_ _)); refine blk_put (cs := #[.int .i64 t152, .int .i64 0, .int .i64 0]) ?_ 1 _ rfl; (with_reducible repeat (first | refine blk_drewN ?_ _ | refine blk_drew ?_ | refine blk_alloc ?_ _)); refine blk_put (cs := #[.int .i64 0, .int .i64 0, .int .i64 0]) ?_ 0 _ rfl; (with_reducible repeat (first | refine blk_drewN ?_ _ | refine blk_drew ?_ | refine blk_alloc ?_ _)); exact BK155.out) hb); have n3_ := Aside0.mk (below_step (by repeat (first | (with_reducible first | exact HB.out | apply below_alloc | apply pw_below_drewN | apply below_drew1 | refine below_set ?_ GE133.out | refine below_set ?_ GE145.out | refine below_set ?_ GE155.out) | exact HB.out)) hb); clear BK133; clear BK145; clear BK155; clear HB; have BK133 := n0_; have BK145 := n1_; have BK155 := n2_; have HB := n3_; clear n0_ n1_ n2_ n3_; (try clear hb); (try clear hb2); (try clear hk); (try clear hi)))
                        go_ret
                        exact ⟨by first | rfl | (simp [errW_none, errW_some] <;> rfl) | (simp [*, errW_none, errW_some] <;> rfl), by repeat (first | (with_reducible first | exact HB.out | apply below_alloc | apply pw_below_drewN | apply below_drew1 | refine below_set ?_ GE133.out | refine below_set ?_ GE145.out | refine below_set ?_ GE155.out) | exact HB.out)⟩
      · rw [if_neg c23] at H
        have c23b0 : (x134000_4 == 1) = false := beq_eq_false_iff_ne.mpr c23
        have c23b1 : (x134000_4 != 1) = true := bne_iff_ne.mpr c23
        replace H := Option.bind_eq_some_iff.mp H
        obtain ⟨t137, A1110, H⟩ := H
        replace H : (if t137 = true then ((breaker_May.f x134000_4 x134001_4 x134002_4 0 99).bind fun t138 => (some t138)) else (some false)) = some r := H
        have A111 := Aside0.mk A1110
        clear A1110
        by_cases c112 : t137 = true
        · subst c112
          have H1 : ((breaker_May.f x134000_4 x134001_4 x134002_4 0 99).bind fun t138 => (some t138)) = some r := by rw [if_pos rfl] at H; exact H
          clear H
          have H := H1
          clear H1
          replace H := Option.bind_eq_some_iff.mp H
          obtain ⟨t138, A1130, H⟩ := H
          replace H : (some t138) = some r := H
          have A113 := Aside0.mk A1130
          clear A1130
          obtain rfl := Option.some.inj H
          have hcz114_0 : wc.cell? ⟨gb133, 0, none⟩ = some (.int .i64 x134000_4) := (blk_cell BK133.out 0).trans rfl
          have hcz114_1 : wc.cell? ⟨gb133, 1, none⟩ = some (.int .i64 x134001_4) := (blk_cell BK133.out 1).trans rfl
          have hcz114_2 : wc.cell? ⟨gb133, 2, none⟩ = some (.int .i64 x134002_4) := (blk_cell BK133.out 2).trans rfl
          have hfz114_0 := blk_frozen BK133.out 0
          have hfz114_1 := blk_frozen BK133.out 1
          have hfz114_2 := blk_frozen BK133.out 2
          go_wp2_with (first | ((with_reducible refine gate_callee (f := 18) rfl ?_); refine goesL_ (some 53) rfl rfl Try.func18 (by kernel_rfl) rfl #[] rfl (by (try simp only [List.map_toArray, List.map_cons, List.map_nil]); first | done | rfl | (simp only [List.length_drop, List.length_take]; rfl)) ?_; (with_reducible refine (decorumlaw19_awake.calls  true _ A111.out).mono ?_); rintro e w115 ⟨rfl, hb⟩; refine ⟨_, rfl, ?_⟩; have n0_ := Aside0.mk (blk_below (g := gb133) (o := .cells #[.int .i64 x134000_4, .int .i64 x134001_4, .int .i64 x134002_4] 31 (0, 0)) (by (with_reducible repeat (first | refine blk_drewN ?_ _ | refine blk_drew ?_ | refine blk_alloc ?_ _)); exact BK133.out) hb); have n1_ := Aside0.mk (below_step (by repeat (first | (with_reducible first | exact HB.out | apply below_alloc | apply pw_below_drewN | apply below_drew1 | refine below_set ?_ GE133.out) | exact HB.out)) hb); clear BK133; clear HB; have BK133 := n0_; have HB := n1_; clear n0_ n1_; (try clear hb); (try clear hb2); (try clear hk); (try clear hi); have hcz116_0 : w115.cell? ⟨gb133, 0, none⟩ = some (.int .i64 x134000_4) := (blk_cell BK133.out 0).trans rfl; have hcz116_1 : w115.cell? ⟨gb133, 1, none⟩ = some (.int .i64 x134001_4) := (blk_cell BK133.out 1).trans rfl; have hcz116_2 : w115.cell? ⟨gb133, 2, none⟩ = some (.int .i64 x134002_4) := (blk_cell BK133.out 2).trans rfl; have hfz116_0 := blk_frozen BK133.out 0; have hfz116_1 := blk_frozen BK133.out 1; have hfz116_2 := blk_frozen BK133.out 2) | (go_at_call 19; (with_reducible refine (breaker_May.calls x134000_4 x134001_4 x134002_4 0 99 t138 _ A113.out).mono ?_); rintro e w117 ⟨rfl, hb⟩; have n0_ := Aside0.mk (blk_below (g := gb133) (o := .cells #[.int .i64 x134000_4, .int .i64 x134001_4, .int .i64 x134002_4] 31 (0, 0)) (by (with_reducible repeat (first | refine blk_drewN ?_ _ | refine blk_drew ?_ | refine blk_alloc ?_ _)); exact BK133.out) hb); have n1_ := Aside0.mk (below_step (by repeat (first | (with_reducible first | exact HB.out | apply below_alloc | apply pw_below_drewN | apply below_drew1 | refine below_set ?_ GE133.out) | exact HB.out)) hb); clear BK133; clear HB; have BK133 := n0_; have HB := n1_; clear n0_ n1_; (try clear hb); (try clear hb2); (try clear hk); (try clear hi)))
          go_ret
          exact ⟨by first | rfl | (simp [errW_none, errW_some] <;> rfl) | (simp [*, errW_none, errW_some] <;> rfl), by repeat (first | (with_reducible first | exact HB.out | apply below_alloc | apply pw_below_drewN | apply below_drew1 | refine below_set ?_ GE133.out) | exact HB.out)⟩
        · replace c112 := Bool.eq_false_iff.mpr c112
          subst c112
          have H1 : (some false) = some r := by rw [if_neg (show ¬ (false = true) by decide)] at H; exact H
          clear H
          have H := H1
          clear H1
          obtain rfl := Option.some.inj H
          have hcz118_0 : wc.cell? ⟨gb133, 0, none⟩ = some (.int .i64 x134000_4) := (blk_cell BK133.out 0).trans rfl
          have hcz118_1 : wc.cell? ⟨gb133, 1, none⟩ = some (.int .i64 x134001_4) := (blk_cell BK133.out 1).trans rfl
          have hcz118_2 : wc.cell? ⟨gb133, 2, none⟩ = some (.int .i64 x134002_4) := (blk_cell BK133.out 2).trans rfl
          have hfz118_0 := blk_frozen BK133.out 0
          have hfz118_1 := blk_frozen BK133.out 1
          have hfz118_2 := blk_frozen BK133.out 2
          go_wp2_with (first | ((with_reducible refine gate_callee (f := 18) rfl ?_); refine goesL_ (some 53) rfl rfl Try.func18 (by kernel_rfl) rfl #[] rfl (by (try simp only [List.map_toArray, List.map_cons, List.map_nil]); first | done | rfl | (simp only [List.length_drop, List.length_take]; rfl)) ?_; (with_reducible refine (decorumlaw19_awake.calls  false _ A111.out).mono ?_); rintro e w119 ⟨rfl, hb⟩; refine ⟨_, rfl, ?_⟩; have n0_ := Aside0.mk (blk_below (g := gb133) (o := .cells #[.int .i64 x134000_4, .int .i64 x134001_4, .int .i64 x134002_4] 31 (0, 0)) (by (with_reducible repeat (first | refine blk_drewN ?_ _ | refine blk_drew ?_ | refine blk_alloc ?_ _)); exact BK133.out) hb); have n1_ := Aside0.mk (below_step (by repeat (first | (with_reducible first | exact HB.out | apply below_alloc | apply pw_below_drewN | apply below_drew1 | refine below_set ?_ GE133.out) | exact HB.out)) hb); clear BK133; clear HB; have BK133 := n0_; have HB := n1_; clear n0_ n1_; (try clear hb); (try clear hb2); (try clear hk); (try clear hi)))
          go_ret
          exact ⟨by first | rfl | (simp [errW_none, errW_some] <;> rfl) | (simp [*, errW_none, errW_some] <;> rfl), by repeat (first | (with_reducible first | exact HB.out | apply below_alloc | apply pw_below_drewN | apply below_drew1 | refine below_set ?_ GE133.out) | exact HB.out)⟩

/-- THE ONE PURE STATEMENT of decorumlaw19_BreakerOpens: yours. -/
def decorumlaw19_BreakerOpens.Pure : Prop := ∀ (a0 : Int) (a1 : Int) (a2 : Int) (a3 : Bool), (Lit.int .u8 a0).wf = true → (Lit.int .u16 a1).wf = true → (Lit.int .u8 a2).wf = true → ∃ k, decorumlaw19_BreakerOpens.f k a0 a1 a2 a3 = some true
theorem decorumlaw19_BreakerOpens.walk (P : decorumlaw19_BreakerOpens.Pure) (a0 : Int) (a1 : Int) (a2 : Int) (a3 : Bool) (w : World) (w0 : (Lit.int .u8 a0).wf = true) (w1 : (Lit.int .u16 a1).wf = true) (w2 : (Lit.int .u8 a2).wf = true) :
    Calls Try.prog 8 #[.int .u8 a0, .int .u16 a1, .int .u8 a2, .bool a3] w fun e w' => e = .returned (.bool true) ∧ Below w.heap.size w w' := by
  obtain ⟨k, h⟩ := P a0 a1 a2 a3 w0 w1 w2
  refine (decorumlaw19_BreakerOpens.calls k a0 a1 a2 a3 true w h).mono ?_
  rintro e w' ⟨rfl, hd⟩
  exact ⟨rfl, hd⟩

end Go.Proofs.Yteopghkhegccfaa.PBreakerOpens
