-- A text that a changed copy of the print program wrote for this claim (NOTES.md, changed print); it is not a printed text.
import Derived.Test.YtioafmnobmgdkaaDoorQLawx0
import Derived.Test.YtioafmnobmgdkaaDoorQLawx1
namespace Go.Proofs.YtioafmnobmgdkaaDoor.QLaw
open Go.Proofs.YtioafmnobmgdkaaDoor.Given Go.Proofs.YtioafmnobmgdkaaDoor.QBase Go.Proofs.YtioafmnobmgdkaaDoor.QMid
open Go.RowKit Go.Proofs.YtioafmnobmgdkaaDoorW.PrintWords Go.Proofs.YtioafmnobmgdkaaDoorW.PrintLast Go.Proofs.YtioafmnobmgdkaaDoorW.PrintMore
attribute [local go_sem] max2_int min2_int max_two min_two max_three min_three max_four min_four   -- for this text's walks alone
set_option linter.unusedVariables false
set_option linter.unusedSimpArgs false

/-! ### decorumlaw10_MatchOwn: function 5 -/
mutual
def decorumlaw10_MatchOwn.l0 : Nat → Int → ByteArray → ByteArray → Int → Option (Bool)
  | 0, _, _, _, _ => none
  | k + 1, x1, x2, x7, x8 => if x8 < (x7.size : Int) then (if 0 ≤ x8 then (if (bt x7 x8) = 42 then ((decorumlaw10_awake.f k).bind fun t123 => (some t123)) else (if (bt x7 x8) = 36 then ((decorumlaw10_awake.f k).bind fun t124 => (some t124)) else (if (bt x7 x8) = 37 then ((decorumlaw10_awake.f k).bind fun t125 => (some t125)) else (if (bt x7 x8) ≥ 128 then ((decorumlaw10_awake.f k).bind fun t126 => (some t126)) else (decorumlaw10_MatchOwn.l0 k x1 x2 x7 (wrap64 (x8 + 1))))))) else (none)) else ((decorumlaw10_cut.f x2).bind fun t127 => (decorumlaw10_MatchOwn.l1 k x1 x7 t127 0))
def decorumlaw10_MatchOwn.l1 : Nat → Int → ByteArray → ByteArray → Int → Option (Bool)
  | 0, _, _, _, _ => none
  | k + 1, x1, x7, x9, x10 => if x10 < (x9.size : Int) then (if 0 ≤ x10 then (if (bt x9 x10) = 37 then ((decorumlaw10_awake.f k).bind fun t128 => (some t128)) else (if (bt x9 x10) ≥ 128 then ((decorumlaw10_awake.f k).bind fun t129 => (some t129)) else (decorumlaw10_MatchOwn.l1 k x1 x7 x9 (wrap64 (x10 + 1))))) else (none)) else (if (wrap64 ((x7.size : Int) + 1)) = 0 then (none) else ((decorumlaw10_awake.f k).bind fun t130 => (if t130 = true then ((match_Match.f x7 x7).bind fun t131 => (if t131 = true then (if 0 ≤ (Int.tmod (wrap64 (x1)) (wrap64 ((x7.size : Int) + 1))) then (if (Int.tmod (wrap64 (x1)) (wrap64 ((x7.size : Int) + 1))) ≤ (x7.size : Int) then ((match_Match.f (x7.extract 0 ((Int.tmod (wrap64 (x1)) (wrap64 ((x7.size : Int) + 1))) : Int).toNat) x7).bind fun t132 => (if t132 = true then (if x7.size + 1 ≤ 9223372036854775807 then ((match_Match.f (x7 ++ (⟨#[36]⟩ : ByteArray)) x7).bind fun t133 => (if t133 = true then (if x7.size + x9.size ≤ 9223372036854775807 then ((match_Match.f x7 (x7 ++ x9)).bind fun t134 => (if t134 = true then ((match_Match.f (x7 ++ (⟨#[36]⟩ : ByteArray)) (x7 ++ x9)).bind fun t135 => (if (t135 == (x9.toList == ([] : List UInt8))) = true then ((match_Match.f (⟨#[42]⟩ : ByteArray) x7).bind fun t136 => (if t136 = true then (if (x7.extract 0 ((Int.tmod (wrap64 (x1)) (wrap64 ((x7.size : Int) + 1))) : Int).toNat).size + 1 ≤ 9223372036854775807 then (if ((x7.extract 0 ((Int.tmod (wrap64 (x1)) (wrap64 ((x7.size : Int) + 1))) : Int).toNat) ++ (⟨#[42]⟩ : ByteArray)).size + (x7.extract ((Int.tmod (wrap64 (x1)) (wrap64 ((x7.size : Int) + 1))) : Int).toNat x7.size).size ≤ 9223372036854775807 then (if (((x7.extract 0 ((Int.tmod (wrap64 (x1)) (wrap64 ((x7.size : Int) + 1))) : Int).toNat) ++ (⟨#[42]⟩ : ByteArray)) ++ (x7.extract ((Int.tmod (wrap64 (x1)) (wrap64 ((x7.size : Int) + 1))) : Int).toNat x7.size)).size + 1 ≤ 9223372036854775807 then (if (x7.extract 0 ((Int.tmod (wrap64 (x1)) (wrap64 ((x7.size : Int) + 1))) : Int).toNat).size + x9.size ≤ 9223372036854775807 then (if ((x7.extract 0 ((Int.tmod (wrap64 (x1)) (wrap64 ((x7.size : Int) + 1))) : Int).toNat) ++ x9).size + (x7.extract ((Int.tmod (wrap64 (x1)) (wrap64 ((x7.size : Int) + 1))) : Int).toNat x7.size).size ≤ 9223372036854775807 then ((match_Match.f ((((x7.extract 0 ((Int.tmod (wrap64 (x1)) (wrap64 ((x7.size : Int) + 1))) : Int).toNat) ++ (⟨#[42]⟩ : ByteArray)) ++ (x7.extract ((Int.tmod (wrap64 (x1)) (wrap64 ((x7.size : Int) + 1))) : Int).toNat x7.size)) ++ (⟨#[36]⟩ : ByteArray)) (((x7.extract 0 ((Int.tmod (wrap64 (x1)) (wrap64 ((x7.size : Int) + 1))) : Int).toNat) ++ x9) ++ (x7.extract ((Int.tmod (wrap64 (x1)) (wrap64 ((x7.size : Int) + 1))) : Int).toNat x7.size))).bind fun t137 => (some t137)) else (none)) else (none)) else (none)) else (none)) else (none)) else (some false))) else (some false))) else (some false))) else (none)) else (some false))) else (none)) else (some false))) else (none)) else (none)) else (some false))) else (some false))))
end
def decorumlaw10_MatchOwn.f (k : Nat) (a0 : ByteArray) (a1 : Int) (a2 : ByteArray) : Option (Bool) := (decorumlaw10_cut.f a0).bind fun t122 => (if t122.size + 0 ≤ 9223372036854775807 then (decorumlaw10_MatchOwn.l0 k a1 a2 (t122 ++ (⟨#[]⟩ : ByteArray)) 0) else (none))
theorem decorumlaw10_MatchOwn.mono_l : ∀ k, (∀ y0 y1 y2 y3, LeO (decorumlaw10_MatchOwn.l0 k y0 y1 y2 y3) (decorumlaw10_MatchOwn.l0 (k + 1) y0 y1 y2 y3)) ∧ (∀ y0 y1 y2 y3, LeO (decorumlaw10_MatchOwn.l1 k y0 y1 y2 y3) (decorumlaw10_MatchOwn.l1 (k + 1) y0 y1 y2 y3))
  | 0 => ⟨fun _ _ _ _ r h => by simp [decorumlaw10_MatchOwn.l0] at h, fun _ _ _ _ r h => by simp [decorumlaw10_MatchOwn.l1] at h⟩
  | k + 1 => by
    obtain ⟨ih0, ih1⟩ := decorumlaw10_MatchOwn.mono_l k
    refine ⟨?_, ?_⟩
    · intro y0 y1 y2 y3
      unfold decorumlaw10_MatchOwn.l0
      repeat' first
      | (with_reducible exact ih0 _ _ _ _)
      | (with_reducible exact ih1 _ _ _ _)
      | (with_reducible exact decorumlaw10_awake.mono _)
      | (with_reducible exact LeO.refl _)
      | (with_reducible exact LeO.none _)
      | (with_reducible refine LeO.ite ?_ ?_)
      | (with_reducible refine LeO.bind ?_ (fun _ => ?_))
      | exact ih0 _ _ _ _
      | exact ih1 _ _ _ _
      | exact decorumlaw10_awake.mono _
      | exact LeO.none _
      | refine LeO.ite ?_ ?_
      | refine LeO.bind ?_ (fun _ => ?_)
    · intro y0 y1 y2 y3
      unfold decorumlaw10_MatchOwn.l1
      repeat' first
      | (with_reducible exact ih0 _ _ _ _)
      | (with_reducible exact ih1 _ _ _ _)
      | (with_reducible exact decorumlaw10_awake.mono _)
      | (with_reducible exact LeO.refl _)
      | (with_reducible exact LeO.none _)
      | (with_reducible refine LeO.ite ?_ ?_)
      | (with_reducible refine LeO.bind ?_ (fun _ => ?_))
      | exact ih0 _ _ _ _
      | exact ih1 _ _ _ _
      | exact decorumlaw10_awake.mono _
      | exact LeO.none _
      | refine LeO.ite ?_ ?_
      | refine LeO.bind ?_ (fun _ => ?_)
theorem decorumlaw10_MatchOwn.mono : ∀ a0 a1 a2 k, LeO (decorumlaw10_MatchOwn.f k a0 a1 a2) (decorumlaw10_MatchOwn.f (k + 1) a0 a1 a2) := by
  intro a0 a1 a2 k
  obtain ⟨ih0, ih1⟩ := decorumlaw10_MatchOwn.mono_l k
  unfold decorumlaw10_MatchOwn.f
  repeat' first
      | (with_reducible exact ih0 _ _ _ _)
      | (with_reducible exact ih1 _ _ _ _)
      | (with_reducible exact decorumlaw10_awake.mono _)
      | (with_reducible exact LeO.refl _)
      | (with_reducible exact LeO.none _)
      | (with_reducible refine LeO.ite ?_ ?_)
      | (with_reducible refine LeO.bind ?_ (fun _ => ?_))
      | exact ih0 _ _ _ _
      | exact ih1 _ _ _ _
      | exact decorumlaw10_awake.mono _
      | exact LeO.none _
      | refine LeO.ite ?_ ?_
      | refine LeO.bind ?_ (fun _ => ?_)
def decorumlaw10_MatchOwn.T14 : Bool × List (List Nat × List Nat) := (true, [([], []), ([0, 0], [0]), ([1], [1]), ([1], [1]), ([2, 3, 1, 1], [1, 2, 3]), ([1, 4], [1, 4]), ([5, 4], [5]), ([6], [6]), ([6], [6]), ([7, 8, 6], [6, 7, 8]), ([6], [6]), ([9, 10, 6, 6], [6, 9, 10]), ([6, 11], [6, 11]), ([12, 11], [12]), ([13], [13]), ([14, 13], [13, 14]), ([13], [13]), ([15, 16, 13, 13], [13, 15, 16]), ([13, 17], [13, 17]), ([18, 17], [18]), ([19], [19]), ([19], [19]), ([19], [19]), ([21, 22, 19], [19, 21, 22]), ([20, 23, 19, 19], [19, 20, 23]), ([19, 24], [19, 24]), ([25, 24], [25]), ([26], [26]), ([27, 26], [26, 27]), ([26], [26]), ([26], [26]), ([29, 30, 26], [26, 29, 30]), ([28, 31, 26, 26], [26, 28, 31]), ([26], [26]), ([33, 26], [26, 33]), ([32, 34, 26], [26, 32, 34]), ([26, 35], [26, 35]), ([36, 32], [36]), ([37], [37]), ([38, 37, 37], [37, 38]), ([37, 39], [37, 39]), ([40, 39], [40]), ([41], [41]), ([41], [41]), ([42, 43, 41], [41, 42, 43]), ([44, 41], [41, 44]), ([41], [41]), ([41], [41]), ([46, 47, 41], [41, 46, 47]), ([45, 48, 41], [41, 45, 48]), ([49, 41], [41, 49]), ([41], [41]), ([41], [41]), ([51, 52, 41], [41, 51, 52]), ([41], [41]), ([53, 54, 41], [41, 53, 54]), ([41], [41]), ([41], [41]), ([56, 57, 41], [41, 56, 57]), ([55, 58, 41], [41, 55, 58]), ([50, 59, 41, 41], [41, 50, 59]), ([41, 60], [41, 60]), ([61, 60, 0, 1, 2, 3, 4, 5, 6, 7, 8, 9, 10, 11, 12, 13, 14, 15, 16, 17, 18, 19, 20, 21, 22, 23, 24, 25, 26, 27, 28, 29, 30, 31, 32, 33, 34, 35, 36, 37, 38, 39, 40, 41, 42, 43, 44, 45, 46, 47, 48, 49, 50, 51, 52, 53, 54, 55, 56, 57, 58, 59, 60, 61], [61])])
def decorumlaw10_MatchOwn.B14 : List Nat := [0, 1, 3, 3, 15, 31, 63, 127, 127, 511, 127, 2047, 4095, 8191, 16383, 32767, 16383, 131071, 262143, 524287, 1048575, 1048575, 1048575, 7340031, 16777215, 33554431, 67108863, 134217727, 268435455, 134217727, 134217727, 1744830463, 4294967295, 134217727, 8724152319, 34359738367, 68719476735, 137438953471, 274877906943, 549755813887, 1099511627775, 2199023255551, 4398046511103, 4398046511103, 17592186044415, 35184372088831, 4398046511103, 4398046511103, 215504279044095, 562949953421311, 1125899906842623, 4398046511103, 4398046511103, 6759797487566847, 4398046511103, 33781395251789823, 4398046511103, 4398046511103, 216177180160294911, 574213350536249343, 1152921504606846975, 2305843009213693951, 4611686018427387903]
theorem decorumlaw10_MatchOwn.tab14 : rtab .any (opsOf Tryd.f5 14) = decorumlaw10_MatchOwn.T14 := by kernel_rfl
theorem decorumlaw10_MatchOwn.bits14 : waitsOk decorumlaw10_MatchOwn.T14.2 decorumlaw10_MatchOwn.B14 = true := by kernel_rfl
set_option maxHeartbeats 8000000 in
set_option maxRecDepth 100000 in
theorem decorumlaw10_MatchOwn.calls (k : Nat) (a0 : ByteArray) (a1 : Int) (a2 : ByteArray) (r : Bool) (w : World) (hr_ : r = true) (h : decorumlaw10_MatchOwn.f k a0 a1 a2 = some r) (hS_ : Shp w) :
    Calls Tryd.prog 5 #[.string a0, .int .u8 a1, .string a2] w fun e w' => e = .returned (.bool r) ∧ Below w.heap.size w w' := by
  have HR_ := Aside0.mk (hr_)
  have HB := Aside0.mk (Below.refl w.heap.size w)
  have HS_ := Aside0.mk hS_
  clear hS_
  have H : ((decorumlaw10_cut.f a0).bind fun t122 => (if t122.size + 0 ≤ 9223372036854775807 then (decorumlaw10_MatchOwn.l0 k a1 a2 (t122 ++ (⟨#[]⟩ : ByteArray)) 0) else (none))) = some r := h
  clear h
  replace H := Option.bind_eq_some_iff.mp H
  obtain ⟨t122, A40, H⟩ := H
  replace H : (if t122.size + 0 ≤ 9223372036854775807 then (decorumlaw10_MatchOwn.l0 k a1 a2 (t122 ++ (⟨#[]⟩ : ByteArray)) 0) else (none)) = some r := H
  have A4 := Aside0.mk A40
  clear A40
  by_cases c5 : t122.size + 0 ≤ 9223372036854775807
  · rw [if_pos c5] at H
    have c5b0 := eq_true c5
    have c5b1 : decide (t122.size + 0 ≤ 9223372036854775807) = true := decide_eq_true c5
    try have c5b2 : (9223372036854775807 < t122.size + 0) = False := eq_false (Nat.not_lt.2 c5)
    have H' := Aside0.mk H
    clear H
    go_enter Tryd.func5, Tryd.ntmps5
    go_wp2_with (first | ((with_reducible refine gate_callee (f := 8) rfl ?_); refine goesL_ (some 13) rfl rfl Tryd.func8 (by kernel_rfl) rfl #[.string a0] rfl (by (try simp only [List.map_toArray, List.map_cons, List.map_nil]); first | done | rfl | (simp only [List.length_drop, List.length_take]; rfl)) ?_; (with_reducible refine (decorumlaw10_cut.calls a0 t122 _ A4.out).mono ?_); rintro e w' ⟨rfl, ⟨nd, rfl⟩⟩; refine ⟨_, rfl, ?_⟩))
    generalize (t122 ++ (⟨#[]⟩ : ByteArray)) = all_ at H' ⊢
    go_loopg [8] k (fun kq v8 w' => ∃ (x8_1 : Int), v8 = .int .i64 x8_1 ∧ Aside0 (decorumlaw10_MatchOwn.l0 kq a1 a2 all_ x8_1 = some r) ∧ Aside0 (kq ≤ k) ∧ Aside0 (Below w.heap.size w w'))
    case atStart => exact ⟨(0), (by first | rfl | (simp; done) | (simp [*]; done)), H', ⟨Nat.le_refl _⟩, ⟨by repeat (first | (with_reducible first | exact HB.out | apply below_alloc | apply pw_below_drewN | apply below_drew1) | exact HB.out)⟩⟩
    case round =>
      clear H'
      try clear p2
      try clear c5
      try clear c5b0
      try clear c5b1
      try clear c5b2
      obtain ⟨x8_1, rfl, HA, HK1, HB⟩ := hrel
      cases gk with
      | zero => exact absurd HA.out (by simp [decorumlaw10_MatchOwn.l0])
      | succ k1 =>
        have H := HA.out
        clear HA
        simp only [decorumlaw10_MatchOwn.l0] at H
        by_cases c6 : x8_1 < (all_.size : Int)
        · rw [if_pos c6] at H
          have c6b0 : decide (x8_1 < (all_.size : Int)) = true := decide_eq_true c6
          clear c6
          by_cases c7 : 0 ≤ x8_1
          · rw [if_pos c7] at H
            have c7b0 : decide (0 ≤ x8_1) = true := decide_eq_true c7
            clear c7
            by_cases c9 : (bt all_ x8_1) = 42
            · rw [if_pos c9] at H
              have c9b0 : ((bt all_ x8_1) == 42) = true := beq_iff_eq.mpr c9
              have c9b1 : ((bt all_ x8_1) != 42) = false := bne_eq_false_iff_eq.mpr c9
              clear c9
              replace H := Option.bind_eq_some_iff.mp H
              obtain ⟨t123, A100, H⟩ := H
              replace H : (some t123) = some r := H
              have A10 := Aside0.mk A100
              clear A100
              obtain rfl := Option.some.inj H
              have p8 : 0 ≤ (x8_1 : Int) := of_decide_eq_true (by first | (with_reducible assumption) | assumption)
              have q8 : x8_1 < (all_.size : Int) := of_decide_eq_true (by first | (with_reducible assumption) | assumption)
              have hx8 := bt_at all_ x8_1
              replace p8 := eq_true p8
              replace q8 := eq_true q8
              go_wp2_with (first | ((with_reducible refine gate_callee (f := 9) rfl ?_); refine goesL_ (some 43) rfl rfl Tryd.func9 (by kernel_rfl) rfl #[] rfl (by (try simp only [List.map_toArray, List.map_cons, List.map_nil]); first | done | rfl | (simp only [List.length_drop, List.length_take]; rfl)) ?_; (with_reducible refine (decorumlaw10_awake.calls k1  t123 _ A10.out (Shp.below HS_.out (by repeat (first | (with_reducible first | exact HB.out | apply below_alloc | apply pw_below_drewN | apply below_drew1) | exact HB.out)))).mono ?_); rintro e w11 ⟨rfl, hb⟩; refine ⟨_, rfl, ?_⟩; have n0_ := Aside0.mk (below_step (by repeat (first | (with_reducible first | exact HB.out | apply below_alloc | apply pw_below_drewN | apply below_drew1) | exact HB.out)) hb); clear HB; have HB := n0_; clear n0_; (try clear hb); (try clear hb2); (try clear hk); (try clear hi)))
              go_ret
              exact ⟨by first | rfl | (simp [errW_none, errW_some] <;> rfl) | (simp [*, errW_none, errW_some] <;> rfl) | (simp [wrap64]; done), by repeat (first | (with_reducible first | exact HB.out | apply below_alloc | apply pw_below_drewN | apply below_drew1) | exact HB.out)⟩
            · rw [if_neg c9] at H
              have c9b0 : ((bt all_ x8_1) == 42) = false := beq_eq_false_iff_ne.mpr c9
              have c9b1 : ((bt all_ x8_1) != 42) = true := bne_iff_ne.mpr c9
              by_cases c13 : (bt all_ x8_1) = 36
              · rw [if_pos c13] at H
                have c13b0 : ((bt all_ x8_1) == 36) = true := beq_iff_eq.mpr c13
                have c13b1 : ((bt all_ x8_1) != 36) = false := bne_eq_false_iff_eq.mpr c13
                clear c13
                replace H := Option.bind_eq_some_iff.mp H
                obtain ⟨t124, A140, H⟩ := H
                replace H : (some t124) = some r := H
                have A14 := Aside0.mk A140
                clear A140
                obtain rfl := Option.some.inj H
                have p8 : 0 ≤ (x8_1 : Int) := of_decide_eq_true (by first | (with_reducible assumption) | assumption)
                have q8 : x8_1 < (all_.size : Int) := of_decide_eq_true (by first | (with_reducible assumption) | assumption)
                have hx8 := bt_at all_ x8_1
                replace p8 := eq_true p8
                replace q8 := eq_true q8
                have p12 : 0 ≤ (x8_1 : Int) := of_decide_eq_true (by first | (with_reducible assumption) | assumption)
                have q12 : x8_1 < (all_.size : Int) := of_decide_eq_true (by first | (with_reducible assumption) | assumption)
                have hx12 := bt_at all_ x8_1
                replace p12 := eq_true p12
                replace q12 := eq_true q12
                go_wp2_with (first | ((with_reducible refine gate_callee (f := 9) rfl ?_); refine goesL_ (some 43) rfl rfl Tryd.func9 (by kernel_rfl) rfl #[] rfl (by (try simp only [List.map_toArray, List.map_cons, List.map_nil]); first | done | rfl | (simp only [List.length_drop, List.length_take]; rfl)) ?_; (with_reducible refine (decorumlaw10_awake.calls k1  t124 _ A14.out (Shp.below HS_.out (by repeat (first | (with_reducible first | exact HB.out | apply below_alloc | apply pw_below_drewN | apply below_drew1) | exact HB.out)))).mono ?_); rintro e w15 ⟨rfl, hb⟩; refine ⟨_, rfl, ?_⟩; have n0_ := Aside0.mk (below_step (by repeat (first | (with_reducible first | exact HB.out | apply below_alloc | apply pw_below_drewN | apply below_drew1) | exact HB.out)) hb); clear HB; have HB := n0_; clear n0_; (try clear hb); (try clear hb2); (try clear hk); (try clear hi)))
                go_ret
                exact ⟨by first | rfl | (simp [errW_none, errW_some] <;> rfl) | (simp [*, errW_none, errW_some] <;> rfl) | (simp [wrap64]; done), by repeat (first | (with_reducible first | exact HB.out | apply below_alloc | apply pw_below_drewN | apply below_drew1) | exact HB.out)⟩
              · rw [if_neg c13] at H
                have c13b0 : ((bt all_ x8_1) == 36) = false := beq_eq_false_iff_ne.mpr c13
                have c13b1 : ((bt all_ x8_1) != 36) = true := bne_iff_ne.mpr c13
                by_cases c17 : (bt all_ x8_1) = 37
                · rw [if_pos c17] at H
                  have c17b0 : ((bt all_ x8_1) == 37) = true := beq_iff_eq.mpr c17
                  have c17b1 : ((bt all_ x8_1) != 37) = false := bne_eq_false_iff_eq.mpr c17
                  clear c17
                  replace H := Option.bind_eq_some_iff.mp H
                  obtain ⟨t125, A180, H⟩ := H
                  replace H : (some t125) = some r := H
                  have A18 := Aside0.mk A180
                  clear A180
                  obtain rfl := Option.some.inj H
                  have p8 : 0 ≤ (x8_1 : Int) := of_decide_eq_true (by first | (with_reducible assumption) | assumption)
                  have q8 : x8_1 < (all_.size : Int) := of_decide_eq_true (by first | (with_reducible assumption) | assumption)
                  have hx8 := bt_at all_ x8_1
                  replace p8 := eq_true p8
                  replace q8 := eq_true q8
                  have p12 : 0 ≤ (x8_1 : Int) := of_decide_eq_true (by first | (with_reducible assumption) | assumption)
                  have q12 : x8_1 < (all_.size : Int) := of_decide_eq_true (by first | (with_reducible assumption) | assumption)
                  have hx12 := bt_at all_ x8_1
                  replace p12 := eq_true p12
                  replace q12 := eq_true q12
                  have p16 : 0 ≤ (x8_1 : Int) := of_decide_eq_true (by first | (with_reducible assumption) | assumption)
                  have q16 : x8_1 < (all_.size : Int) := of_decide_eq_true (by first | (with_reducible assumption) | assumption)
                  have hx16 := bt_at all_ x8_1
                  replace p16 := eq_true p16
                  replace q16 := eq_true q16
                  go_wp2_with (first | ((with_reducible refine gate_callee (f := 9) rfl ?_); refine goesL_ (some 43) rfl rfl Tryd.func9 (by kernel_rfl) rfl #[] rfl (by (try simp only [List.map_toArray, List.map_cons, List.map_nil]); first | done | rfl | (simp only [List.length_drop, List.length_take]; rfl)) ?_; (with_reducible refine (decorumlaw10_awake.calls k1  t125 _ A18.out (Shp.below HS_.out (by repeat (first | (with_reducible first | exact HB.out | apply below_alloc | apply pw_below_drewN | apply below_drew1) | exact HB.out)))).mono ?_); rintro e w19 ⟨rfl, hb⟩; refine ⟨_, rfl, ?_⟩; have n0_ := Aside0.mk (below_step (by repeat (first | (with_reducible first | exact HB.out | apply below_alloc | apply pw_below_drewN | apply below_drew1) | exact HB.out)) hb); clear HB; have HB := n0_; clear n0_; (try clear hb); (try clear hb2); (try clear hk); (try clear hi)))
                  go_ret
                  exact ⟨by first | rfl | (simp [errW_none, errW_some] <;> rfl) | (simp [*, errW_none, errW_some] <;> rfl) | (simp [wrap64]; done), by repeat (first | (with_reducible first | exact HB.out | apply below_alloc | apply pw_below_drewN | apply below_drew1) | exact HB.out)⟩
                · rw [if_neg c17] at H
                  have c17b0 : ((bt all_ x8_1) == 37) = false := beq_eq_false_iff_ne.mpr c17
                  have c17b1 : ((bt all_ x8_1) != 37) = true := bne_iff_ne.mpr c17
                  by_cases c21 : (bt all_ x8_1) ≥ 128
                  · rw [if_pos c21] at H
                    have c21b0 : decide (128 ≤ (bt all_ x8_1)) = true := decide_eq_true c21
                    clear c21
                    replace H := Option.bind_eq_some_iff.mp H
                    obtain ⟨t126, A220, H⟩ := H
                    replace H : (some t126) = some r := H
                    have A22 := Aside0.mk A220
                    clear A220
                    obtain rfl := Option.some.inj H
                    have p8 : 0 ≤ (x8_1 : Int) := of_decide_eq_true (by first | (with_reducible assumption) | assumption)
                    have q8 : x8_1 < (all_.size : Int) := of_decide_eq_true (by first | (with_reducible assumption) | assumption)
                    have hx8 := bt_at all_ x8_1
                    replace p8 := eq_true p8
                    replace q8 := eq_true q8
                    have p12 : 0 ≤ (x8_1 : Int) := of_decide_eq_true (by first | (with_reducible assumption) | assumption)
                    have q12 : x8_1 < (all_.size : Int) := of_decide_eq_true (by first | (with_reducible assumption) | assumption)
                    have hx12 := bt_at all_ x8_1
                    replace p12 := eq_true p12
                    replace q12 := eq_true q12
                    have p16 : 0 ≤ (x8_1 : Int) := of_decide_eq_true (by first | (with_reducible assumption) | assumption)
                    have q16 : x8_1 < (all_.size : Int) := of_decide_eq_true (by first | (with_reducible assumption) | assumption)
                    have hx16 := bt_at all_ x8_1
                    replace p16 := eq_true p16
                    replace q16 := eq_true q16
                    have p20 : 0 ≤ (x8_1 : Int) := of_decide_eq_true (by first | (with_reducible assumption) | assumption)
                    have q20 : x8_1 < (all_.size : Int) := of_decide_eq_true (by first | (with_reducible assumption) | assumption)
                    have hx20 := bt_at all_ x8_1
                    replace p20 := eq_true p20
                    replace q20 := eq_true q20
                    go_wp2_with (first | ((with_reducible refine gate_callee (f := 9) rfl ?_); refine goesL_ (some 43) rfl rfl Tryd.func9 (by kernel_rfl) rfl #[] rfl (by (try simp only [List.map_toArray, List.map_cons, List.map_nil]); first | done | rfl | (simp only [List.length_drop, List.length_take]; rfl)) ?_; (with_reducible refine (decorumlaw10_awake.calls k1  t126 _ A22.out (Shp.below HS_.out (by repeat (first | (with_reducible first | exact HB.out | apply below_alloc | apply pw_below_drewN | apply below_drew1) | exact HB.out)))).mono ?_); rintro e w23 ⟨rfl, hb⟩; refine ⟨_, rfl, ?_⟩; have n0_ := Aside0.mk (below_step (by repeat (first | (with_reducible first | exact HB.out | apply below_alloc | apply pw_below_drewN | apply below_drew1) | exact HB.out)) hb); clear HB; have HB := n0_; clear n0_; (try clear hb); (try clear hb2); (try clear hk); (try clear hi)))
                    go_ret
                    exact ⟨by first | rfl | (simp [errW_none, errW_some] <;> rfl) | (simp [*, errW_none, errW_some] <;> rfl) | (simp [wrap64]; done), by repeat (first | (with_reducible first | exact HB.out | apply below_alloc | apply pw_below_drewN | apply below_drew1) | exact HB.out)⟩
                  · rw [if_neg c21] at H
                    have c21b0 : decide (128 ≤ (bt all_ x8_1)) = false := decide_eq_false c21
                    clear c21
                    have H' := Aside0.mk H
                    clear H
                    have p8 : 0 ≤ (x8_1 : Int) := of_decide_eq_true (by first | (with_reducible assumption) | assumption)
                    have q8 : x8_1 < (all_.size : Int) := of_decide_eq_true (by first | (with_reducible assumption) | assumption)
                    have hx8 := bt_at all_ x8_1
                    replace p8 := eq_true p8
                    replace q8 := eq_true q8
                    have p12 : 0 ≤ (x8_1 : Int) := of_decide_eq_true (by first | (with_reducible assumption) | assumption)
                    have q12 : x8_1 < (all_.size : Int) := of_decide_eq_true (by first | (with_reducible assumption) | assumption)
                    have hx12 := bt_at all_ x8_1
                    replace p12 := eq_true p12
                    replace q12 := eq_true q12
                    have p16 : 0 ≤ (x8_1 : Int) := of_decide_eq_true (by first | (with_reducible assumption) | assumption)
                    have q16 : x8_1 < (all_.size : Int) := of_decide_eq_true (by first | (with_reducible assumption) | assumption)
                    have hx16 := bt_at all_ x8_1
                    replace p16 := eq_true p16
                    replace q16 := eq_true q16
                    have p20 : 0 ≤ (x8_1 : Int) := of_decide_eq_true (by first | (with_reducible assumption) | assumption)
                    have q20 : x8_1 < (all_.size : Int) := of_decide_eq_true (by first | (with_reducible assumption) | assumption)
                    have hx20 := bt_at all_ x8_1
                    replace p20 := eq_true p20
                    replace q20 := eq_true q20
                    go_wp2
                    go_roundg k1
                    case measure => have := HK1.out; omega
                    case rel => exact ⟨(wrap64 (x8_1 + 1)), (by first | rfl | (simp; done) | (simp [*]; done)), H', ⟨by have := HK1.out; omega⟩, ⟨by repeat (first | (with_reducible first | exact HB.out | apply below_alloc | apply pw_below_drewN | apply below_drew1) | exact HB.out)⟩⟩
          · rw [if_neg c7] at H
            exact absurd H (by simp)
        · rw [if_neg c6] at H
          have c6b0 : decide (x8_1 < (all_.size : Int)) = false := decide_eq_false c6
          clear c6
          replace H := Option.bind_eq_some_iff.mp H
          obtain ⟨t127, A240, H⟩ := H
          replace H : (decorumlaw10_MatchOwn.l1 k1 a1 all_ t127 0) = some r := H
          have A24 := Aside0.mk A240
          clear A240
          have H' := Aside0.mk H
          clear H
          go_wp2_with (first | ((with_reducible refine gate_callee (f := 8) rfl ?_); refine goesL_ (some 45) rfl rfl Tryd.func8 (by kernel_rfl) rfl #[.string a2] rfl (by (try simp only [List.map_toArray, List.map_cons, List.map_nil]); first | done | rfl | (simp only [List.length_drop, List.length_take]; rfl)) ?_; (with_reducible refine (decorumlaw10_cut.calls a2 t127 _ A24.out).mono ?_); rintro e w' ⟨rfl, ⟨nd, rfl⟩⟩; refine ⟨_, rfl, ?_⟩))
          go_loopg [10] k1 (fun kq v10 w' => ∃ (x10_2 : Int), v10 = .int .i64 x10_2 ∧ Aside0 (decorumlaw10_MatchOwn.l1 kq a1 all_ t127 x10_2 = some r) ∧ Aside0 (kq ≤ k1) ∧ Aside0 (Below w.heap.size w w'))
          case atStart => exact ⟨(0), (by first | rfl | (simp; done) | (simp [*]; done)), H', ⟨Nat.le_refl _⟩, ⟨by repeat (first | (with_reducible first | exact HB.out | apply below_alloc | apply pw_below_drewN | apply below_drew1) | exact HB.out)⟩⟩
          case round =>
            clear H'
            try clear c1
            try clear p1
            try clear q1
            try clear hx1
            try clear c2
            try clear p2
            try clear q2
            try clear hx2
            try clear c5
            try clear c5b0
            try clear c5b1
            try clear c5b2
            try clear c6
            try clear c6b0
            try clear p6
            try clear c7
            try clear c7b0
            try clear c8
            try clear p8
            try clear q8
            try clear hx8
            try clear c9
            try clear c9b0
            try clear c9b1
            try clear p12
            try clear q12
            try clear hx12
            try clear c13
            try clear c13b0
            try clear c13b1
            try clear p16
            try clear q16
            try clear hx16
            try clear c17
            try clear c17b0
            try clear c17b1
            try clear p20
            try clear q20
            try clear hx20
            try clear c21
            try clear c21b0
            try clear p12
            try clear p16
            try clear p2
            try clear p20
            try clear p8
            try clear q12
            try clear q16
            try clear q20
            try clear q8
            obtain ⟨x10_2, rfl, HA, HK2, HB⟩ := hrel
            cases gk with
            | zero => exact absurd HA.out (by simp [decorumlaw10_MatchOwn.l1])
            | succ k2 =>
              have H := HA.out
              clear HA
              simp only [decorumlaw10_MatchOwn.l1] at H
              by_cases c25 : x10_2 < (t127.size : Int)
              · rw [if_pos c25] at H
                have c25b0 : decide (x10_2 < (t127.size : Int)) = true := decide_eq_true c25
                clear c25
                by_cases c26 : 0 ≤ x10_2
                · rw [if_pos c26] at H
                  have c26b0 : decide (0 ≤ x10_2) = true := decide_eq_true c26
                  clear c26
                  by_cases c28 : (bt t127 x10_2) = 37
                  · rw [if_pos c28] at H
                    have c28b0 : ((bt t127 x10_2) == 37) = true := beq_iff_eq.mpr c28
                    have c28b1 : ((bt t127 x10_2) != 37) = false := bne_eq_false_iff_eq.mpr c28
                    clear c28
                    replace H := Option.bind_eq_some_iff.mp H
                    obtain ⟨t128, A290, H⟩ := H
                    replace H : (some t128) = some r := H
                    have A29 := Aside0.mk A290
                    clear A290
                    obtain rfl := Option.some.inj H
                    have p27 : 0 ≤ (x10_2 : Int) := of_decide_eq_true (by first | (with_reducible assumption) | assumption)
                    have q27 : x10_2 < (t127.size : Int) := of_decide_eq_true (by first | (with_reducible assumption) | assumption)
                    have hx27 := bt_at t127 x10_2
                    replace p27 := eq_true p27
                    replace q27 := eq_true q27
                    go_wp2_with (first | ((with_reducible refine gate_callee (f := 9) rfl ?_); refine goesL_ (some 62) rfl rfl Tryd.func9 (by kernel_rfl) rfl #[] rfl (by (try simp only [List.map_toArray, List.map_cons, List.map_nil]); first | done | rfl | (simp only [List.length_drop, List.length_take]; rfl)) ?_; (with_reducible refine (decorumlaw10_awake.calls k2  t128 _ A29.out (Shp.below HS_.out (by repeat (first | (with_reducible first | exact HB.out | apply below_alloc | apply pw_below_drewN | apply below_drew1) | exact HB.out)))).mono ?_); rintro e w30 ⟨rfl, hb⟩; refine ⟨_, rfl, ?_⟩; have n0_ := Aside0.mk (below_step (by repeat (first | (with_reducible first | exact HB.out | apply below_alloc | apply pw_below_drewN | apply below_drew1) | exact HB.out)) hb); clear HB; have HB := n0_; clear n0_; (try clear hb); (try clear hb2); (try clear hk); (try clear hi)))
                    go_ret
                    exact ⟨by first | rfl | (simp [errW_none, errW_some] <;> rfl) | (simp [*, errW_none, errW_some] <;> rfl) | (simp [wrap64]; done), by repeat (first | (with_reducible first | exact HB.out | apply below_alloc | apply pw_below_drewN | apply below_drew1) | exact HB.out)⟩
                  · rw [if_neg c28] at H
                    have c28b0 : ((bt t127 x10_2) == 37) = false := beq_eq_false_iff_ne.mpr c28
                    have c28b1 : ((bt t127 x10_2) != 37) = true := bne_iff_ne.mpr c28
                    by_cases c32 : (bt t127 x10_2) ≥ 128
                    · rw [if_pos c32] at H
                      have c32b0 : decide (128 ≤ (bt t127 x10_2)) = true := decide_eq_true c32
                      clear c32
                      replace H := Option.bind_eq_some_iff.mp H
                      obtain ⟨t129, A330, H⟩ := H
                      replace H : (some t129) = some r := H
                      have A33 := Aside0.mk A330
                      clear A330
                      obtain rfl := Option.some.inj H
                      have p27 : 0 ≤ (x10_2 : Int) := of_decide_eq_true (by first | (with_reducible assumption) | assumption)
                      have q27 : x10_2 < (t127.size : Int) := of_decide_eq_true (by first | (with_reducible assumption) | assumption)
                      have hx27 := bt_at t127 x10_2
                      replace p27 := eq_true p27
                      replace q27 := eq_true q27
                      have p31 : 0 ≤ (x10_2 : Int) := of_decide_eq_true (by first | (with_reducible assumption) | assumption)
                      have q31 : x10_2 < (t127.size : Int) := of_decide_eq_true (by first | (with_reducible assumption) | assumption)
                      have hx31 := bt_at t127 x10_2
                      replace p31 := eq_true p31
                      replace q31 := eq_true q31
                      go_wp2_with (first | ((with_reducible refine gate_callee (f := 9) rfl ?_); refine goesL_ (some 62) rfl rfl Tryd.func9 (by kernel_rfl) rfl #[] rfl (by (try simp only [List.map_toArray, List.map_cons, List.map_nil]); first | done | rfl | (simp only [List.length_drop, List.length_take]; rfl)) ?_; (with_reducible refine (decorumlaw10_awake.calls k2  t129 _ A33.out (Shp.below HS_.out (by repeat (first | (with_reducible first | exact HB.out | apply below_alloc | apply pw_below_drewN | apply below_drew1) | exact HB.out)))).mono ?_); rintro e w34 ⟨rfl, hb⟩; refine ⟨_, rfl, ?_⟩; have n0_ := Aside0.mk (below_step (by repeat (first | (with_reducible first | exact HB.out | apply below_alloc | apply pw_below_drewN | apply below_drew1) | exact HB.out)) hb); clear HB; have HB := n0_; clear n0_; (try clear hb); (try clear hb2); (try clear hk); (try clear hi)))
                      go_ret
                      exact ⟨by first | rfl | (simp [errW_none, errW_some] <;> rfl) | (simp [*, errW_none, errW_some] <;> rfl) | (simp [wrap64]; done), by repeat (first | (with_reducible first | exact HB.out | apply below_alloc | apply pw_below_drewN | apply below_drew1) | exact HB.out)⟩
                    · rw [if_neg c32] at H
                      have c32b0 : decide (128 ≤ (bt t127 x10_2)) = false := decide_eq_false c32
                      clear c32
                      have H' := Aside0.mk H
                      clear H
                      have p27 : 0 ≤ (x10_2 : Int) := of_decide_eq_true (by first | (with_reducible assumption) | assumption)
                      have q27 : x10_2 < (t127.size : Int) := of_decide_eq_true (by first | (with_reducible assumption) | assumption)
                      have hx27 := bt_at t127 x10_2
                      replace p27 := eq_true p27
                      replace q27 := eq_true q27
                      have p31 : 0 ≤ (x10_2 : Int) := of_decide_eq_true (by first | (with_reducible assumption) | assumption)
                      have q31 : x10_2 < (t127.size : Int) := of_decide_eq_true (by first | (with_reducible assumption) | assumption)
                      have hx31 := bt_at t127 x10_2
                      replace p31 := eq_true p31
                      replace q31 := eq_true q31
                      go_wp2
                      go_roundg k2
                      case measure => have := HK1.out; have := HK2.out; omega
                      case rel => exact ⟨(wrap64 (x10_2 + 1)), (by first | rfl | (simp; done) | (simp [*]; done)), H', ⟨by have := HK1.out; have := HK2.out; omega⟩, ⟨by repeat (first | (with_reducible first | exact HB.out | apply below_alloc | apply pw_below_drewN | apply below_drew1) | exact HB.out)⟩⟩
                · rw [if_neg c26] at H
                  exact absurd H (by simp)
              · rw [if_neg c25] at H
                have c25b0 : decide (x10_2 < (t127.size : Int)) = false := decide_eq_false c25
                clear c25
                by_cases c35 : (wrap64 ((all_.size : Int) + 1)) = 0
                · rw [if_pos c35] at H
                  exact absurd H (by simp)
                · rw [if_neg c35] at H
                  have c35b0 : ((wrap64 ((all_.size : Int) + 1)) == 0) = false := beq_eq_false_iff_ne.mpr c35
                  have c35b1 : ((wrap64 ((all_.size : Int) + 1)) != 0) = true := bne_iff_ne.mpr c35
                  replace H := Option.bind_eq_some_iff.mp H
                  obtain ⟨t130, A360, H⟩ := H
                  replace H : (if t130 = true then ((match_Match.f all_ all_).bind fun t131 => (if t131 = true then (if 0 ≤ (Int.tmod (wrap64 (a1)) (wrap64 ((all_.size : Int) + 1))) then (if (Int.tmod (wrap64 (a1)) (wrap64 ((all_.size : Int) + 1))) ≤ (all_.size : Int) then ((match_Match.f (all_.extract 0 ((Int.tmod (wrap64 (a1)) (wrap64 ((all_.size : Int) + 1))) : Int).toNat) all_).bind fun t132 => (if t132 = true then (if all_.size + 1 ≤ 9223372036854775807 then ((match_Match.f (all_ ++ (⟨#[36]⟩ : ByteArray)) all_).bind fun t133 => (if t133 = true then (if all_.size + t127.size ≤ 9223372036854775807 then ((match_Match.f all_ (all_ ++ t127)).bind fun t134 => (if t134 = true then ((match_Match.f (all_ ++ (⟨#[36]⟩ : ByteArray)) (all_ ++ t127)).bind fun t135 => (if (t135 == (t127.toList == ([] : List UInt8))) = true then ((match_Match.f (⟨#[42]⟩ : ByteArray) all_).bind fun t136 => (if t136 = true then (if (all_.extract 0 ((Int.tmod (wrap64 (a1)) (wrap64 ((all_.size : Int) + 1))) : Int).toNat).size + 1 ≤ 9223372036854775807 then (if ((all_.extract 0 ((Int.tmod (wrap64 (a1)) (wrap64 ((all_.size : Int) + 1))) : Int).toNat) ++ (⟨#[42]⟩ : ByteArray)).size + (all_.extract ((Int.tmod (wrap64 (a1)) (wrap64 ((all_.size : Int) + 1))) : Int).toNat all_.size).size ≤ 9223372036854775807 then (if (((all_.extract 0 ((Int.tmod (wrap64 (a1)) (wrap64 ((all_.size : Int) + 1))) : Int).toNat) ++ (⟨#[42]⟩ : ByteArray)) ++ (all_.extract ((Int.tmod (wrap64 (a1)) (wrap64 ((all_.size : Int) + 1))) : Int).toNat all_.size)).size + 1 ≤ 9223372036854775807 then (if (all_.extract 0 ((Int.tmod (wrap64 (a1)) (wrap64 ((all_.size : Int) + 1))) : Int).toNat).size + t127.size ≤ 9223372036854775807 then (if ((all_.extract 0 ((Int.tmod (wrap64 (a1)) (wrap64 ((all_.size : Int) + 1))) : Int).toNat) ++ t127).size + (all_.extract ((Int.tmod (wrap64 (a1)) (wrap64 ((all_.size : Int) + 1))) : Int).toNat all_.size).size ≤ 9223372036854775807 then ((match_Match.f ((((all_.extract 0 ((Int.tmod (wrap64 (a1)) (wrap64 ((all_.size : Int) + 1))) : Int).toNat) ++ (⟨#[42]⟩ : ByteArray)) ++ (all_.extract ((Int.tmod (wrap64 (a1)) (wrap64 ((all_.size : Int) + 1))) : Int).toNat all_.size)) ++ (⟨#[36]⟩ : ByteArray)) (((all_.extract 0 ((Int.tmod (wrap64 (a1)) (wrap64 ((all_.size : Int) + 1))) : Int).toNat) ++ t127) ++ (all_.extract ((Int.tmod (wrap64 (a1)) (wrap64 ((all_.size : Int) + 1))) : Int).toNat all_.size))).bind fun t137 => (some t137)) else (none)) else (none)) else (none)) else (none)) else (none)) else (some false))) else (some false))) else (some false))) else (none)) else (some false))) else (none)) else (some false))) else (none)) else (none)) else (some false))) else (some false)) = some r := H
                  have A36 := Aside0.mk A360
                  clear A360
                  by_cases c37 : t130 = true
                  · subst c37
                    have H1 : ((match_Match.f all_ all_).bind fun t131 => (if t131 = true then (if 0 ≤ (Int.tmod (wrap64 (a1)) (wrap64 ((all_.size : Int) + 1))) then (if (Int.tmod (wrap64 (a1)) (wrap64 ((all_.size : Int) + 1))) ≤ (all_.size : Int) then ((match_Match.f (all_.extract 0 ((Int.tmod (wrap64 (a1)) (wrap64 ((all_.size : Int) + 1))) : Int).toNat) all_).bind fun t132 => (if t132 = true then (if all_.size + 1 ≤ 9223372036854775807 then ((match_Match.f (all_ ++ (⟨#[36]⟩ : ByteArray)) all_).bind fun t133 => (if t133 = true then (if all_.size + t127.size ≤ 9223372036854775807 then ((match_Match.f all_ (all_ ++ t127)).bind fun t134 => (if t134 = true then ((match_Match.f (all_ ++ (⟨#[36]⟩ : ByteArray)) (all_ ++ t127)).bind fun t135 => (if (t135 == (t127.toList == ([] : List UInt8))) = true then ((match_Match.f (⟨#[42]⟩ : ByteArray) all_).bind fun t136 => (if t136 = true then (if (all_.extract 0 ((Int.tmod (wrap64 (a1)) (wrap64 ((all_.size : Int) + 1))) : Int).toNat).size + 1 ≤ 9223372036854775807 then (if ((all_.extract 0 ((Int.tmod (wrap64 (a1)) (wrap64 ((all_.size : Int) + 1))) : Int).toNat) ++ (⟨#[42]⟩ : ByteArray)).size + (all_.extract ((Int.tmod (wrap64 (a1)) (wrap64 ((all_.size : Int) + 1))) : Int).toNat all_.size).size ≤ 9223372036854775807 then (if (((all_.extract 0 ((Int.tmod (wrap64 (a1)) (wrap64 ((all_.size : Int) + 1))) : Int).toNat) ++ (⟨#[42]⟩ : ByteArray)) ++ (all_.extract ((Int.tmod (wrap64 (a1)) (wrap64 ((all_.size : Int) + 1))) : Int).toNat all_.size)).size + 1 ≤ 9223372036854775807 then (if (all_.extract 0 ((Int.tmod (wrap64 (a1)) (wrap64 ((all_.size : Int) + 1))) : Int).toNat).size + t127.size ≤ 9223372036854775807 then (if ((all_.extract 0 ((Int.tmod (wrap64 (a1)) (wrap64 ((all_.size : Int) + 1))) : Int).toNat) ++ t127).size + (all_.extract ((Int.tmod (wrap64 (a1)) (wrap64 ((all_.size : Int) + 1))) : Int).toNat all_.size).size ≤ 9223372036854775807 then ((match_Match.f ((((all_.extract 0 ((Int.tmod (wrap64 (a1)) (wrap64 ((all_.size : Int) + 1))) : Int).toNat) ++ (⟨#[42]⟩ : ByteArray)) ++ (all_.extract ((Int.tmod (wrap64 (a1)) (wrap64 ((all_.size : Int) + 1))) : Int).toNat all_.size)) ++ (⟨#[36]⟩ : ByteArray)) (((all_.extract 0 ((Int.tmod (wrap64 (a1)) (wrap64 ((all_.size : Int) + 1))) : Int).toNat) ++ t127) ++ (all_.extract ((Int.tmod (wrap64 (a1)) (wrap64 ((all_.size : Int) + 1))) : Int).toNat all_.size))).bind fun t137 => (some t137)) else (none)) else (none)) else (none)) else (none)) else (none)) else (some false))) else (some false))) else (some false))) else (none)) else (some false))) else (none)) else (some false))) else (none)) else (none)) else (some false))) = some r := by rw [if_pos rfl] at H; exact H
                    clear H
                    have H := H1
                    clear H1
                    replace H := Option.bind_eq_some_iff.mp H
                    obtain ⟨t131, A380, H⟩ := H
                    replace H : (if t131 = true then (if 0 ≤ (Int.tmod (wrap64 (a1)) (wrap64 ((all_.size : Int) + 1))) then (if (Int.tmod (wrap64 (a1)) (wrap64 ((all_.size : Int) + 1))) ≤ (all_.size : Int) then ((match_Match.f (all_.extract 0 ((Int.tmod (wrap64 (a1)) (wrap64 ((all_.size : Int) + 1))) : Int).toNat) all_).bind fun t132 => (if t132 = true then (if all_.size + 1 ≤ 9223372036854775807 then ((match_Match.f (all_ ++ (⟨#[36]⟩ : ByteArray)) all_).bind fun t133 => (if t133 = true then (if all_.size + t127.size ≤ 9223372036854775807 then ((match_Match.f all_ (all_ ++ t127)).bind fun t134 => (if t134 = true then ((match_Match.f (all_ ++ (⟨#[36]⟩ : ByteArray)) (all_ ++ t127)).bind fun t135 => (if (t135 == (t127.toList == ([] : List UInt8))) = true then ((match_Match.f (⟨#[42]⟩ : ByteArray) all_).bind fun t136 => (if t136 = true then (if (all_.extract 0 ((Int.tmod (wrap64 (a1)) (wrap64 ((all_.size : Int) + 1))) : Int).toNat).size + 1 ≤ 9223372036854775807 then (if ((all_.extract 0 ((Int.tmod (wrap64 (a1)) (wrap64 ((all_.size : Int) + 1))) : Int).toNat) ++ (⟨#[42]⟩ : ByteArray)).size + (all_.extract ((Int.tmod (wrap64 (a1)) (wrap64 ((all_.size : Int) + 1))) : Int).toNat all_.size).size ≤ 9223372036854775807 then (if (((all_.extract 0 ((Int.tmod (wrap64 (a1)) (wrap64 ((all_.size : Int) + 1))) : Int).toNat) ++ (⟨#[42]⟩ : ByteArray)) ++ (all_.extract ((Int.tmod (wrap64 (a1)) (wrap64 ((all_.size : Int) + 1))) : Int).toNat all_.size)).size + 1 ≤ 9223372036854775807 then (if (all_.extract 0 ((Int.tmod (wrap64 (a1)) (wrap64 ((all_.size : Int) + 1))) : Int).toNat).size + t127.size ≤ 9223372036854775807 then (if ((all_.extract 0 ((Int.tmod (wrap64 (a1)) (wrap64 ((all_.size : Int) + 1))) : Int).toNat) ++ t127).size + (all_.extract ((Int.tmod (wrap64 (a1)) (wrap64 ((all_.size : Int) + 1))) : Int).toNat all_.size).size ≤ 9223372036854775807 then ((match_Match.f ((((all_.extract 0 ((Int.tmod (wrap64 (a1)) (wrap64 ((all_.size : Int) + 1))) : Int).toNat) ++ (⟨#[42]⟩ : ByteArray)) ++ (all_.extract ((Int.tmod (wrap64 (a1)) (wrap64 ((all_.size : Int) + 1))) : Int).toNat all_.size)) ++ (⟨#[36]⟩ : ByteArray)) (((all_.extract 0 ((Int.tmod (wrap64 (a1)) (wrap64 ((all_.size : Int) + 1))) : Int).toNat) ++ t127) ++ (all_.extract ((Int.tmod (wrap64 (a1)) (wrap64 ((all_.size : Int) + 1))) : Int).toNat all_.size))).bind fun t137 => (some t137)) else (none)) else (none)) else (none)) else (none)) else (none)) else (some false))) else (some false))) else (some false))) else (none)) else (some false))) else (none)) else (some false))) else (none)) else (none)) else (some false)) = some r := H
                    have A38 := Aside0.mk A380
                    clear A380
                    by_cases c39 : t131 = true
                    · subst c39
                      have H1 : (if 0 ≤ (Int.tmod (wrap64 (a1)) (wrap64 ((all_.size : Int) + 1))) then (if (Int.tmod (wrap64 (a1)) (wrap64 ((all_.size : Int) + 1))) ≤ (all_.size : Int) then ((match_Match.f (all_.extract 0 ((Int.tmod (wrap64 (a1)) (wrap64 ((all_.size : Int) + 1))) : Int).toNat) all_).bind fun t132 => (if t132 = true then (if all_.size + 1 ≤ 9223372036854775807 then ((match_Match.f (all_ ++ (⟨#[36]⟩ : ByteArray)) all_).bind fun t133 => (if t133 = true then (if all_.size + t127.size ≤ 9223372036854775807 then ((match_Match.f all_ (all_ ++ t127)).bind fun t134 => (if t134 = true then ((match_Match.f (all_ ++ (⟨#[36]⟩ : ByteArray)) (all_ ++ t127)).bind fun t135 => (if (t135 == (t127.toList == ([] : List UInt8))) = true then ((match_Match.f (⟨#[42]⟩ : ByteArray) all_).bind fun t136 => (if t136 = true then (if (all_.extract 0 ((Int.tmod (wrap64 (a1)) (wrap64 ((all_.size : Int) + 1))) : Int).toNat).size + 1 ≤ 9223372036854775807 then (if ((all_.extract 0 ((Int.tmod (wrap64 (a1)) (wrap64 ((all_.size : Int) + 1))) : Int).toNat) ++ (⟨#[42]⟩ : ByteArray)).size + (all_.extract ((Int.tmod (wrap64 (a1)) (wrap64 ((all_.size : Int) + 1))) : Int).toNat all_.size).size ≤ 9223372036854775807 then (if (((all_.extract 0 ((Int.tmod (wrap64 (a1)) (wrap64 ((all_.size : Int) + 1))) : Int).toNat) ++ (⟨#[42]⟩ : ByteArray)) ++ (all_.extract ((Int.tmod (wrap64 (a1)) (wrap64 ((all_.size : Int) + 1))) : Int).toNat all_.size)).size + 1 ≤ 9223372036854775807 then (if (all_.extract 0 ((Int.tmod (wrap64 (a1)) (wrap64 ((all_.size : Int) + 1))) : Int).toNat).size + t127.size ≤ 9223372036854775807 then (if ((all_.extract 0 ((Int.tmod (wrap64 (a1)) (wrap64 ((all_.size : Int) + 1))) : Int).toNat) ++ t127).size + (all_.extract ((Int.tmod (wrap64 (a1)) (wrap64 ((all_.size : Int) + 1))) : Int).toNat all_.size).size ≤ 9223372036854775807 then ((match_Match.f ((((all_.extract 0 ((Int.tmod (wrap64 (a1)) (wrap64 ((all_.size : Int) + 1))) : Int).toNat) ++ (⟨#[42]⟩ : ByteArray)) ++ (all_.extract ((Int.tmod (wrap64 (a1)) (wrap64 ((all_.size : Int) + 1))) : Int).toNat all_.size)) ++ (⟨#[36]⟩ : ByteArray)) (((all_.extract 0 ((Int.tmod (wrap64 (a1)) (wrap64 ((all_.size : Int) + 1))) : Int).toNat) ++ t127) ++ (all_.extract ((Int.tmod (wrap64 (a1)) (wrap64 ((all_.size : Int) + 1))) : Int).toNat all_.size))).bind fun t137 => (some t137)) else (none)) else (none)) else (none)) else (none)) else (none)) else (some false))) else (some false))) else (some false))) else (none)) else (some false))) else (none)) else (some false))) else (none)) else (none)) = some r := by rw [if_pos rfl] at H; exact H
                      clear H
                      have H := H1
                      clear H1
                      obtain ⟨ji40, hji40⟩ : ∃ j_ : Int, (Int.tmod (wrap64 (a1)) (wrap64 ((all_.size : Int) + 1))) = j_ := ⟨_, rfl⟩
                      replace H : (if 0 ≤ (ji40) then (if (ji40) ≤ (all_.size : Int) then ((match_Match.f (all_.extract 0 ((ji40) : Int).toNat) all_).bind fun t132 => (if t132 = true then (if all_.size + 1 ≤ 9223372036854775807 then ((match_Match.f (all_ ++ (⟨#[36]⟩ : ByteArray)) all_).bind fun t133 => (if t133 = true then (if all_.size + t127.size ≤ 9223372036854775807 then ((match_Match.f all_ (all_ ++ t127)).bind fun t134 => (if t134 = true then ((match_Match.f (all_ ++ (⟨#[36]⟩ : ByteArray)) (all_ ++ t127)).bind fun t135 => (if (t135 == (t127.toList == ([] : List UInt8))) = true then ((match_Match.f (⟨#[42]⟩ : ByteArray) all_).bind fun t136 => (if t136 = true then (if (all_.extract 0 ((ji40) : Int).toNat).size + 1 ≤ 9223372036854775807 then (if ((all_.extract 0 ((ji40) : Int).toNat) ++ (⟨#[42]⟩ : ByteArray)).size + (all_.extract ((ji40) : Int).toNat all_.size).size ≤ 9223372036854775807 then (if (((all_.extract 0 ((ji40) : Int).toNat) ++ (⟨#[42]⟩ : ByteArray)) ++ (all_.extract ((ji40) : Int).toNat all_.size)).size + 1 ≤ 9223372036854775807 then (if (all_.extract 0 ((ji40) : Int).toNat).size + t127.size ≤ 9223372036854775807 then (if ((all_.extract 0 ((ji40) : Int).toNat) ++ t127).size + (all_.extract ((ji40) : Int).toNat all_.size).size ≤ 9223372036854775807 then ((match_Match.f ((((all_.extract 0 ((ji40) : Int).toNat) ++ (⟨#[42]⟩ : ByteArray)) ++ (all_.extract ((ji40) : Int).toNat all_.size)) ++ (⟨#[36]⟩ : ByteArray)) (((all_.extract 0 ((ji40) : Int).toNat) ++ t127) ++ (all_.extract ((ji40) : Int).toNat all_.size))).bind fun t137 => (some t137)) else (none)) else (none)) else (none)) else (none)) else (none)) else (some false))) else (some false))) else (some false))) else (none)) else (some false))) else (none)) else (some false))) else (none)) else (none)) = some r := by first | (rw [hji40] at H; exact H) | (simp only [hji40] at H ⊢; exact H)
                      (try rw [hji40] at A36)
                      (try rw [hji40] at A38)
                      obtain ⟨cut1_, hcut1_⟩ : ∃ e_, all_.extract 0 ((ji40) : Int).toNat = e_ := ⟨_, rfl⟩
                      obtain ⟨cut2_, hcut2_⟩ : ∃ e_, all_.extract ((ji40) : Int).toNat all_.size = e_ := ⟨_, rfl⟩
                      rw [hcut1_, hcut2_] at H
                      by_cases c41 : 0 ≤ (ji40)
                      · rw [if_pos c41] at H
                        have c41b0 := eq_true c41
                        have c41b1 : decide (0 ≤ (ji40)) = true := decide_eq_true c41
                        clear c41
                        by_cases c42 : (ji40) ≤ (all_.size : Int)
                        · rw [if_pos c42] at H
                          have c42b0 := eq_true c42
                          have c42b1 : decide ((ji40) ≤ (all_.size : Int)) = true := decide_eq_true c42
                          replace H := Option.bind_eq_some_iff.mp H
                          obtain ⟨t132, A430, H⟩ := H
                          replace H : (if t132 = true then (if all_.size + 1 ≤ 9223372036854775807 then ((match_Match.f (all_ ++ (⟨#[36]⟩ : ByteArray)) all_).bind fun t133 => (if t133 = true then (if all_.size + t127.size ≤ 9223372036854775807 then ((match_Match.f all_ (all_ ++ t127)).bind fun t134 => (if t134 = true then ((match_Match.f (all_ ++ (⟨#[36]⟩ : ByteArray)) (all_ ++ t127)).bind fun t135 => (if (t135 == (t127.toList == ([] : List UInt8))) = true then ((match_Match.f (⟨#[42]⟩ : ByteArray) all_).bind fun t136 => (if t136 = true then (if cut1_.size + 1 ≤ 9223372036854775807 then (if (cut1_ ++ (⟨#[42]⟩ : ByteArray)).size + cut2_.size ≤ 9223372036854775807 then (if ((cut1_ ++ (⟨#[42]⟩ : ByteArray)) ++ cut2_).size + 1 ≤ 9223372036854775807 then (if cut1_.size + t127.size ≤ 9223372036854775807 then (if (cut1_ ++ t127).size + cut2_.size ≤ 9223372036854775807 then ((match_Match.f (((cut1_ ++ (⟨#[42]⟩ : ByteArray)) ++ cut2_) ++ (⟨#[36]⟩ : ByteArray)) ((cut1_ ++ t127) ++ cut2_)).bind fun t137 => (some t137)) else (none)) else (none)) else (none)) else (none)) else (none)) else (some false))) else (some false))) else (some false))) else (none)) else (some false))) else (none)) else (some false)) = some r := H
                          have A43 := Aside0.mk A430
                          clear A430
                          by_cases c44 : t132 = true
                          · subst c44
                            have H1 : (if all_.size + 1 ≤ 9223372036854775807 then ((match_Match.f (all_ ++ (⟨#[36]⟩ : ByteArray)) all_).bind fun t133 => (if t133 = true then (if all_.size + t127.size ≤ 9223372036854775807 then ((match_Match.f all_ (all_ ++ t127)).bind fun t134 => (if t134 = true then ((match_Match.f (all_ ++ (⟨#[36]⟩ : ByteArray)) (all_ ++ t127)).bind fun t135 => (if (t135 == (t127.toList == ([] : List UInt8))) = true then ((match_Match.f (⟨#[42]⟩ : ByteArray) all_).bind fun t136 => (if t136 = true then (if cut1_.size + 1 ≤ 9223372036854775807 then (if (cut1_ ++ (⟨#[42]⟩ : ByteArray)).size + cut2_.size ≤ 9223372036854775807 then (if ((cut1_ ++ (⟨#[42]⟩ : ByteArray)) ++ cut2_).size + 1 ≤ 9223372036854775807 then (if cut1_.size + t127.size ≤ 9223372036854775807 then (if (cut1_ ++ t127).size + cut2_.size ≤ 9223372036854775807 then ((match_Match.f (((cut1_ ++ (⟨#[42]⟩ : ByteArray)) ++ cut2_) ++ (⟨#[36]⟩ : ByteArray)) ((cut1_ ++ t127) ++ cut2_)).bind fun t137 => (some t137)) else (none)) else (none)) else (none)) else (none)) else (none)) else (some false))) else (some false))) else (some false))) else (none)) else (some false))) else (none)) = some r := by rw [if_pos rfl] at H; exact H
                            clear H
                            have H := H1
                            clear H1
                            by_cases c45 : all_.size + 1 ≤ 9223372036854775807
                            · rw [if_pos c45] at H
                              have c45b0 := eq_true c45
                              have c45b1 : decide (all_.size + 1 ≤ 9223372036854775807) = true := decide_eq_true c45
                              try have c45b2 : (9223372036854775807 < all_.size + 1) = False := eq_false (Nat.not_lt.2 c45)
                              have hji40z : Int.tmod (wrap64 (a1)) ((all_.size : Int) + 1) = ji40 := by rw [← hji40]; congr 1; simp only [wrap64]; omega
                              replace H := Option.bind_eq_some_iff.mp H
                              obtain ⟨t133, A460, H⟩ := H
                              replace H : (if t133 = true then (if all_.size + t127.size ≤ 9223372036854775807 then ((match_Match.f all_ (all_ ++ t127)).bind fun t134 => (if t134 = true then ((match_Match.f (all_ ++ (⟨#[36]⟩ : ByteArray)) (all_ ++ t127)).bind fun t135 => (if (t135 == (t127.toList == ([] : List UInt8))) = true then ((match_Match.f (⟨#[42]⟩ : ByteArray) all_).bind fun t136 => (if t136 = true then (if cut1_.size + 1 ≤ 9223372036854775807 then (if (cut1_ ++ (⟨#[42]⟩ : ByteArray)).size + cut2_.size ≤ 9223372036854775807 then (if ((cut1_ ++ (⟨#[42]⟩ : ByteArray)) ++ cut2_).size + 1 ≤ 9223372036854775807 then (if cut1_.size + t127.size ≤ 9223372036854775807 then (if (cut1_ ++ t127).size + cut2_.size ≤ 9223372036854775807 then ((match_Match.f (((cut1_ ++ (⟨#[42]⟩ : ByteArray)) ++ cut2_) ++ (⟨#[36]⟩ : ByteArray)) ((cut1_ ++ t127) ++ cut2_)).bind fun t137 => (some t137)) else (none)) else (none)) else (none)) else (none)) else (none)) else (some false))) else (some false))) else (some false))) else (none)) else (some false)) = some r := H
                              have A46 := Aside0.mk A460
                              clear A460
                              by_cases c47 : t133 = true
                              · subst c47
                                have H1 : (if all_.size + t127.size ≤ 9223372036854775807 then ((match_Match.f all_ (all_ ++ t127)).bind fun t134 => (if t134 = true then ((match_Match.f (all_ ++ (⟨#[36]⟩ : ByteArray)) (all_ ++ t127)).bind fun t135 => (if (t135 == (t127.toList == ([] : List UInt8))) = true then ((match_Match.f (⟨#[42]⟩ : ByteArray) all_).bind fun t136 => (if t136 = true then (if cut1_.size + 1 ≤ 9223372036854775807 then (if (cut1_ ++ (⟨#[42]⟩ : ByteArray)).size + cut2_.size ≤ 9223372036854775807 then (if ((cut1_ ++ (⟨#[42]⟩ : ByteArray)) ++ cut2_).size + 1 ≤ 9223372036854775807 then (if cut1_.size + t127.size ≤ 9223372036854775807 then (if (cut1_ ++ t127).size + cut2_.size ≤ 9223372036854775807 then ((match_Match.f (((cut1_ ++ (⟨#[42]⟩ : ByteArray)) ++ cut2_) ++ (⟨#[36]⟩ : ByteArray)) ((cut1_ ++ t127) ++ cut2_)).bind fun t137 => (some t137)) else (none)) else (none)) else (none)) else (none)) else (none)) else (some false))) else (some false))) else (some false))) else (none)) = some r := by rw [if_pos rfl] at H; exact H
                                clear H
                                have H := H1
                                clear H1
                                by_cases c48 : all_.size + t127.size ≤ 9223372036854775807
                                · rw [if_pos c48] at H
                                  have c48b0 := eq_true c48
                                  have c48b1 : decide (all_.size + t127.size ≤ 9223372036854775807) = true := decide_eq_true c48
                                  try have c48b2 : (9223372036854775807 < all_.size + t127.size) = False := eq_false (Nat.not_lt.2 c48)
                                  replace H := Option.bind_eq_some_iff.mp H
                                  obtain ⟨t134, A490, H⟩ := H
                                  replace H : (if t134 = true then ((match_Match.f (all_ ++ (⟨#[36]⟩ : ByteArray)) (all_ ++ t127)).bind fun t135 => (if (t135 == (t127.toList == ([] : List UInt8))) = true then ((match_Match.f (⟨#[42]⟩ : ByteArray) all_).bind fun t136 => (if t136 = true then (if cut1_.size + 1 ≤ 9223372036854775807 then (if (cut1_ ++ (⟨#[42]⟩ : ByteArray)).size + cut2_.size ≤ 9223372036854775807 then (if ((cut1_ ++ (⟨#[42]⟩ : ByteArray)) ++ cut2_).size + 1 ≤ 9223372036854775807 then (if cut1_.size + t127.size ≤ 9223372036854775807 then (if (cut1_ ++ t127).size + cut2_.size ≤ 9223372036854775807 then ((match_Match.f (((cut1_ ++ (⟨#[42]⟩ : ByteArray)) ++ cut2_) ++ (⟨#[36]⟩ : ByteArray)) ((cut1_ ++ t127) ++ cut2_)).bind fun t137 => (some t137)) else (none)) else (none)) else (none)) else (none)) else (none)) else (some false))) else (some false))) else (some false)) = some r := H
                                  have A49 := Aside0.mk A490
                                  clear A490
                                  by_cases c50 : t134 = true
                                  · subst c50
                                    have H1 : ((match_Match.f (all_ ++ (⟨#[36]⟩ : ByteArray)) (all_ ++ t127)).bind fun t135 => (if (t135 == (t127.toList == ([] : List UInt8))) = true then ((match_Match.f (⟨#[42]⟩ : ByteArray) all_).bind fun t136 => (if t136 = true then (if cut1_.size + 1 ≤ 9223372036854775807 then (if (cut1_ ++ (⟨#[42]⟩ : ByteArray)).size + cut2_.size ≤ 9223372036854775807 then (if ((cut1_ ++ (⟨#[42]⟩ : ByteArray)) ++ cut2_).size + 1 ≤ 9223372036854775807 then (if cut1_.size + t127.size ≤ 9223372036854775807 then (if (cut1_ ++ t127).size + cut2_.size ≤ 9223372036854775807 then ((match_Match.f (((cut1_ ++ (⟨#[42]⟩ : ByteArray)) ++ cut2_) ++ (⟨#[36]⟩ : ByteArray)) ((cut1_ ++ t127) ++ cut2_)).bind fun t137 => (some t137)) else (none)) else (none)) else (none)) else (none)) else (none)) else (some false))) else (some false))) = some r := by rw [if_pos rfl] at H; exact H
                                    clear H
                                    have H := H1
                                    clear H1
                                    replace H := Option.bind_eq_some_iff.mp H
                                    obtain ⟨t135, A510, H⟩ := H
                                    replace H : (if (t135 == (t127.toList == ([] : List UInt8))) = true then ((match_Match.f (⟨#[42]⟩ : ByteArray) all_).bind fun t136 => (if t136 = true then (if cut1_.size + 1 ≤ 9223372036854775807 then (if (cut1_ ++ (⟨#[42]⟩ : ByteArray)).size + cut2_.size ≤ 9223372036854775807 then (if ((cut1_ ++ (⟨#[42]⟩ : ByteArray)) ++ cut2_).size + 1 ≤ 9223372036854775807 then (if cut1_.size + t127.size ≤ 9223372036854775807 then (if (cut1_ ++ t127).size + cut2_.size ≤ 9223372036854775807 then ((match_Match.f (((cut1_ ++ (⟨#[42]⟩ : ByteArray)) ++ cut2_) ++ (⟨#[36]⟩ : ByteArray)) ((cut1_ ++ t127) ++ cut2_)).bind fun t137 => (some t137)) else (none)) else (none)) else (none)) else (none)) else (none)) else (some false))) else (some false)) = some r := H
                                    have A51 := Aside0.mk A510
                                    clear A510
                                    by_cases c52 : (t135 == (t127.toList == ([] : List UInt8))) = true
                                    · rw [if_pos c52] at H
                                      have c52b0 : (t135 == (t127.toList == ([] : List UInt8))) = true := c52
                                      have c52z : (t135 == t127.toList.isEmpty) = true := by rw [← c52b0]; cases t127.toList <;> rfl
                                      (try (have c52b1 : decide (t135 = (t127.toList == ([] : List UInt8))) = true := by simpa using c52))
                                      (try (have c52b2 : (t135 == (t127.toList == ([] : List UInt8))) = true := by simpa using c52))
                                      clear c52
                                      replace H := Option.bind_eq_some_iff.mp H
                                      obtain ⟨t136, A530, H⟩ := H
                                      replace H : (if t136 = true then (if cut1_.size + 1 ≤ 9223372036854775807 then (if (cut1_ ++ (⟨#[42]⟩ : ByteArray)).size + cut2_.size ≤ 9223372036854775807 then (if ((cut1_ ++ (⟨#[42]⟩ : ByteArray)) ++ cut2_).size + 1 ≤ 9223372036854775807 then (if cut1_.size + t127.size ≤ 9223372036854775807 then (if (cut1_ ++ t127).size + cut2_.size ≤ 9223372036854775807 then ((match_Match.f (((cut1_ ++ (⟨#[42]⟩ : ByteArray)) ++ cut2_) ++ (⟨#[36]⟩ : ByteArray)) ((cut1_ ++ t127) ++ cut2_)).bind fun t137 => (some t137)) else (none)) else (none)) else (none)) else (none)) else (none)) else (some false)) = some r := H
                                      have A53 := Aside0.mk A530
                                      clear A530
                                      by_cases c54 : t136 = true
                                      · subst c54
                                        have H1 : (if cut1_.size + 1 ≤ 9223372036854775807 then (if (cut1_ ++ (⟨#[42]⟩ : ByteArray)).size + cut2_.size ≤ 9223372036854775807 then (if ((cut1_ ++ (⟨#[42]⟩ : ByteArray)) ++ cut2_).size + 1 ≤ 9223372036854775807 then (if cut1_.size + t127.size ≤ 9223372036854775807 then (if (cut1_ ++ t127).size + cut2_.size ≤ 9223372036854775807 then ((match_Match.f (((cut1_ ++ (⟨#[42]⟩ : ByteArray)) ++ cut2_) ++ (⟨#[36]⟩ : ByteArray)) ((cut1_ ++ t127) ++ cut2_)).bind fun t137 => (some t137)) else (none)) else (none)) else (none)) else (none)) else (none)) = some r := by rw [if_pos rfl] at H; exact H
                                        clear H
                                        have H := H1
                                        clear H1
                                        have c55b0 := eq_true (of_decide_eq_true (by first | (with_reducible assumption) | assumption) : 0 ≤ (ji40))
                                        have c56b0 := eq_true (of_decide_eq_true (by first | (with_reducible assumption) | assumption) : (ji40) ≤ (all_.size : Int))
                                        by_cases c57 : cut1_.size + 1 ≤ 9223372036854775807
                                        · rw [if_pos c57] at H
                                          have c57b0 := eq_true c57
                                          have c57b1 : decide (cut1_.size + 1 ≤ 9223372036854775807) = true := decide_eq_true c57
                                          try have c57b2 : (9223372036854775807 < cut1_.size + 1) = False := eq_false (Nat.not_lt.2 c57)
                                          have c58b0 := eq_true (of_decide_eq_true (by first | (with_reducible assumption) | assumption) : 0 ≤ (ji40))
                                          have c59b0 := eq_true (of_decide_eq_true (by first | (with_reducible assumption) | assumption) : (ji40) ≤ (all_.size : Int))
                                          by_cases c60 : (cut1_ ++ (⟨#[42]⟩ : ByteArray)).size + cut2_.size ≤ 9223372036854775807
                                          · rw [if_pos c60] at H
                                            have c60b0 := eq_true c60
                                            have c60b1 : decide ((cut1_ ++ (⟨#[42]⟩ : ByteArray)).size + cut2_.size ≤ 9223372036854775807) = true := decide_eq_true c60
                                            try have c60b2 : (9223372036854775807 < (cut1_ ++ (⟨#[42]⟩ : ByteArray)).size + cut2_.size) = False := eq_false (Nat.not_lt.2 c60)
                                            have c60z : (9223372036854775807 < cut1_.size + 1 + cut2_.size) = False := eq_false (by have h_ := c60; simp only [ByteArray.size_append] at h_; have e42 : (⟨#[42]⟩ : ByteArray).size = 1 := rfl; omega)
                                            by_cases c61 : ((cut1_ ++ (⟨#[42]⟩ : ByteArray)) ++ cut2_).size + 1 ≤ 9223372036854775807
                                            · rw [if_pos c61] at H
                                              have c61b0 := eq_true c61
                                              have c61b1 : decide (((cut1_ ++ (⟨#[42]⟩ : ByteArray)) ++ cut2_).size + 1 ≤ 9223372036854775807) = true := decide_eq_true c61
                                              try have c61b2 : (9223372036854775807 < ((cut1_ ++ (⟨#[42]⟩ : ByteArray)) ++ cut2_).size + 1) = False := eq_false (Nat.not_lt.2 c61)
                                              have c61z : (9223372036854775807 < cut1_.size + 1 + cut2_.size + 1) = False := eq_false (by have h_ := c61; simp only [ByteArray.size_append] at h_; have e42 : (⟨#[42]⟩ : ByteArray).size = 1 := rfl; omega)
                                              have c62b0 := eq_true (of_decide_eq_true (by first | (with_reducible assumption) | assumption) : 0 ≤ (ji40))
                                              have c63b0 := eq_true (of_decide_eq_true (by first | (with_reducible assumption) | assumption) : (ji40) ≤ (all_.size : Int))
                                              by_cases c64 : cut1_.size + t127.size ≤ 9223372036854775807
                                              · rw [if_pos c64] at H
                                                have c64b0 := eq_true c64
                                                have c64b1 : decide (cut1_.size + t127.size ≤ 9223372036854775807) = true := decide_eq_true c64
                                                try have c64b2 : (9223372036854775807 < cut1_.size + t127.size) = False := eq_false (Nat.not_lt.2 c64)
                                                have c65b0 := eq_true (of_decide_eq_true (by first | (with_reducible assumption) | assumption) : 0 ≤ (ji40))
                                                have c66b0 := eq_true (of_decide_eq_true (by first | (with_reducible assumption) | assumption) : (ji40) ≤ (all_.size : Int))
                                                by_cases c67 : (cut1_ ++ t127).size + cut2_.size ≤ 9223372036854775807
                                                · rw [if_pos c67] at H
                                                  have c67b0 := eq_true c67
                                                  have c67b1 : decide ((cut1_ ++ t127).size + cut2_.size ≤ 9223372036854775807) = true := decide_eq_true c67
                                                  try have c67b2 : (9223372036854775807 < (cut1_ ++ t127).size + cut2_.size) = False := eq_false (Nat.not_lt.2 c67)
                                                  have c67z : (9223372036854775807 < cut1_.size + t127.size + cut2_.size) = False := eq_false (by have h_ := c67; simp only [ByteArray.size_append] at h_; have e42 : (⟨#[42]⟩ : ByteArray).size = 1 := rfl; omega)
                                                  replace H := Option.bind_eq_some_iff.mp H
                                                  obtain ⟨t137, A680, H⟩ := H
                                                  replace H : (some t137) = some r := H
                                                  have A68 := Aside0.mk A680
                                                  clear A680
                                                  obtain rfl := Option.some.inj H
                                                  try go_wp2
                                                  have n0_ := Aside0.mk (below_drew1 HB.out)
                                                  clear HB
                                                  have HB := n0_
                                                  clear n0_
                                                  refine start_ (n := 63) (S := fun w' => True) (ds := []) #[false, false, false, false, false, false, false, false, false, false, false, false, false, false, false, false, false, false, false, false, false, false, false, false, false, false, false, false, false, false, false, false, false, false, false, false, false, false, false, false, false, false, false, false, false, false, false, false, false, false, false, false, false, false, false, false, false, false, false, false, false, false, false] (by kernel_rfl) rfl rfl trivial (fun hHeld => ?_); refine with_tabW decorumlaw10_MatchOwn.tab14 decorumlaw10_MatchOwn.bits14 (fun HT_ HW_ => ?_)
                                                  generalize wr.drew = w69 at HB hHeld ⊢
                                                  refine one_ (i := 0) (N := some 69) #[true, false, false, false, false, false, false, false, false, false, false, false, false, false, false, false, false, false, false, false, false, false, false, false, false, false, false, false, false, false, false, false, false, false, false, false, false, false, false, false, false, false, false, false, false, false, false, false, false, false, false, false, false, false, false, false, false, false, false, false, false, false, false] rfl rfl (one_of HT_.out (by kernel_rfl)) (by decide) (fun K hK => ?_)
                                                  refine goes_ Tryd.func9 (by kernel_rfl) rfl #[] (by rfl) rfl rfl (by (try simp only [List.map_toArray, List.map_cons, List.map_nil]); first | done | rfl | (simp only [List.length_drop, List.length_take]; rfl)) ?_
                                                  with_reducible refine (decorumlaw10_awake.calls k2  true _ A36.out (Shp.below HS_.out (by repeat (first | (with_reducible first | exact HB.out | apply below_alloc | apply pw_below_drewN | apply below_drew1) | exact HB.out)))).mono ?_
                                                  rintro e w70 ⟨rfl, hb⟩
                                                  refine ⟨_, rfl, ?_⟩
                                                  have n0_ := Aside0.mk (below_step (by repeat (first | (with_reducible first | exact HB.out | apply below_alloc | apply pw_below_drewN | apply below_drew1) | exact HB.out)) hb)
                                                  clear HB
                                                  have HB := n0_
                                                  clear n0_
                                                  (try clear hb)
                                                  (try clear hb2)
                                                  (try clear hk)
                                                  (try clear hi)
                                                  refine hK.out _ _ trivial (fun hHeld => ?_)
                                                  clear hK K
                                                  refine norm_ (a' := ?_) ?_ ?_
                                                  rotate_left
                                                  · show Act.put _ (some 69) _ = _
                                                    simp only [Act.put, List.setIfInBounds_toArray, List.set_cons_zero, List.set_cons_succ, i64_w, i32_w]
                                                    rfl
                                                  refine pure_ (i := 1) (N := some 70) (v := ?_) (a' := ?_) #[true, true, false, false, false, false, false, false, false, false, false, false, false, false, false, false, false, false, false, false, false, false, false, false, false, false, false, false, false, false, false, false, false, false, false, false, false, false, false, false, false, false, false, false, false, false, false, false, false, false, false, false, false, false, false, false, false, false, false, false, false, false, false] rfl rfl (any_of HT_.out (by kernel_rfl)) (fun _ _ _ h => h) (Or.inl ⟨by rfl, ?_⟩) ?_ ?_
                                                  rotate_left
                                                  · intro w'
                                                    go_simp
                                                    with_reducible rfl
                                                  rotate_left
                                                  · simp only [Act.put, List.setIfInBounds_toArray, List.set_cons_zero, List.set_cons_succ, i64_w, i32_w]
                                                    rfl
                                                  refine pure_ (i := 2) (N := some 71) (v := ?_) (a' := ?_) #[true, true, true, false, false, false, false, false, false, false, false, false, false, false, false, false, false, false, false, false, false, false, false, false, false, false, false, false, false, false, false, false, false, false, false, false, false, false, false, false, false, false, false, false, false, false, false, false, false, false, false, false, false, false, false, false, false, false, false, false, false, false, false] rfl rfl (any_of HT_.out (by kernel_rfl)) (fun _ _ _ h => h) (Or.inl ⟨by rfl, ?_⟩) ?_ ?_
                                                  rotate_left
                                                  · intro w'
                                                    go_simp
                                                    with_reducible rfl
                                                  rotate_left
                                                  · simp only [Act.put, List.setIfInBounds_toArray, List.set_cons_zero, List.set_cons_succ, i64_w, i32_w]
                                                    rfl
                                                  refine pure_ (i := 3) (N := some 72) (v := ?_) (a' := ?_) #[true, true, true, true, false, false, false, false, false, false, false, false, false, false, false, false, false, false, false, false, false, false, false, false, false, false, false, false, false, false, false, false, false, false, false, false, false, false, false, false, false, false, false, false, false, false, false, false, false, false, false, false, false, false, false, false, false, false, false, false, false, false, false] rfl rfl (any_of HT_.out (by kernel_rfl)) (fun _ _ _ h => h) (Or.inl ⟨by rfl, ?_⟩) ?_ ?_
                                                  rotate_left
                                                  · intro w'
                                                    go_simp
                                                    with_reducible rfl
                                                  rotate_left
                                                  · simp only [Act.put, List.setIfInBounds_toArray, List.set_cons_zero, List.set_cons_succ, i64_w, i32_w]
                                                    rfl
                                                  refine one_ (i := 4) (N := some 73) #[true, true, true, true, true, false, false, false, false, false, false, false, false, false, false, false, false, false, false, false, false, false, false, false, false, false, false, false, false, false, false, false, false, false, false, false, false, false, false, false, false, false, false, false, false, false, false, false, false, false, false, false, false, false, false, false, false, false, false, false, false, false, false] rfl rfl (one_of HT_.out (by kernel_rfl)) (by decide) (fun K hK => ?_)
                                                  refine goes_ Tryd.func10 (by kernel_rfl) rfl #[.string all_, .string all_] (by rfl) rfl rfl (by (try simp only [List.map_toArray, List.map_cons, List.map_nil]); first | done | rfl | (simp only [List.length_drop, List.length_take]; rfl)) ?_
                                                  with_reducible refine (match_Match.calls all_ all_ true _ A38.out (Shp.below HS_.out (by repeat (first | (with_reducible first | exact HB.out | apply below_alloc | apply pw_below_drewN | apply below_drew1) | exact HB.out)))).mono ?_
                                                  rintro e w71 ⟨rfl, hb⟩
                                                  refine ⟨_, rfl, ?_⟩
                                                  have n0_ := Aside0.mk (below_step (by repeat (first | (with_reducible first | exact HB.out | apply below_alloc | apply pw_below_drewN | apply below_drew1) | exact HB.out)) hb)
                                                  clear HB
                                                  have HB := n0_
                                                  clear n0_
                                                  (try clear hb)
                                                  (try clear hb2)
                                                  (try clear hk)
                                                  (try clear hi)
                                                  refine hK.out _ _ trivial (fun hHeld => ?_)
                                                  clear hK K
                                                  refine norm_ (a' := ?_) ?_ ?_
                                                  rotate_left
                                                  · show Act.put _ (some 73) _ = _
                                                    simp only [Act.put, List.setIfInBounds_toArray, List.set_cons_zero, List.set_cons_succ, i64_w, i32_w]
                                                    rfl
                                                  refine pure_ (i := 5) (N := some 74) (v := ?_) (a' := ?_) #[true, true, true, true, true, true, false, false, false, false, false, false, false, false, false, false, false, false, false, false, false, false, false, false, false, false, false, false, false, false, false, false, false, false, false, false, false, false, false, false, false, false, false, false, false, false, false, false, false, false, false, false, false, false, false, false, false, false, false, false, false, false, false] rfl rfl (any_of HT_.out (by kernel_rfl)) (fun _ _ _ h => h) (Or.inl ⟨by rfl, ?_⟩) ?_ ?_
                                                  rotate_left
                                                  · intro w'
                                                    go_simp
                                                    with_reducible rfl
                                                  rotate_left
                                                  · simp only [Act.put, List.setIfInBounds_toArray, List.set_cons_zero, List.set_cons_succ, i64_w, i32_w]
                                                    rfl
                                                  refine pure_ (i := 6) (N := some 75) (v := ?_) (a' := ?_) #[true, true, true, true, true, true, true, false, false, false, false, false, false, false, false, false, false, false, false, false, false, false, false, false, false, false, false, false, false, false, false, false, false, false, false, false, false, false, false, false, false, false, false, false, false, false, false, false, false, false, false, false, false, false, false, false, false, false, false, false, false, false, false] rfl rfl (any_of HT_.out (by kernel_rfl)) (fun _ _ _ h => h) (Or.inl ⟨by rfl, ?_⟩) ?_ ?_
                                                  rotate_left
                                                  · intro w'
                                                    go_simp
                                                    with_reducible rfl
                                                  rotate_left
                                                  · simp only [Act.put, List.setIfInBounds_toArray, List.set_cons_zero, List.set_cons_succ, i64_w, i32_w]
                                                    rfl
                                                  refine pure_ (i := 7) (N := some 76) (v := ?_) (a' := ?_) #[true, true, true, true, true, true, true, true, false, false, false, false, false, false, false, false, false, false, false, false, false, false, false, false, false, false, false, false, false, false, false, false, false, false, false, false, false, false, false, false, false, false, false, false, false, false, false, false, false, false, false, false, false, false, false, false, false, false, false, false, false, false, false] rfl rfl (any_of HT_.out (by kernel_rfl)) (fun _ _ _ h => h) (Or.inl ⟨by rfl, ?_⟩) ?_ ?_
                                                  rotate_left
                                                  · intro w'
                                                    go_simp
                                                    with_reducible rfl
                                                  rotate_left
                                                  · simp only [Act.put, List.setIfInBounds_toArray, List.set_cons_zero, List.set_cons_succ, i64_w, i32_w]
                                                    rfl
                                                  refine pure_ (i := 8) (N := some 77) (v := ?_) (a' := ?_) #[true, true, true, true, true, true, true, true, true, false, false, false, false, false, false, false, false, false, false, false, false, false, false, false, false, false, false, false, false, false, false, false, false, false, false, false, false, false, false, false, false, false, false, false, false, false, false, false, false, false, false, false, false, false, false, false, false, false, false, false, false, false, false] rfl rfl (any_of HT_.out (by kernel_rfl)) (fun _ _ _ h => h) (Or.inl ⟨by rfl, ?_⟩) ?_ ?_
                                                  rotate_left
                                                  · intro w'
                                                    go_simp
                                                    with_reducible rfl
                                                  rotate_left
                                                  · simp only [Act.put, List.setIfInBounds_toArray, List.set_cons_zero, List.set_cons_succ, i64_w, i32_w]
                                                    rfl
                                                  refine pure_ (i := 9) (N := some 78) (v := ?_) (a' := ?_) #[true, true, true, true, true, true, true, true, true, true, false, false, false, false, false, false, false, false, false, false, false, false, false, false, false, false, false, false, false, false, false, false, false, false, false, false, false, false, false, false, false, false, false, false, false, false, false, false, false, false, false, false, false, false, false, false, false, false, false, false, false, false, false] rfl rfl (any_of HT_.out (by kernel_rfl)) (fun _ _ _ h => h) (Or.inl ⟨by rfl, ?_⟩) ?_ ?_
                                                  rotate_left
                                                  · intro w'
                                                    go_simp
                                                    with_reducible rfl
                                                  rotate_left
                                                  · simp only [Act.put, List.setIfInBounds_toArray, List.set_cons_zero, List.set_cons_succ, i64_w, i32_w]
                                                    rfl
                                                  refine pure_ (i := 10) (N := some 79) (v := ?_) (a' := ?_) #[true, true, true, true, true, true, true, true, true, true, true, false, false, false, false, false, false, false, false, false, false, false, false, false, false, false, false, false, false, false, false, false, false, false, false, false, false, false, false, false, false, false, false, false, false, false, false, false, false, false, false, false, false, false, false, false, false, false, false, false, false, false, false] rfl rfl (any_of HT_.out (by kernel_rfl)) (fun _ _ _ h => h) (Or.inl ⟨by rfl, ?_⟩) ?_ ?_
                                                  rotate_left
                                                  · intro w'
                                                    go_simp
                                                    with_reducible rfl
                                                  rotate_left
                                                  · simp only [Act.put, List.setIfInBounds_toArray, List.set_cons_zero, List.set_cons_succ, i64_w, i32_w]
                                                    rfl
                                                  refine one_ (i := 11) (N := some 80) #[true, true, true, true, true, true, true, true, true, true, true, true, false, false, false, false, false, false, false, false, false, false, false, false, false, false, false, false, false, false, false, false, false, false, false, false, false, false, false, false, false, false, false, false, false, false, false, false, false, false, false, false, false, false, false, false, false, false, false, false, false, false, false] rfl rfl (one_of HT_.out (by kernel_rfl)) (by decide) (fun K hK => ?_)
                                                  refine goes_ Tryd.func10 (by kernel_rfl) rfl #[.string cut1_, .string all_] (by rfl) rfl rfl (by (try simp only [List.map_toArray, List.map_cons, List.map_nil]); first | done | (simp only [hji40]; rfl) | rfl | (simp only [List.length_drop, List.length_take]; rfl)) ?_
                                                  with_reducible refine (match_Match.calls cut1_ all_ true _ A43.out (Shp.below HS_.out (by repeat (first | (with_reducible first | exact HB.out | apply below_alloc | apply pw_below_drewN | apply below_drew1) | exact HB.out)))).mono ?_
                                                  rintro e w72 ⟨rfl, hb⟩
                                                  refine ⟨_, rfl, ?_⟩
                                                  have n0_ := Aside0.mk (below_step (by repeat (first | (with_reducible first | exact HB.out | apply below_alloc | apply pw_below_drewN | apply below_drew1) | exact HB.out)) hb)
                                                  clear HB
                                                  have HB := n0_
                                                  clear n0_
                                                  (try clear hb)
                                                  (try clear hb2)
                                                  (try clear hk)
                                                  (try clear hi)
                                                  refine hK.out _ _ trivial (fun hHeld => ?_)
                                                  clear hK K
                                                  refine norm_ (a' := ?_) ?_ ?_
                                                  rotate_left
                                                  · show Act.put _ (some 80) _ = _
                                                    simp only [Act.put, List.setIfInBounds_toArray, List.set_cons_zero, List.set_cons_succ, i64_w, i32_w]
                                                    rfl
                                                  refine pure_ (i := 12) (N := some 81) (v := ?_) (a' := ?_) #[true, true, true, true, true, true, true, true, true, true, true, true, true, false, false, false, false, false, false, false, false, false, false, false, false, false, false, false, false, false, false, false, false, false, false, false, false, false, false, false, false, false, false, false, false, false, false, false, false, false, false, false, false, false, false, false, false, false, false, false, false, false, false] rfl rfl (any_of HT_.out (by kernel_rfl)) (fun _ _ _ h => h) (Or.inl ⟨by rfl, ?_⟩) ?_ ?_
                                                  rotate_left
                                                  · intro w'
                                                    go_simp
                                                    with_reducible rfl
                                                  rotate_left
                                                  · simp only [Act.put, List.setIfInBounds_toArray, List.set_cons_zero, List.set_cons_succ, i64_w, i32_w]
                                                    rfl
                                                  refine pure_ (i := 13) (N := some 82) (v := ?_) (a' := ?_) #[true, true, true, true, true, true, true, true, true, true, true, true, true, true, false, false, false, false, false, false, false, false, false, false, false, false, false, false, false, false, false, false, false, false, false, false, false, false, false, false, false, false, false, false, false, false, false, false, false, false, false, false, false, false, false, false, false, false, false, false, false, false, false] rfl rfl (any_of HT_.out (by kernel_rfl)) (fun _ _ _ h => h) (Or.inl ⟨by rfl, ?_⟩) ?_ ?_
                                                  rotate_left
                                                  · intro w'
                                                    go_simp
                                                    with_reducible rfl
                                                  rotate_left
                                                  · simp only [Act.put, List.setIfInBounds_toArray, List.set_cons_zero, List.set_cons_succ, i64_w, i32_w]
                                                    rfl
                                                  refine pure_ (i := 14) (N := some 83) (v := ?_) (a' := ?_) #[true, true, true, true, true, true, true, true, true, true, true, true, true, true, true, false, false, false, false, false, false, false, false, false, false, false, false, false, false, false, false, false, false, false, false, false, false, false, false, false, false, false, false, false, false, false, false, false, false, false, false, false, false, false, false, false, false, false, false, false, false, false, false] rfl rfl (any_of HT_.out (by kernel_rfl)) (fun _ _ _ h => h) (Or.inl ⟨by rfl, ?_⟩) ?_ ?_
                                                  rotate_left
                                                  · intro w'
                                                    go_simp
                                                    with_reducible rfl
                                                  rotate_left
                                                  · simp only [Act.put, List.setIfInBounds_toArray, List.set_cons_zero, List.set_cons_succ, i64_w, i32_w]
                                                    rfl
                                                  refine pure_ (i := 15) (N := some 84) (v := ?_) (a' := ?_) #[true, true, true, true, true, true, true, true, true, true, true, true, true, true, true, true, false, false, false, false, false, false, false, false, false, false, false, false, false, false, false, false, false, false, false, false, false, false, false, false, false, false, false, false, false, false, false, false, false, false, false, false, false, false, false, false, false, false, false, false, false, false, false] rfl rfl (any_of HT_.out (by kernel_rfl)) (fun _ _ _ h => h) (Or.inl ⟨by rfl, ?_⟩) ?_ ?_
                                                  rotate_left
                                                  · intro w'
                                                    go_simp
                                                    with_reducible rfl
                                                  rotate_left
                                                  · simp only [Act.put, List.setIfInBounds_toArray, List.set_cons_zero, List.set_cons_succ, i64_w, i32_w]
                                                    rfl
                                                  refine pure_ (i := 16) (N := some 85) (v := ?_) (a' := ?_) #[true, true, true, true, true, true, true, true, true, true, true, true, true, true, true, true, true, false, false, false, false, false, false, false, false, false, false, false, false, false, false, false, false, false, false, false, false, false, false, false, false, false, false, false, false, false, false, false, false, false, false, false, false, false, false, false, false, false, false, false, false, false, false] rfl rfl (any_of HT_.out (by kernel_rfl)) (fun _ _ _ h => h) (Or.inl ⟨by rfl, ?_⟩) ?_ ?_
                                                  rotate_left
                                                  · intro w'
                                                    go_simp
                                                    with_reducible rfl
                                                  rotate_left
                                                  · simp only [Act.put, List.setIfInBounds_toArray, List.set_cons_zero, List.set_cons_succ, i64_w, i32_w]
                                                    rfl
                                                  refine one_ (i := 17) (N := some 86) #[true, true, true, true, true, true, true, true, true, true, true, true, true, true, true, true, true, true, false, false, false, false, false, false, false, false, false, false, false, false, false, false, false, false, false, false, false, false, false, false, false, false, false, false, false, false, false, false, false, false, false, false, false, false, false, false, false, false, false, false, false, false, false] rfl rfl (one_of HT_.out (by kernel_rfl)) (by decide) (fun K hK => ?_)
                                                  refine goes_ Tryd.func10 (by kernel_rfl) rfl #[.string (all_ ++ (⟨#[36]⟩ : ByteArray)), .string all_] (by rfl) rfl rfl (by (try simp only [List.map_toArray, List.map_cons, List.map_nil]); first | done | rfl | (simp only [List.length_drop, List.length_take]; rfl)) ?_
                                                  with_reducible refine (match_Match.calls (all_ ++ (⟨#[36]⟩ : ByteArray)) all_ true _ A46.out (Shp.below HS_.out (by repeat (first | (with_reducible first | exact HB.out | apply below_alloc | apply pw_below_drewN | apply below_drew1) | exact HB.out)))).mono ?_
                                                  rintro e w73 ⟨rfl, hb⟩
                                                  refine ⟨_, rfl, ?_⟩
                                                  have n0_ := Aside0.mk (below_step (by repeat (first | (with_reducible first | exact HB.out | apply below_alloc | apply pw_below_drewN | apply below_drew1) | exact HB.out)) hb)
                                                  clear HB
                                                  have HB := n0_
                                                  clear n0_
                                                  (try clear hb)
                                                  (try clear hb2)
                                                  (try clear hk)
                                                  (try clear hi)
                                                  refine hK.out _ _ trivial (fun hHeld => ?_)
                                                  clear hK K
                                                  refine norm_ (a' := ?_) ?_ ?_
                                                  rotate_left
                                                  · show Act.put _ (some 86) _ = _
                                                    simp only [Act.put, List.setIfInBounds_toArray, List.set_cons_zero, List.set_cons_succ, i64_w, i32_w]
                                                    rfl
                                                  refine pure_ (i := 18) (N := some 87) (v := ?_) (a' := ?_) #[true, true, true, true, true, true, true, true, true, true, true, true, true, true, true, true, true, true, true, false, false, false, false, false, false, false, false, false, false, false, false, false, false, false, false, false, false, false, false, false, false, false, false, false, false, false, false, false, false, false, false, false, false, false, false, false, false, false, false, false, false, false, false] rfl rfl (any_of HT_.out (by kernel_rfl)) (fun _ _ _ h => h) (Or.inl ⟨by rfl, ?_⟩) ?_ ?_
                                                  rotate_left
                                                  · intro w'
                                                    go_simp
                                                    with_reducible rfl
                                                  rotate_left
                                                  · simp only [Act.put, List.setIfInBounds_toArray, List.set_cons_zero, List.set_cons_succ, i64_w, i32_w]
                                                    rfl
                                                  refine pure_ (i := 19) (N := some 88) (v := ?_) (a' := ?_) #[true, true, true, true, true, true, true, true, true, true, true, true, true, true, true, true, true, true, true, true, false, false, false, false, false, false, false, false, false, false, false, false, false, false, false, false, false, false, false, false, false, false, false, false, false, false, false, false, false, false, false, false, false, false, false, false, false, false, false, false, false, false, false] rfl rfl (any_of HT_.out (by kernel_rfl)) (fun _ _ _ h => h) (Or.inl ⟨by rfl, ?_⟩) ?_ ?_
                                                  rotate_left
                                                  · intro w'
                                                    go_simp
                                                    with_reducible rfl
                                                  rotate_left
                                                  · simp only [Act.put, List.setIfInBounds_toArray, List.set_cons_zero, List.set_cons_succ, i64_w, i32_w]
                                                    rfl
                                                  refine pure_ (i := 20) (N := some 89) (v := ?_) (a' := ?_) #[true, true, true, true, true, true, true, true, true, true, true, true, true, true, true, true, true, true, true, true, true, false, false, false, false, false, false, false, false, false, false, false, false, false, false, false, false, false, false, false, false, false, false, false, false, false, false, false, false, false, false, false, false, false, false, false, false, false, false, false, false, false, false] rfl rfl (any_of HT_.out (by kernel_rfl)) (fun _ _ _ h => h) (Or.inl ⟨by rfl, ?_⟩) ?_ ?_
                                                  rotate_left
                                                  · intro w'
                                                    go_simp
                                                    with_reducible rfl
                                                  rotate_left
                                                  · simp only [Act.put, List.setIfInBounds_toArray, List.set_cons_zero, List.set_cons_succ, i64_w, i32_w]
                                                    rfl
                                                  refine pure_ (i := 21) (N := some 90) (v := ?_) (a' := ?_) #[true, true, true, true, true, true, true, true, true, true, true, true, true, true, true, true, true, true, true, true, true, true, false, false, false, false, false, false, false, false, false, false, false, false, false, false, false, false, false, false, false, false, false, false, false, false, false, false, false, false, false, false, false, false, false, false, false, false, false, false, false, false, false] rfl rfl (any_of HT_.out (by kernel_rfl)) (fun _ _ _ h => h) (Or.inl ⟨by rfl, ?_⟩) ?_ ?_
                                                  rotate_left
                                                  · intro w'
                                                    go_simp
                                                    with_reducible rfl
                                                  rotate_left
                                                  · simp only [Act.put, List.setIfInBounds_toArray, List.set_cons_zero, List.set_cons_succ, i64_w, i32_w]
                                                    rfl
                                                  refine pure_ (i := 22) (N := some 91) (v := ?_) (a' := ?_) #[true, true, true, true, true, true, true, true, true, true, true, true, true, true, true, true, true, true, true, true, true, true, true, false, false, false, false, false, false, false, false, false, false, false, false, false, false, false, false, false, false, false, false, false, false, false, false, false, false, false, false, false, false, false, false, false, false, false, false, false, false, false, false] rfl rfl (any_of HT_.out (by kernel_rfl)) (fun _ _ _ h => h) (Or.inl ⟨by rfl, ?_⟩) ?_ ?_
                                                  rotate_left
                                                  · intro w'
                                                    go_simp
                                                    with_reducible rfl
                                                  rotate_left
                                                  · simp only [Act.put, List.setIfInBounds_toArray, List.set_cons_zero, List.set_cons_succ, i64_w, i32_w]
                                                    rfl
                                                  refine pure_ (i := 23) (N := some 92) (v := ?_) (a' := ?_) #[true, true, true, true, true, true, true, true, true, true, true, true, true, true, true, true, true, true, true, true, true, true, true, true, false, false, false, false, false, false, false, false, false, false, false, false, false, false, false, false, false, false, false, false, false, false, false, false, false, false, false, false, false, false, false, false, false, false, false, false, false, false, false] rfl rfl (any_of HT_.out (by kernel_rfl)) (fun _ _ _ h => h) (Or.inl ⟨by rfl, ?_⟩) ?_ ?_
                                                  rotate_left
                                                  · intro w'
                                                    go_simp
                                                    with_reducible rfl
                                                  rotate_left
                                                  · simp only [Act.put, List.setIfInBounds_toArray, List.set_cons_zero, List.set_cons_succ, i64_w, i32_w]
                                                    rfl
                                                  refine one_ (i := 24) (N := some 93) #[true, true, true, true, true, true, true, true, true, true, true, true, true, true, true, true, true, true, true, true, true, true, true, true, true, false, false, false, false, false, false, false, false, false, false, false, false, false, false, false, false, false, false, false, false, false, false, false, false, false, false, false, false, false, false, false, false, false, false, false, false, false, false] rfl rfl (one_of HT_.out (by kernel_rfl)) (by decide) (fun K hK => ?_)
                                                  refine goes_ Tryd.func10 (by kernel_rfl) rfl #[.string all_, .string (all_ ++ t127)] (by rfl) rfl rfl (by (try simp only [List.map_toArray, List.map_cons, List.map_nil]); first | done | rfl | (simp only [List.length_drop, List.length_take]; rfl)) ?_
                                                  with_reducible refine (match_Match.calls all_ (all_ ++ t127) true _ A49.out (Shp.below HS_.out (by repeat (first | (with_reducible first | exact HB.out | apply below_alloc | apply pw_below_drewN | apply below_drew1) | exact HB.out)))).mono ?_
                                                  rintro e w74 ⟨rfl, hb⟩
                                                  refine ⟨_, rfl, ?_⟩
                                                  have n0_ := Aside0.mk (below_step (by repeat (first | (with_reducible first | exact HB.out | apply below_alloc | apply pw_below_drewN | apply below_drew1) | exact HB.out)) hb)
                                                  clear HB
                                                  have HB := n0_
                                                  clear n0_
                                                  (try clear hb)
                                                  (try clear hb2)
                                                  (try clear hk)
                                                  (try clear hi)
                                                  refine hK.out _ _ trivial (fun hHeld => ?_)
                                                  clear hK K
                                                  refine norm_ (a' := ?_) ?_ ?_
                                                  rotate_left
                                                  · show Act.put _ (some 93) _ = _
                                                    simp only [Act.put, List.setIfInBounds_toArray, List.set_cons_zero, List.set_cons_succ, i64_w, i32_w]
                                                    rfl
                                                  refine pure_ (i := 25) (N := some 94) (v := ?_) (a' := ?_) #[true, true, true, true, true, true, true, true, true, true, true, true, true, true, true, true, true, true, true, true, true, true, true, true, true, true, false, false, false, false, false, false, false, false, false, false, false, false, false, false, false, false, false, false, false, false, false, false, false, false, false, false, false, false, false, false, false, false, false, false, false, false, false] rfl rfl (any_of HT_.out (by kernel_rfl)) (fun _ _ _ h => h) (Or.inl ⟨by rfl, ?_⟩) ?_ ?_
                                                  rotate_left
                                                  · intro w'
                                                    go_simp
                                                    with_reducible rfl
                                                  rotate_left
                                                  · simp only [Act.put, List.setIfInBounds_toArray, List.set_cons_zero, List.set_cons_succ, i64_w, i32_w]
                                                    rfl
                                                  refine pure_ (i := 26) (N := some 95) (v := ?_) (a' := ?_) #[true, true, true, true, true, true, true, true, true, true, true, true, true, true, true, true, true, true, true, true, true, true, true, true, true, true, true, false, false, false, false, false, false, false, false, false, false, false, false, false, false, false, false, false, false, false, false, false, false, false, false, false, false, false, false, false, false, false, false, false, false, false, false] rfl rfl (any_of HT_.out (by kernel_rfl)) (fun _ _ _ h => h) (Or.inl ⟨by rfl, ?_⟩) ?_ ?_
                                                  rotate_left
                                                  · intro w'
                                                    go_simp
                                                    with_reducible rfl
                                                  rotate_left
                                                  · simp only [Act.put, List.setIfInBounds_toArray, List.set_cons_zero, List.set_cons_succ, i64_w, i32_w]
                                                    rfl
                                                  refine pure_ (i := 27) (N := some 96) (v := ?_) (a' := ?_) #[true, true, true, true, true, true, true, true, true, true, true, true, true, true, true, true, true, true, true, true, true, true, true, true, true, true, true, true, false, false, false, false, false, false, false, false, false, false, false, false, false, false, false, false, false, false, false, false, false, false, false, false, false, false, false, false, false, false, false, false, false, false, false] rfl rfl (any_of HT_.out (by kernel_rfl)) (fun _ _ _ h => h) (Or.inl ⟨by rfl, ?_⟩) ?_ ?_
                                                  rotate_left
                                                  · intro w'
                                                    go_simp
                                                    with_reducible rfl
                                                  rotate_left
                                                  · simp only [Act.put, List.setIfInBounds_toArray, List.set_cons_zero, List.set_cons_succ, i64_w, i32_w]
                                                    rfl
                                                  refine pure_ (i := 28) (N := some 97) (v := ?_) (a' := ?_) #[true, true, true, true, true, true, true, true, true, true, true, true, true, true, true, true, true, true, true, true, true, true, true, true, true, true, true, true, true, false, false, false, false, false, false, false, false, false, false, false, false, false, false, false, false, false, false, false, false, false, false, false, false, false, false, false, false, false, false, false, false, false, false] rfl rfl (any_of HT_.out (by kernel_rfl)) (fun _ _ _ h => h) (Or.inl ⟨by rfl, ?_⟩) ?_ ?_
                                                  rotate_left
                                                  · intro w'
                                                    go_simp
                                                    with_reducible rfl
                                                  rotate_left
                                                  · simp only [Act.put, List.setIfInBounds_toArray, List.set_cons_zero, List.set_cons_succ, i64_w, i32_w]
                                                    rfl
                                                  refine pure_ (i := 29) (N := some 98) (v := ?_) (a' := ?_) #[true, true, true, true, true, true, true, true, true, true, true, true, true, true, true, true, true, true, true, true, true, true, true, true, true, true, true, true, true, true, false, false, false, false, false, false, false, false, false, false, false, false, false, false, false, false, false, false, false, false, false, false, false, false, false, false, false, false, false, false, false, false, false] rfl rfl (any_of HT_.out (by kernel_rfl)) (fun _ _ _ h => h) (Or.inl ⟨by rfl, ?_⟩) ?_ ?_
                                                  rotate_left
                                                  · intro w'
                                                    go_simp
                                                    with_reducible rfl
                                                  rotate_left
                                                  · simp only [Act.put, List.setIfInBounds_toArray, List.set_cons_zero, List.set_cons_succ, i64_w, i32_w]
                                                    rfl
                                                  refine pure_ (i := 30) (N := some 99) (v := ?_) (a' := ?_) #[true, true, true, true, true, true, true, true, true, true, true, true, true, true, true, true, true, true, true, true, true, true, true, true, true, true, true, true, true, true, true, false, false, false, false, false, false, false, false, false, false, false, false, false, false, false, false, false, false, false, false, false, false, false, false, false, false, false, false, false, false, false, false] rfl rfl (any_of HT_.out (by kernel_rfl)) (fun _ _ _ h => h) (Or.inl ⟨by rfl, ?_⟩) ?_ ?_
                                                  rotate_left
                                                  · intro w'
                                                    go_simp
                                                    with_reducible rfl
                                                  rotate_left
                                                  · simp only [Act.put, List.setIfInBounds_toArray, List.set_cons_zero, List.set_cons_succ, i64_w, i32_w]
                                                    rfl
                                                  refine pure_ (i := 31) (N := some 100) (v := ?_) (a' := ?_) #[true, true, true, true, true, true, true, true, true, true, true, true, true, true, true, true, true, true, true, true, true, true, true, true, true, true, true, true, true, true, true, true, false, false, false, false, false, false, false, false, false, false, false, false, false, false, false, false, false, false, false, false, false, false, false, false, false, false, false, false, false, false, false] rfl rfl (any_of HT_.out (by kernel_rfl)) (fun _ _ _ h => h) (Or.inl ⟨by rfl, ?_⟩) ?_ ?_
                                                  rotate_left
                                                  · intro w'
                                                    go_simp
                                                    with_reducible rfl
                                                  rotate_left
                                                  · simp only [Act.put, List.setIfInBounds_toArray, List.set_cons_zero, List.set_cons_succ, i64_w, i32_w]
                                                    rfl
                                                  refine pure_ (i := 33) (N := some 102) (v := ?_) (a' := ?_) #[true, true, true, true, true, true, true, true, true, true, true, true, true, true, true, true, true, true, true, true, true, true, true, true, true, true, true, true, true, true, true, true, false, true, false, false, false, false, false, false, false, false, false, false, false, false, false, false, false, false, false, false, false, false, false, false, false, false, false, false, false, false, false] rfl rfl (any_of HT_.out (by kernel_rfl)) (fun _ _ _ h => h) (Or.inl ⟨by rfl, ?_⟩) ?_ ?_
                                                  rotate_left
                                                  · intro w'
                                                    go_simp
                                                    with_reducible rfl
                                                  rotate_left
                                                  · simp only [Act.put, List.setIfInBounds_toArray, List.set_cons_zero, List.set_cons_succ, i64_w, i32_w]
                                                    rfl
                                                  refine pure_ (i := 34) (N := some 103) (v := ?_) (a' := ?_) #[true, true, true, true, true, true, true, true, true, true, true, true, true, true, true, true, true, true, true, true, true, true, true, true, true, true, true, true, true, true, true, true, false, true, true, false, false, false, false, false, false, false, false, false, false, false, false, false, false, false, false, false, false, false, false, false, false, false, false, false, false, false, false] rfl rfl (any_of HT_.out (by kernel_rfl)) (fun _ _ _ h => h) (Or.inl ⟨by rfl, ?_⟩) ?_ ?_
                                                  rotate_left
                                                  · intro w'
                                                    go_simp
                                                    with_reducible rfl
                                                  rotate_left
                                                  · simp only [Act.put, List.setIfInBounds_toArray, List.set_cons_zero, List.set_cons_succ, i64_w, i32_w]
                                                    rfl
                                                  refine one_ (i := 32) (N := some 101) #[true, true, true, true, true, true, true, true, true, true, true, true, true, true, true, true, true, true, true, true, true, true, true, true, true, true, true, true, true, true, true, true, true, true, true, false, false, false, false, false, false, false, false, false, false, false, false, false, false, false, false, false, false, false, false, false, false, false, false, false, false, false, false] rfl rfl (one_of HT_.out (by kernel_rfl)) (by decide) (fun K hK => ?_)
                                                  refine goes_ Tryd.func10 (by kernel_rfl) rfl #[.string (all_ ++ (⟨#[36]⟩ : ByteArray)), .string (all_ ++ t127)] (by rfl) rfl rfl (by (try simp only [List.map_toArray, List.map_cons, List.map_nil]); first | done | rfl | (simp only [List.length_drop, List.length_take]; rfl)) ?_
                                                  with_reducible refine (match_Match.calls (all_ ++ (⟨#[36]⟩ : ByteArray)) (all_ ++ t127) t135 _ A51.out (Shp.below HS_.out (by repeat (first | (with_reducible first | exact HB.out | apply below_alloc | apply pw_below_drewN | apply below_drew1) | exact HB.out)))).mono ?_
                                                  rintro e w75 ⟨rfl, hb⟩
                                                  refine ⟨_, rfl, ?_⟩
                                                  have n0_ := Aside0.mk (below_step (by repeat (first | (with_reducible first | exact HB.out | apply below_alloc | apply pw_below_drewN | apply below_drew1) | exact HB.out)) hb)
                                                  clear HB
                                                  have HB := n0_
                                                  clear n0_
                                                  (try clear hb)
                                                  (try clear hb2)
                                                  (try clear hk)
                                                  (try clear hi)
                                                  refine hK.out _ _ trivial (fun hHeld => ?_)
                                                  clear hK K
                                                  refine norm_ (a' := ?_) ?_ ?_
                                                  rotate_left
                                                  · show Act.put _ (some 101) _ = _
                                                    simp only [Act.put, List.setIfInBounds_toArray, List.set_cons_zero, List.set_cons_succ, i64_w, i32_w]
                                                    rfl
                                                  refine pure_ (i := 35) (N := some 104) (v := ?_) (a' := ?_) #[true, true, true, true, true, true, true, true, true, true, true, true, true, true, true, true, true, true, true, true, true, true, true, true, true, true, true, true, true, true, true, true, true, true, true, true, false, false, false, false, false, false, false, false, false, false, false, false, false, false, false, false, false, false, false, false, false, false, false, false, false, false, false] rfl rfl (any_of HT_.out (by kernel_rfl)) (fun _ _ _ h => h) (Or.inl ⟨by rfl, ?_⟩) ?_ ?_
                                                  rotate_left
                                                  · intro w'
                                                    go_simp
                                                    with_reducible rfl
                                                  rotate_left
                                                  · simp only [Act.put, List.setIfInBounds_toArray, List.set_cons_zero, List.set_cons_succ, i64_w, i32_w]
                                                    rfl
                                                  refine pure_ (i := 36) (N := some 105) (v := ?_) (a' := ?_) #[true, true, true, true, true, true, true, true, true, true, true, true, true, true, true, true, true, true, true, true, true, true, true, true, true, true, true, true, true, true, true, true, true, true, true, true, true, false, false, false, false, false, false, false, false, false, false, false, false, false, false, false, false, false, false, false, false, false, false, false, false, false, false] rfl rfl (any_of HT_.out (by kernel_rfl)) (fun _ _ _ h => h) (Or.inl ⟨by rfl, ?_⟩) ?_ ?_
                                                  rotate_left
                                                  · intro w'
                                                    go_simp
                                                    with_reducible rfl
                                                  rotate_left
                                                  · simp only [Act.put, List.setIfInBounds_toArray, List.set_cons_zero, List.set_cons_succ, i64_w, i32_w]
                                                    rfl
                                                  refine pure_ (i := 37) (N := some 106) (v := ?_) (a' := ?_) #[true, true, true, true, true, true, true, true, true, true, true, true, true, true, true, true, true, true, true, true, true, true, true, true, true, true, true, true, true, true, true, true, true, true, true, true, true, true, false, false, false, false, false, false, false, false, false, false, false, false, false, false, false, false, false, false, false, false, false, false, false, false, false] rfl rfl (any_of HT_.out (by kernel_rfl)) (fun _ _ _ h => h) (Or.inl ⟨by rfl, ?_⟩) ?_ ?_
                                                  rotate_left
                                                  · intro w'
                                                    go_simp
                                                    with_reducible rfl
                                                  rotate_left
                                                  · simp only [Act.put, List.setIfInBounds_toArray, List.set_cons_zero, List.set_cons_succ, i64_w, i32_w]
                                                    rfl
                                                  refine pure_ (i := 38) (N := some 107) (v := ?_) (a' := ?_) #[true, true, true, true, true, true, true, true, true, true, true, true, true, true, true, true, true, true, true, true, true, true, true, true, true, true, true, true, true, true, true, true, true, true, true, true, true, true, true, false, false, false, false, false, false, false, false, false, false, false, false, false, false, false, false, false, false, false, false, false, false, false, false] rfl rfl (any_of HT_.out (by kernel_rfl)) (fun _ _ _ h => h) (Or.inl ⟨by rfl, ?_⟩) ?_ ?_
                                                  rotate_left
                                                  · intro w'
                                                    go_simp
                                                    with_reducible rfl
                                                  rotate_left
                                                  · simp only [Act.put, List.setIfInBounds_toArray, List.set_cons_zero, List.set_cons_succ, i64_w, i32_w]
                                                    rfl
                                                  refine one_ (i := 39) (N := some 108) #[true, true, true, true, true, true, true, true, true, true, true, true, true, true, true, true, true, true, true, true, true, true, true, true, true, true, true, true, true, true, true, true, true, true, true, true, true, true, true, true, false, false, false, false, false, false, false, false, false, false, false, false, false, false, false, false, false, false, false, false, false, false, false] rfl rfl (one_of HT_.out (by kernel_rfl)) (by decide) (fun K hK => ?_)
                                                  refine goes_ Tryd.func10 (by kernel_rfl) rfl #[.string (⟨#[42]⟩ : ByteArray), .string all_] (by rfl) rfl rfl (by (try simp only [List.map_toArray, List.map_cons, List.map_nil]); first | done | rfl | (simp only [List.length_drop, List.length_take]; rfl)) ?_
                                                  with_reducible refine (match_Match.calls (⟨#[42]⟩ : ByteArray) all_ true _ A53.out (Shp.below HS_.out (by repeat (first | (with_reducible first | exact HB.out | apply below_alloc | apply pw_below_drewN | apply below_drew1) | exact HB.out)))).mono ?_
                                                  rintro e w76 ⟨rfl, hb⟩
                                                  refine ⟨_, rfl, ?_⟩
                                                  have n0_ := Aside0.mk (below_step (by repeat (first | (with_reducible first | exact HB.out | apply below_alloc | apply pw_below_drewN | apply below_drew1) | exact HB.out)) hb)
                                                  clear HB
                                                  have HB := n0_
                                                  clear n0_
                                                  (try clear hb)
                                                  (try clear hb2)
                                                  (try clear hk)
                                                  (try clear hi)
                                                  refine hK.out _ _ trivial (fun hHeld => ?_)
                                                  clear hK K
                                                  refine norm_ (a' := ?_) ?_ ?_
                                                  rotate_left
                                                  · show Act.put _ (some 108) _ = _
                                                    simp only [Act.put, List.setIfInBounds_toArray, List.set_cons_zero, List.set_cons_succ, i64_w, i32_w]
                                                    rfl
                                                  refine pure_ (i := 40) (N := some 109) (v := ?_) (a' := ?_) #[true, true, true, true, true, true, true, true, true, true, true, true, true, true, true, true, true, true, true, true, true, true, true, true, true, true, true, true, true, true, true, true, true, true, true, true, true, true, true, true, true, false, false, false, false, false, false, false, false, false, false, false, false, false, false, false, false, false, false, false, false, false, false] rfl rfl (any_of HT_.out (by kernel_rfl)) (fun _ _ _ h => h) (Or.inl ⟨by rfl, ?_⟩) ?_ ?_
                                                  rotate_left
                                                  · intro w'
                                                    go_simp
                                                    with_reducible rfl
                                                  rotate_left
                                                  · simp only [Act.put, List.setIfInBounds_toArray, List.set_cons_zero, List.set_cons_succ, i64_w, i32_w]
                                                    rfl
                                                  refine pure_ (i := 41) (N := some 110) (v := ?_) (a' := ?_) #[true, true, true, true, true, true, true, true, true, true, true, true, true, true, true, true, true, true, true, true, true, true, true, true, true, true, true, true, true, true, true, true, true, true, true, true, true, true, true, true, true, true, false, false, false, false, false, false, false, false, false, false, false, false, false, false, false, false, false, false, false, false, false] rfl rfl (any_of HT_.out (by kernel_rfl)) (fun _ _ _ h => h) (Or.inl ⟨by rfl, ?_⟩) ?_ ?_
                                                  rotate_left
                                                  · intro w'
                                                    go_simp
                                                    with_reducible rfl
                                                  rotate_left
                                                  · simp only [Act.put, List.setIfInBounds_toArray, List.set_cons_zero, List.set_cons_succ, i64_w, i32_w]
                                                    rfl
                                                  refine pure_ (i := 42) (N := some 111) (v := ?_) (a' := ?_) #[true, true, true, true, true, true, true, true, true, true, true, true, true, true, true, true, true, true, true, true, true, true, true, true, true, true, true, true, true, true, true, true, true, true, true, true, true, true, true, true, true, true, true, false, false, false, false, false, false, false, false, false, false, false, false, false, false, false, false, false, false, false, false] rfl rfl (any_of HT_.out (by kernel_rfl)) (fun _ _ _ h => h) (Or.inl ⟨by rfl, ?_⟩) ?_ ?_
                                                  rotate_left
                                                  · intro w'
                                                    go_simp
                                                    with_reducible rfl
                                                  rotate_left
                                                  · simp only [Act.put, List.setIfInBounds_toArray, List.set_cons_zero, List.set_cons_succ, i64_w, i32_w]
                                                    rfl
                                                  refine pure_ (i := 43) (N := some 112) (v := ?_) (a' := ?_) #[true, true, true, true, true, true, true, true, true, true, true, true, true, true, true, true, true, true, true, true, true, true, true, true, true, true, true, true, true, true, true, true, true, true, true, true, true, true, true, true, true, true, true, true, false, false, false, false, false, false, false, false, false, false, false, false, false, false, false, false, false, false, false] rfl rfl (any_of HT_.out (by kernel_rfl)) (fun _ _ _ h => h) (Or.inl ⟨by rfl, ?_⟩) ?_ ?_
                                                  rotate_left
                                                  · intro w'
                                                    go_simp
                                                    with_reducible rfl
                                                  rotate_left
                                                  · simp only [Act.put, List.setIfInBounds_toArray, List.set_cons_zero, List.set_cons_succ, i64_w, i32_w]
                                                    rfl
                                                  refine pure_ (i := 44) (N := some 113) (v := ?_) (a' := ?_) #[true, true, true, true, true, true, true, true, true, true, true, true, true, true, true, true, true, true, true, true, true, true, true, true, true, true, true, true, true, true, true, true, true, true, true, true, true, true, true, true, true, true, true, true, true, false, false, false, false, false, false, false, false, false, false, false, false, false, false, false, false, false, false] rfl rfl (any_of HT_.out (by kernel_rfl)) (fun _ _ _ h => h) (Or.inl ⟨by rfl, ?_⟩) ?_ ?_
                                                  rotate_left
                                                  · intro w'
                                                    go_simp
                                                    with_reducible rfl
                                                  rotate_left
                                                  · simp only [Act.put, List.setIfInBounds_toArray, List.set_cons_zero, List.set_cons_succ, i64_w, i32_w]
                                                    rfl
                                                  refine pure_ (i := 45) (N := some 114) (v := ?_) (a' := ?_) #[true, true, true, true, true, true, true, true, true, true, true, true, true, true, true, true, true, true, true, true, true, true, true, true, true, true, true, true, true, true, true, true, true, true, true, true, true, true, true, true, true, true, true, true, true, true, false, false, false, false, false, false, false, false, false, false, false, false, false, false, false, false, false] rfl rfl (any_of HT_.out (by kernel_rfl)) (fun _ _ _ h => h) (Or.inl ⟨by rfl, ?_⟩) ?_ ?_
                                                  rotate_left
                                                  · intro w'
                                                    go_simp
                                                    with_reducible rfl
                                                  rotate_left
                                                  · simp only [Act.put, List.setIfInBounds_toArray, List.set_cons_zero, List.set_cons_succ, i64_w, i32_w]
                                                    rfl
                                                  refine pure_ (i := 46) (N := some 115) (v := ?_) (a' := ?_) #[true, true, true, true, true, true, true, true, true, true, true, true, true, true, true, true, true, true, true, true, true, true, true, true, true, true, true, true, true, true, true, true, true, true, true, true, true, true, true, true, true, true, true, true, true, true, true, false, false, false, false, false, false, false, false, false, false, false, false, false, false, false, false] rfl rfl (any_of HT_.out (by kernel_rfl)) (fun _ _ _ h => h) (Or.inl ⟨by rfl, ?_⟩) ?_ ?_
                                                  rotate_left
                                                  · intro w'
                                                    go_simp
                                                    with_reducible rfl
                                                  rotate_left
                                                  · simp only [Act.put, List.setIfInBounds_toArray, List.set_cons_zero, List.set_cons_succ, i64_w, i32_w]
                                                    rfl
                                                  refine pure_ (i := 47) (N := some 116) (v := ?_) (a' := ?_) #[true, true, true, true, true, true, true, true, true, true, true, true, true, true, true, true, true, true, true, true, true, true, true, true, true, true, true, true, true, true, true, true, true, true, true, true, true, true, true, true, true, true, true, true, true, true, true, true, false, false, false, false, false, false, false, false, false, false, false, false, false, false, false] rfl rfl (any_of HT_.out (by kernel_rfl)) (fun _ _ _ h => h) (Or.inl ⟨by rfl, ?_⟩) ?_ ?_
                                                  rotate_left
                                                  · intro w'
                                                    go_simp
                                                    with_reducible rfl
                                                  rotate_left
                                                  · simp only [Act.put, List.setIfInBounds_toArray, List.set_cons_zero, List.set_cons_succ, i64_w, i32_w]
                                                    rfl
                                                  refine pure_ (i := 48) (N := some 117) (v := ?_) (a' := ?_) #[true, true, true, true, true, true, true, true, true, true, true, true, true, true, true, true, true, true, true, true, true, true, true, true, true, true, true, true, true, true, true, true, true, true, true, true, true, true, true, true, true, true, true, true, true, true, true, true, true, false, false, false, false, false, false, false, false, false, false, false, false, false, false] rfl rfl (any_of HT_.out (by kernel_rfl)) (fun _ _ _ h => h) (Or.inl ⟨by rfl, ?_⟩) ?_ ?_
                                                  rotate_left
                                                  · intro w'
                                                    go_simp
                                                    with_reducible rfl
                                                  rotate_left
                                                  · simp only [Act.put, List.setIfInBounds_toArray, List.set_cons_zero, List.set_cons_succ, i64_w, i32_w]
                                                    rfl
                                                  refine pure_ (i := 49) (N := some 118) (v := ?_) (a' := ?_) #[true, true, true, true, true, true, true, true, true, true, true, true, true, true, true, true, true, true, true, true, true, true, true, true, true, true, true, true, true, true, true, true, true, true, true, true, true, true, true, true, true, true, true, true, true, true, true, true, true, true, false, false, false, false, false, false, false, false, false, false, false, false, false] rfl rfl (any_of HT_.out (by kernel_rfl)) (fun _ _ _ h => h) (Or.inl ⟨by rfl, ?_⟩) ?_ ?_
                                                  rotate_left
                                                  · intro w'
                                                    go_simp
                                                    with_reducible rfl
                                                  rotate_left
                                                  · simp only [Act.put, List.setIfInBounds_toArray, List.set_cons_zero, List.set_cons_succ, i64_w, i32_w]
                                                    rfl
                                                  refine pure_ (i := 50) (N := some 119) (v := ?_) (a' := ?_) #[true, true, true, true, true, true, true, true, true, true, true, true, true, true, true, true, true, true, true, true, true, true, true, true, true, true, true, true, true, true, true, true, true, true, true, true, true, true, true, true, true, true, true, true, true, true, true, true, true, true, true, false, false, false, false, false, false, false, false, false, false, false, false] rfl rfl (any_of HT_.out (by kernel_rfl)) (fun _ _ _ h => h) (Or.inl ⟨by rfl, ?_⟩) ?_ ?_
                                                  rotate_left
                                                  · intro w'
                                                    go_simp
                                                    with_reducible rfl
                                                  rotate_left
                                                  · simp only [Act.put, List.setIfInBounds_toArray, List.set_cons_zero, List.set_cons_succ, i64_w, i32_w]
                                                    rfl
                                                  refine pure_ (i := 51) (N := some 120) (v := ?_) (a' := ?_) #[true, true, true, true, true, true, true, true, true, true, true, true, true, true, true, true, true, true, true, true, true, true, true, true, true, true, true, true, true, true, true, true, true, true, true, true, true, true, true, true, true, true, true, true, true, true, true, true, true, true, true, true, false, false, false, false, false, false, false, false, false, false, false] rfl rfl (any_of HT_.out (by kernel_rfl)) (fun _ _ _ h => h) (Or.inl ⟨by rfl, ?_⟩) ?_ ?_
                                                  rotate_left
                                                  · intro w'
                                                    go_simp
                                                    with_reducible rfl
                                                  rotate_left
                                                  · simp only [Act.put, List.setIfInBounds_toArray, List.set_cons_zero, List.set_cons_succ, i64_w, i32_w]
                                                    rfl
                                                  refine pure_ (i := 52) (N := some 121) (v := ?_) (a' := ?_) #[true, true, true, true, true, true, true, true, true, true, true, true, true, true, true, true, true, true, true, true, true, true, true, true, true, true, true, true, true, true, true, true, true, true, true, true, true, true, true, true, true, true, true, true, true, true, true, true, true, true, true, true, true, false, false, false, false, false, false, false, false, false, false] rfl rfl (any_of HT_.out (by kernel_rfl)) (fun _ _ _ h => h) (Or.inl ⟨by rfl, ?_⟩) ?_ ?_
                                                  rotate_left
                                                  · intro w'
                                                    go_simp
                                                    with_reducible rfl
                                                  rotate_left
                                                  · simp only [Act.put, List.setIfInBounds_toArray, List.set_cons_zero, List.set_cons_succ, i64_w, i32_w]
                                                    rfl
                                                  refine pure_ (i := 53) (N := some 122) (v := ?_) (a' := ?_) #[true, true, true, true, true, true, true, true, true, true, true, true, true, true, true, true, true, true, true, true, true, true, true, true, true, true, true, true, true, true, true, true, true, true, true, true, true, true, true, true, true, true, true, true, true, true, true, true, true, true, true, true, true, true, false, false, false, false, false, false, false, false, false] rfl rfl (any_of HT_.out (by kernel_rfl)) (fun _ _ _ h => h) (Or.inl ⟨by rfl, ?_⟩) ?_ ?_
                                                  rotate_left
                                                  · intro w'
                                                    go_simp
                                                    with_reducible rfl
                                                  rotate_left
                                                  · simp only [Act.put, List.setIfInBounds_toArray, List.set_cons_zero, List.set_cons_succ, i64_w, i32_w]
                                                    rfl
                                                  refine pure_ (i := 54) (N := some 123) (v := ?_) (a' := ?_) #[true, true, true, true, true, true, true, true, true, true, true, true, true, true, true, true, true, true, true, true, true, true, true, true, true, true, true, true, true, true, true, true, true, true, true, true, true, true, true, true, true, true, true, true, true, true, true, true, true, true, true, true, true, true, true, false, false, false, false, false, false, false, false] rfl rfl (any_of HT_.out (by kernel_rfl)) (fun _ _ _ h => h) (Or.inl ⟨by rfl, ?_⟩) ?_ ?_
                                                  rotate_left
                                                  · intro w'
                                                    go_simp
                                                    with_reducible rfl
                                                  rotate_left
                                                  · simp only [Act.put, List.setIfInBounds_toArray, List.set_cons_zero, List.set_cons_succ, i64_w, i32_w]
                                                    rfl
                                                  refine pure_ (i := 55) (N := some 124) (v := ?_) (a' := ?_) #[true, true, true, true, true, true, true, true, true, true, true, true, true, true, true, true, true, true, true, true, true, true, true, true, true, true, true, true, true, true, true, true, true, true, true, true, true, true, true, true, true, true, true, true, true, true, true, true, true, true, true, true, true, true, true, true, false, false, false, false, false, false, false] rfl rfl (any_of HT_.out (by kernel_rfl)) (fun _ _ _ h => h) (Or.inl ⟨by rfl, ?_⟩) ?_ ?_
                                                  rotate_left
                                                  · intro w'
                                                    go_simp
                                                    with_reducible rfl
                                                  rotate_left
                                                  · simp only [Act.put, List.setIfInBounds_toArray, List.set_cons_zero, List.set_cons_succ, i64_w, i32_w]
                                                    rfl
                                                  refine pure_ (i := 56) (N := some 125) (v := ?_) (a' := ?_) #[true, true, true, true, true, true, true, true, true, true, true, true, true, true, true, true, true, true, true, true, true, true, true, true, true, true, true, true, true, true, true, true, true, true, true, true, true, true, true, true, true, true, true, true, true, true, true, true, true, true, true, true, true, true, true, true, true, false, false, false, false, false, false] rfl rfl (any_of HT_.out (by kernel_rfl)) (fun _ _ _ h => h) (Or.inl ⟨by rfl, ?_⟩) ?_ ?_
                                                  rotate_left
                                                  · intro w'
                                                    go_simp
                                                    with_reducible rfl
                                                  rotate_left
                                                  · simp only [Act.put, List.setIfInBounds_toArray, List.set_cons_zero, List.set_cons_succ, i64_w, i32_w]
                                                    rfl
                                                  refine pure_ (i := 57) (N := some 126) (v := ?_) (a' := ?_) #[true, true, true, true, true, true, true, true, true, true, true, true, true, true, true, true, true, true, true, true, true, true, true, true, true, true, true, true, true, true, true, true, true, true, true, true, true, true, true, true, true, true, true, true, true, true, true, true, true, true, true, true, true, true, true, true, true, true, false, false, false, false, false] rfl rfl (any_of HT_.out (by kernel_rfl)) (fun _ _ _ h => h) (Or.inl ⟨by rfl, ?_⟩) ?_ ?_
                                                  rotate_left
                                                  · intro w'
                                                    go_simp
                                                    with_reducible rfl
                                                  rotate_left
                                                  · simp only [Act.put, List.setIfInBounds_toArray, List.set_cons_zero, List.set_cons_succ, i64_w, i32_w]
                                                    rfl
                                                  refine pure_ (i := 58) (N := some 127) (v := ?_) (a' := ?_) #[true, true, true, true, true, true, true, true, true, true, true, true, true, true, true, true, true, true, true, true, true, true, true, true, true, true, true, true, true, true, true, true, true, true, true, true, true, true, true, true, true, true, true, true, true, true, true, true, true, true, true, true, true, true, true, true, true, true, true, false, false, false, false] rfl rfl (any_of HT_.out (by kernel_rfl)) (fun _ _ _ h => h) (Or.inl ⟨by rfl, ?_⟩) ?_ ?_
                                                  rotate_left
                                                  · intro w'
                                                    go_simp
                                                    with_reducible rfl
                                                  rotate_left
                                                  · simp only [Act.put, List.setIfInBounds_toArray, List.set_cons_zero, List.set_cons_succ, i64_w, i32_w]
                                                    rfl
                                                  refine pure_ (i := 59) (N := some 128) (v := ?_) (a' := ?_) #[true, true, true, true, true, true, true, true, true, true, true, true, true, true, true, true, true, true, true, true, true, true, true, true, true, true, true, true, true, true, true, true, true, true, true, true, true, true, true, true, true, true, true, true, true, true, true, true, true, true, true, true, true, true, true, true, true, true, true, true, false, false, false] rfl rfl (any_of HT_.out (by kernel_rfl)) (fun _ _ _ h => h) (Or.inl ⟨by rfl, ?_⟩) ?_ ?_
                                                  rotate_left
                                                  · intro w'
                                                    go_simp
                                                    with_reducible rfl
                                                  rotate_left
                                                  · simp only [Act.put, List.setIfInBounds_toArray, List.set_cons_zero, List.set_cons_succ, i64_w, i32_w]
                                                    rfl
                                                  refine one_ (i := 60) (N := some 129) #[true, true, true, true, true, true, true, true, true, true, true, true, true, true, true, true, true, true, true, true, true, true, true, true, true, true, true, true, true, true, true, true, true, true, true, true, true, true, true, true, true, true, true, true, true, true, true, true, true, true, true, true, true, true, true, true, true, true, true, true, true, false, false] rfl rfl (one_of HT_.out (by kernel_rfl)) (by decide) (fun K hK => ?_)
                                                  refine goes_ Tryd.func10 (by kernel_rfl) rfl #[.string (((cut1_ ++ (⟨#[42]⟩ : ByteArray)) ++ cut2_) ++ (⟨#[36]⟩ : ByteArray)), .string ((cut1_ ++ t127) ++ cut2_)] (by rfl) rfl rfl (by (try simp only [List.map_toArray, List.map_cons, List.map_nil]); first | done | (simp only [hji40]; rfl) | rfl | (simp only [List.length_drop, List.length_take]; rfl)) ?_
                                                  with_reducible refine (match_Match.calls (((cut1_ ++ (⟨#[42]⟩ : ByteArray)) ++ cut2_) ++ (⟨#[36]⟩ : ByteArray)) ((cut1_ ++ t127) ++ cut2_) t137 _ A68.out (Shp.below HS_.out (by repeat (first | (with_reducible first | exact HB.out | apply below_alloc | apply pw_below_drewN | apply below_drew1) | exact HB.out)))).mono ?_
                                                  rintro e w77 ⟨rfl, hb⟩
                                                  refine ⟨_, rfl, ?_⟩
                                                  have n0_ := Aside0.mk (below_step (by repeat (first | (with_reducible first | exact HB.out | apply below_alloc | apply pw_below_drewN | apply below_drew1) | exact HB.out)) hb)
                                                  clear HB
                                                  have HB := n0_
                                                  clear n0_
                                                  (try clear hb)
                                                  (try clear hb2)
                                                  (try clear hk)
                                                  (try clear hi)
                                                  refine hK.out _ _ trivial (fun hHeld => ?_)
                                                  clear hK K
                                                  refine norm_ (a' := ?_) ?_ ?_
                                                  rotate_left
                                                  · show Act.put _ (some 129) _ = _
                                                    simp only [Act.put, List.setIfInBounds_toArray, List.set_cons_zero, List.set_cons_succ, i64_w, i32_w]
                                                    rfl
                                                  refine pure_ (i := 61) (N := some 130) (v := ?_) (a' := ?_) #[true, true, true, true, true, true, true, true, true, true, true, true, true, true, true, true, true, true, true, true, true, true, true, true, true, true, true, true, true, true, true, true, true, true, true, true, true, true, true, true, true, true, true, true, true, true, true, true, true, true, true, true, true, true, true, true, true, true, true, true, true, true, false] rfl rfl (any_of HT_.out (by kernel_rfl)) (fun _ _ _ h => h) (Or.inl ⟨by rfl, ?_⟩) ?_ ?_
                                                  rotate_left
                                                  · intro w'
                                                    go_simp
                                                    with_reducible rfl
                                                  rotate_left
                                                  · simp only [Act.put, List.setIfInBounds_toArray, List.set_cons_zero, List.set_cons_succ, i64_w, i32_w]
                                                    rfl
                                                  refine pure_ (i := 62) (N := some 6) (v := ?_) (a' := ?_) #[true, true, true, true, true, true, true, true, true, true, true, true, true, true, true, true, true, true, true, true, true, true, true, true, true, true, true, true, true, true, true, true, true, true, true, true, true, true, true, true, true, true, true, true, true, true, true, true, true, true, true, true, true, true, true, true, true, true, true, true, true, true, true] rfl rfl (any_of HT_.out (by kernel_rfl)) (fun _ _ _ h => h) (Or.inl ⟨by rfl, ?_⟩) ?_ ?_
                                                  rotate_left
                                                  · intro w'
                                                    go_simp
                                                    with_reducible rfl
                                                  rotate_left
                                                  · simp only [Act.put, List.setIfInBounds_toArray, List.set_cons_zero, List.set_cons_succ, i64_w, i32_w]
                                                    rfl
                                                  refine done_ (done_of HT_.out (by kernel_rfl)) ?_
                                                  try go_wp2
                                                  go_ret
                                                  exact ⟨by first | rfl | (simp [errW_none, errW_some] <;> rfl) | (simp only [← hji40]; first | rfl | (simp [errW_none, errW_some] <;> rfl)) | (simp [*, errW_none, errW_some] <;> rfl) | (simp [wrap64]; done), by repeat (first | (with_reducible first | exact HB.out | apply below_alloc | apply pw_below_drewN | apply below_drew1) | exact HB.out)⟩
                                                · rw [if_neg c67] at H
                                                  exact absurd H (by simp)
                                              · rw [if_neg c64] at H
                                                exact absurd H (by simp)
                                            · rw [if_neg c61] at H
                                              exact absurd H (by simp)
                                          · rw [if_neg c60] at H
                                            exact absurd H (by simp)
                                        · rw [if_neg c57] at H
                                          exact absurd H (by simp)
                                      · replace c54 := Bool.eq_false_iff.mpr c54
                                        subst c54
                                        have H1 : (some false) = some r := by rw [if_neg (show ¬ (false = true) by decide)] at H; exact H
                                        clear H
                                        have H := H1
                                        clear H1
                                        exact absurd ((Option.some.inj H).trans HR_.out) (by decide)
                                    · rw [if_neg c52] at H
                                      have c52b0 : (t135 == (t127.toList == ([] : List UInt8))) = false := by simpa using c52
                                      have c52z : (t135 == t127.toList.isEmpty) = false := by rw [← c52b0]; cases t127.toList <;> rfl
                                      (try (have c52b1 : decide (t135 = (t127.toList == ([] : List UInt8))) = false := by simpa using c52))
                                      (try (have c52b2 : (t135 == (t127.toList == ([] : List UInt8))) = false := by simpa using c52))
                                      (try (have c52b3 : ¬ (t135 = (t127.toList == ([] : List UInt8))) := by simpa using c52))
                                      clear c52
                                      exact absurd ((Option.some.inj H).trans HR_.out) (by decide)
                                  · replace c50 := Bool.eq_false_iff.mpr c50
                                    subst c50
                                    have H1 : (some false) = some r := by rw [if_neg (show ¬ (false = true) by decide)] at H; exact H
                                    clear H
                                    have H := H1
                                    clear H1
                                    exact absurd ((Option.some.inj H).trans HR_.out) (by decide)
                                · rw [if_neg c48] at H
                                  exact absurd H (by simp)
                              · replace c47 := Bool.eq_false_iff.mpr c47
                                subst c47
                                have H1 : (some false) = some r := by rw [if_neg (show ¬ (false = true) by decide)] at H; exact H
                                clear H
                                have H := H1
                                clear H1
                                exact absurd ((Option.some.inj H).trans HR_.out) (by decide)
                            · rw [if_neg c45] at H
                              exact absurd H (by simp)
                          · replace c44 := Bool.eq_false_iff.mpr c44
                            subst c44
                            have H1 : (some false) = some r := by rw [if_neg (show ¬ (false = true) by decide)] at H; exact H
                            clear H
                            have H := H1
                            clear H1
                            exact absurd ((Option.some.inj H).trans HR_.out) (by decide)
                        · rw [if_neg c42] at H
                          exact absurd H (by simp)
                      · rw [if_neg c41] at H
                        exact absurd H (by simp)
                    · replace c39 := Bool.eq_false_iff.mpr c39
                      subst c39
                      have H1 : (some false) = some r := by rw [if_neg (show ¬ (false = true) by decide)] at H; exact H
                      clear H
                      have H := H1
                      clear H1
                      exact absurd ((Option.some.inj H).trans HR_.out) (by decide)
                  · replace c37 := Bool.eq_false_iff.mpr c37
                    subst c37
                    have H1 : (some false) = some r := by rw [if_neg (show ¬ (false = true) by decide)] at H; exact H
                    clear H
                    have H := H1
                    clear H1
                    exact absurd ((Option.some.inj H).trans HR_.out) (by decide)
  · rw [if_neg c5] at H
    exact absurd H (by simp)

/-- THE ONE PURE STATEMENT of decorumlaw10_MatchOwn: yours. -/
def decorumlaw10_MatchOwn.Pure : Prop := ∀ (a0 : ByteArray) (a1 : Int) (a2 : ByteArray), a0.size ≤ 140737488351232 → (Lit.int .u8 a1).wf = true → a2.size ≤ 140737488351232 → ∃ k, decorumlaw10_MatchOwn.f k a0 a1 a2 = some true
theorem decorumlaw10_MatchOwn.walk (P : decorumlaw10_MatchOwn.Pure) (a0 : ByteArray) (a1 : Int) (a2 : ByteArray) (w : World) (w0 : a0.size ≤ 140737488351232) (w1 : (Lit.int .u8 a1).wf = true) (w2 : a2.size ≤ 140737488351232) (hS_ : Shp w) :
    Calls Tryd.prog 5 #[.string a0, .int .u8 a1, .string a2] w fun e w' => e = .returned (.bool true) ∧ Below w.heap.size w w' := by
  obtain ⟨k, h⟩ := P a0 a1 a2 w0 w1 w2
  refine (decorumlaw10_MatchOwn.calls k a0 a1 a2 true w rfl h hS_).mono ?_
  rintro e w' ⟨rfl, hd⟩
  exact ⟨rfl, hd⟩

end Go.Proofs.YtioafmnobmgdkaaDoor.QLaw
