/- robotsOthers_holds: a part of its proof (the texts QMBx1, MA, MB, MC, MS, QMMx0, QMMx1, MM, QBasex1, QBasex6, QUx0 without what this claim does not lean on). -/
import Derived.BigCall
import Derived.Lib.IndexMore
import Derived.Test.YtdnaddignhjihaaDoorProg
import Derived.Below
import Derived.Deep.Draws
import Derived.Deep.AppendLies
import Derived.Maps.AppendAt
import Derived.OwnWalk
import Derived.Laws.BytesArg
import Derived.Laws.MakeOwn
import Derived.Laws.OwnMore
import Derived.Deep.OwnRows
import Derived.Tactics
import Derived.Lib.ConvBytes
import Derived.Laws.Slices
import Derived.WalkKit
import Derived.KernelRfl
import Derived.RowKit3
import Derived.Deep.LoopGhost
import Derived.Deep.QuietTactic
import Derived.BigQuiet
import Derived.WideLaws
import Derived.Deep.DeepCutAuto
import Derived.Deep.CutBlock
import Derived.Deep.RegionHeld3
import Derived.Laws.Rows
import Derived.Lib.AppendStr
import Derived.ArgAppend
import Derived.Laws.IdiomCopy
import Derived.OrdersHeld
import Derived.Laws.BitsLemmas
import Derived.RowKit
import Derived.Test.YtdnaddignhjihaaDoorZO3
namespace Go.Proofs.YtdnaddignhjihaaDoor.QMB
open Go.Proofs.YtdnaddignhjihaaDoor.GivenM
open Go.RowKit Go.Proofs.YtdnaddignhjihaaDoorW.PrintWords Go.Proofs.YtdnaddignhjihaaDoorW.PrintLast Go.Proofs.YtdnaddignhjihaaDoorW.PrintMore
attribute [local go_sem] max2_int min2_int max_two min_two max_three min_three max_four min_four   -- for this text's walks alone
set_option linter.unusedVariables false
set_option linter.unusedSimpArgs false
def pct_coded.f (a0 : Int) : Option (ByteArray) := if 0 ≤ (a0 / 16) then (if (a0 / 16) < 16 then (if 0 ≤ (Go.bits .and .u8 a0 15) then (if (Go.bits .and .u8 a0 15) < 16 then (some (strOfNums (([37, bt (⟨#[48, 49, 50, 51, 52, 53, 54, 55, 56, 57, 65, 66, 67, 68, 69, 70]⟩ : ByteArray) (a0 / 16), bt (⟨#[48, 49, 50, 51, 52, 53, 54, 55, 56, 57, 65, 66, 67, 68, 69, 70]⟩ : ByteArray) (Go.bits .and .u8 a0 15)] : List Int)))) else (none)) else (none)) else (none)) else (none)
def pct_coded.T1 : Bool × List (List Nat × List Nat) := (true, [([], []), ([0], [0]), ([1], [1]), ([], []), ([3], [3]), ([4], [4]), ([2, 5], [2, 5]), ([6], [6]), ([7, 0, 1, 2, 3, 4, 5, 6, 7], [7])])
def pct_coded.B1 : List Nat := [0, 1, 3, 0, 8, 24, 63, 127, 255]
theorem pct_coded.tab1 : rtab .any (opsOf Tryd.f71 1) = pct_coded.T1 := by kernel_rfl
theorem pct_coded.bits1 : waitsOk pct_coded.T1.2 pct_coded.B1 = true := by kernel_rfl
set_option maxHeartbeats 8000000 in
set_option maxRecDepth 100000 in
theorem pct_coded.calls (a0 : Int) (r : ByteArray) (w : World) (h : pct_coded.f a0 = some r) :
    Calls Tryd.prog 71 #[.int .u8 a0] w fun e w' => e = .returned (.string r) ∧ Below w.heap.size w w' := by
  have HB := Aside0.mk (Below.refl w.heap.size w)
  have H : (if 0 ≤ (a0 / 16) then (if (a0 / 16) < 16 then (if 0 ≤ (Go.bits .and .u8 a0 15) then (if (Go.bits .and .u8 a0 15) < 16 then (some (strOfNums (([37, bt (⟨#[48, 49, 50, 51, 52, 53, 54, 55, 56, 57, 65, 66, 67, 68, 69, 70]⟩ : ByteArray) (a0 / 16), bt (⟨#[48, 49, 50, 51, 52, 53, 54, 55, 56, 57, 65, 66, 67, 68, 69, 70]⟩ : ByteArray) (Go.bits .and .u8 a0 15)] : List Int)))) else (none)) else (none)) else (none)) else (none)) = some r := h
  clear h
  obtain ⟨ji2, hji2⟩ : ∃ j_ : Int, (a0 / 16) = j_ := ⟨_, rfl⟩
  replace H : (if 0 ≤ (ji2) then (if (ji2) < 16 then (if 0 ≤ (Go.bits .and .u8 a0 15) then (if (Go.bits .and .u8 a0 15) < 16 then (some (strOfNums (([37, bt (⟨#[48, 49, 50, 51, 52, 53, 54, 55, 56, 57, 65, 66, 67, 68, 69, 70]⟩ : ByteArray) (ji2), bt (⟨#[48, 49, 50, 51, 52, 53, 54, 55, 56, 57, 65, 66, 67, 68, 69, 70]⟩ : ByteArray) (Go.bits .and .u8 a0 15)] : List Int)))) else (none)) else (none)) else (none)) else (none)) = some r := by first | (rw [hji2] at H; exact H) | (simp only [hji2] at H ⊢; exact H)
  by_cases c3 : 0 ≤ (ji2)
  · rw [if_pos c3] at H
    have c3b0 : decide (0 ≤ (ji2)) = true := decide_eq_true c3
    clear c3
    by_cases c4 : (ji2) < 16
    · rw [if_pos c4] at H
      have c4b0 : decide ((ji2) < 16) = true := decide_eq_true c4
      clear c4
      by_cases c6 : 0 ≤ (Go.bits .and .u8 a0 15)
      · rw [if_pos c6] at H
        have c6b0 : decide (0 ≤ (Go.bits .and .u8 a0 15)) = true := decide_eq_true c6
        clear c6
        by_cases c7 : (Go.bits .and .u8 a0 15) < 16
        · rw [if_pos c7] at H
          have c7b0 : decide ((Go.bits .and .u8 a0 15) < 16) = true := decide_eq_true c7
          clear c7
          obtain ⟨y101, hy101⟩ : ∃ y_ : List Int, y_ = (([37, bt (⟨#[48, 49, 50, 51, 52, 53, 54, 55, 56, 57, 65, 66, 67, 68, 69, 70]⟩ : ByteArray) (ji2), bt (⟨#[48, 49, 50, 51, 52, 53, 54, 55, 56, 57, 65, 66, 67, 68, 69, 70]⟩ : ByteArray) (Go.bits .and .u8 a0 15)] : List Int)) := ⟨_, rfl⟩
          replace H : (some (strOfNums y101)) = some r := by first | (rw [hy101]; with_reducible exact H) | (have H2_ := (Option.bind_some _ _).symm.trans H; rw [hy101]; with_reducible exact H2_) | (have H2_ := (Option.bind_some _ _).symm.trans H; with_reducible exact H2_) | with_reducible exact H | (rw [hy101]; exact H) | exact H
          have Ny101 := Aside0.mk hy101
          clear hy101
          obtain rfl := Option.some.inj H
          go_enter Tryd.func71, Tryd.ntmps71
          try go_wp2
          have n0_ := Aside0.mk (below_drew1 HB.out)
          clear HB
          have HB := n0_
          clear n0_
          have p5 : 0 ≤ ((ji2) : Int) := of_decide_eq_true (by first | (with_reducible assumption) | assumption)
          have q5 : (ji2) < (16 : Int) := of_decide_eq_true (by first | (with_reducible assumption) | assumption)
          have hx5 := bt_at (⟨#[48, 49, 50, 51, 52, 53, 54, 55, 56, 57, 65, 66, 67, 68, 69, 70]⟩ : ByteArray) (ji2)
          replace p5 := eq_true p5
          replace q5 := eq_true q5
          have p8 : 0 ≤ ((Go.bits .and .u8 a0 15) : Int) := of_decide_eq_true (by first | (with_reducible assumption) | assumption)
          have q8 : (Go.bits .and .u8 a0 15) < (16 : Int) := of_decide_eq_true (by first | (with_reducible assumption) | assumption)
          have hx8 := bt_at (⟨#[48, 49, 50, 51, 52, 53, 54, 55, 56, 57, 65, 66, 67, 68, 69, 70]⟩ : ByteArray) (Go.bits .and .u8 a0 15)
          replace p8 := eq_true p8
          replace q8 := eq_true q8
          refine start_ (n := 9) (S := fun w' => True) (ds := []) #[false, false, false, false, false, false, false, false, false] (by kernel_rfl) rfl rfl trivial (fun hHeld => ?_); refine with_tabW pct_coded.tab1 pct_coded.bits1 (fun HT_ HW_ => ?_)
          generalize w.drew = w9 at HB hHeld ⊢
          refine pure_ (i := 0) (N := some 3) (v := ?_) (a' := ?_) #[true, false, false, false, false, false, false, false, false] rfl rfl (any_of HT_.out (by kernel_rfl)) (fun _ _ _ h => h) (Or.inl ⟨by rfl, ?_⟩) ?_ ?_
          rotate_left
          · intro w'
            go_simp
            with_reducible rfl
          rotate_left
          · simp only [Act.put, List.setIfInBounds_toArray, List.set_cons_zero, List.set_cons_succ, i64_w, i32_w]
            rfl
          refine pure_ (i := 1) (N := some 4) (v := ?_) (a' := ?_) #[true, true, false, false, false, false, false, false, false] rfl rfl (any_of HT_.out (by kernel_rfl)) (fun _ _ _ h => h) (Or.inl ⟨by rfl, ?_⟩) ?_ ?_
          rotate_left
          · intro w'
            go_simp
            with_reducible rfl
          rotate_left
          · simp only [Act.put, List.setIfInBounds_toArray, List.set_cons_zero, List.set_cons_succ, i64_w, i32_w]
            rfl
          refine pure_ (i := 3) (N := some 6) (v := ?_) (a' := ?_) #[true, true, false, true, false, false, false, false, false] rfl rfl (any_of HT_.out (by kernel_rfl)) (fun _ _ _ h => h) (Or.inl ⟨by rfl, ?_⟩) ?_ ?_
          rotate_left
          · intro w'
            go_simp
            with_reducible rfl
          rotate_left
          · simp only [Act.put, List.setIfInBounds_toArray, List.set_cons_zero, List.set_cons_succ, i64_w, i32_w]
            rfl
          refine pure_ (i := 4) (N := some 7) (v := ?_) (a' := ?_) #[true, true, false, true, true, false, false, false, false] rfl rfl (any_of HT_.out (by kernel_rfl)) (fun _ _ _ h => h) (Or.inl ⟨by rfl, ?_⟩) ?_ ?_
          rotate_left
          · intro w'
            go_simp
            with_reducible rfl
          rotate_left
          · simp only [Act.put, List.setIfInBounds_toArray, List.set_cons_zero, List.set_cons_succ, i64_w, i32_w]
            rfl
          refine take_ (i := 2) (N := some 5) (v := ?_) (a' := ?_) #[true, true, true, true, true, false, false, false, false] rfl rfl (take_ofW HT_.out HW_.out (by kernel_rfl)) (fun _ _ _ h => h) (Or.inl ⟨by rfl, ?_⟩) hHeld ?_ ?_
          rotate_left
          · intro w' _
            go_simp
            with_reducible rfl
          rotate_left
          · simp only [Act.put, List.setIfInBounds_toArray, List.set_cons_zero, List.set_cons_succ, i64_w, i32_w]
            rfl
          refine take_ (i := 5) (N := some 8) (v := ?_) (a' := ?_) #[true, true, true, true, true, true, false, false, false] rfl rfl (take_ofW HT_.out HW_.out (by kernel_rfl)) (fun _ _ _ h => h) (Or.inl ⟨by rfl, ?_⟩) hHeld ?_ ?_
          rotate_left
          · intro w' _
            go_simp
            with_reducible rfl
          rotate_left
          · simp only [Act.put, List.setIfInBounds_toArray, List.set_cons_zero, List.set_cons_succ, i64_w, i32_w]
            rfl
          refine one_ (i := 6) (N := some 9) #[true, true, true, true, true, true, true, false, false] rfl rfl (one_of HT_.out (by kernel_rfl)) (by decide) (fun K hK => ?_)
          refine Kd.R_lit_step (Kd.int .u8) _ 5 ?hg (N := 9) ?hd (xs := ([37, bt (⟨#[48, 49, 50, 51, 52, 53, 54, 55, 56, 57, 65, 66, 67, 68, 69, 70]⟩ : ByteArray) (ji2), bt (⟨#[48, 49, 50, 51, 52, 53, 54, 55, 56, 57, 65, 66, 67, 68, 69, 70]⟩ : ByteArray) (Go.bits .and .u8 a0 15)] : List Int)) (inner := [.int .u8 37, .int .u8 (bt (⟨#[48, 49, 50, 51, 52, 53, 54, 55, 56, 57, 65, 66, 67, 68, 69, 70]⟩ : ByteArray) (ji2)), .int .u8 (bt (⟨#[48, 49, 50, 51, 52, 53, 54, 55, 56, 57, 65, 66, 67, 68, 69, 70]⟩ : ByteArray) (Go.bits .and .u8 a0 15))]) (ok := fun _ => True) (okp := fun _ => True) ?hr ?hp (fun _ hk => hk) trivial (Below.refl _ _) (Nat.le_refl _) (by simp) ?_; (case hd => rfl); (case hg => rfl); (case hr => first | (go_simp; done) | (go_simp; rfl)); (case hp => exact (Reps.one (show Kd.M (Kd.int .u8) _ _ _ 37 [.int .u8 37] from rfl) (Reps.one (show Kd.M (Kd.int .u8) _ _ _ (bt (⟨#[48, 49, 50, 51, 52, 53, 54, 55, 56, 57, 65, 66, 67, 68, 69, 70]⟩ : ByteArray) (ji2)) [.int .u8 (bt (⟨#[48, 49, 50, 51, 52, 53, 54, 55, 56, 57, 65, 66, 67, 68, 69, 70]⟩ : ByteArray) (ji2))] from rfl) (Reps.one (show Kd.M (Kd.int .u8) _ _ _ (bt (⟨#[48, 49, 50, 51, 52, 53, 54, 55, 56, 57, 65, 66, 67, 68, 69, 70]⟩ : ByteArray) (Go.bits .and .u8 a0 15)) [.int .u8 (bt (⟨#[48, 49, 50, 51, 52, 53, 54, 55, 56, 57, 65, 66, 67, 68, 69, 70]⟩ : ByteArray) (Go.bits .and .u8 a0 15))] from rfl) (Reps.none _ _)))))
          intro v102 w10 ho11 hb hg_ hnew_
          clear hg_ hnew_
          (first | rw [← Ny101.out] at ho11 | (simp only [Int.reduceToNat] at ho11; rw [← Ny101.out] at ho11))
          have n0_ := Aside0.mk (Kd.R_lower ho11 (below_size (by repeat (first | (with_reducible first | exact HB.out | apply below_alloc | apply pw_below_drewN | apply below_drew1) | exact HB.out))))
          have n1_ := Aside0.mk (below_step (by repeat (first | (with_reducible first | exact HB.out | apply below_alloc | apply pw_below_drewN | apply below_drew1) | exact HB.out)) hb)
          clear HB
          have HO103 := n0_
          have HB := n1_
          clear n0_ n1_
          clear hb ho11
          refine hK.out _ _ trivial (fun hHeld => ?_)
          clear hK K
          refine norm_ (a' := ?_) ?_ ?_
          rotate_left
          · show Act.put _ (some 9) _ = _
            simp only [Act.put, List.setIfInBounds_toArray, List.set_cons_zero, List.set_cons_succ, i64_w, i32_w]
            rfl
          refine one_ (i := 7) (N := some 10) #[true, true, true, true, true, true, true, true, false] rfl rfl (one_of HT_.out (by kernel_rfl)) (by decide) (fun K hK => ?_)
          have hcv12 := own_string (P := Tryd.prog) Tryd.underlying55 Tryd.underlying5 Tryd.underlying9 (Kd.own_of_R HO103.out)
          refine value_ (w1 := ?_) (v := ?_) (by rfl) rfl ?_ ?_
          rotate_left 2
          · go_simp
            constructor
            · rfl
            · rfl
          clear hcv12
          refine hK.out _ _ trivial (fun hHeld => ?_)
          clear hK K
          refine norm_ (a' := ?_) ?_ ?_
          rotate_left
          · show Act.put _ (some 10) _ = _
            simp only [Act.put, List.setIfInBounds_toArray, List.set_cons_zero, List.set_cons_succ, i64_w, i32_w]
            rfl
          refine pure_ (i := 8) (N := some 2) (v := ?_) (a' := ?_) #[true, true, true, true, true, true, true, true, true] rfl rfl (any_of HT_.out (by kernel_rfl)) (fun _ _ _ h => h) (Or.inl ⟨by rfl, ?_⟩) ?_ ?_
          rotate_left
          · intro w'
            go_simp
            with_reducible rfl
          rotate_left
          · simp only [Act.put, List.setIfInBounds_toArray, List.set_cons_zero, List.set_cons_succ, i64_w, i32_w]
            rfl
          refine done_ (done_of HT_.out (by kernel_rfl)) ?_
          try go_wp2
          go_ret
          exact ⟨by first | rfl | (simp [errW_none, errW_some] <;> rfl) | (simp only [← hji2]; first | rfl | (simp [errW_none, errW_some] <;> rfl)) | (simp [*, errW_none, errW_some] <;> rfl) | (simp [wrap64]; done), by repeat (first | (with_reducible first | exact HB.out | apply below_alloc | apply pw_below_drewN | apply below_drew1) | exact HB.out)⟩
        · rw [if_neg c7] at H
          exact absurd H (by simp)
      · rw [if_neg c6] at H
        exact absurd H (by simp)
    · rw [if_neg c4] at H
      exact absurd H (by simp)
  · rw [if_neg c3] at H
    exact absurd H (by simp)

mutual
def pct_value.j0 : Nat → Int → Bool → Option (Int)
  | 0, _, _ => none
  | k + 1, x0, x3 => if x3 = true then (some ((x0 - 48) % 256)) else (if x0 ≥ 97 then (pct_value.j1 k x0 (decide (x0 ≤ 102))) else (pct_value.j1 k x0 false))
def pct_value.j1 : Nat → Int → Bool → Option (Int)
  | 0, _, _ => none
  | k + 1, x0, x13 => if x13 = true then (some (((x0 - 97) % 256) + 10)) else (if x0 ≥ 65 then (if x0 ≤ 70 then (some (((x0 - 65) % 256) + 10)) else (some (-1))) else (some (-1)))
end
def pct_value.f (k : Nat) (a0 : Int) : Option (Int) := if a0 ≥ 48 then (pct_value.j0 k a0 (decide (a0 ≤ 57))) else (pct_value.j0 k a0 false)
theorem pct_value.mono_l : ∀ k, (∀ y0 y1, LeO (pct_value.j0 k y0 y1) (pct_value.j0 (k + 1) y0 y1)) ∧ (∀ y0 y1, LeO (pct_value.j1 k y0 y1) (pct_value.j1 (k + 1) y0 y1))
  | 0 => ⟨fun _ _ r h => by simp [pct_value.j0] at h, fun _ _ r h => by simp [pct_value.j1] at h⟩
  | k + 1 => by
    obtain ⟨ih0, ih1⟩ := pct_value.mono_l k
    refine ⟨?_, ?_⟩
    · intro y0 y1
      unfold pct_value.j0
      repeat' first
      | (with_reducible exact ih0 _ _)
      | (with_reducible exact ih1 _ _)
      | (with_reducible exact LeO.refl _)
      | (with_reducible exact LeO.none _)
      | (with_reducible refine LeO.ite ?_ ?_)
      | (with_reducible refine LeO.bind ?_ (fun _ => ?_))
      | exact ih0 _ _
      | exact ih1 _ _
      | exact LeO.none _
      | refine LeO.ite ?_ ?_
      | refine LeO.bind ?_ (fun _ => ?_)
    · intro y0 y1
      unfold pct_value.j1
      repeat' first
      | (with_reducible exact ih0 _ _)
      | (with_reducible exact ih1 _ _)
      | (with_reducible exact LeO.refl _)
      | (with_reducible exact LeO.none _)
      | (with_reducible refine LeO.ite ?_ ?_)
      | (with_reducible refine LeO.bind ?_ (fun _ => ?_))
      | exact ih0 _ _
      | exact ih1 _ _
      | exact LeO.none _
      | refine LeO.ite ?_ ?_
      | refine LeO.bind ?_ (fun _ => ?_)
theorem pct_value.mono : ∀ a0 k, LeO (pct_value.f k a0) (pct_value.f (k + 1) a0) := by
  intro a0 k
  obtain ⟨ih0, ih1⟩ := pct_value.mono_l k
  unfold pct_value.f
  repeat' first
      | (with_reducible exact ih0 _ _)
      | (with_reducible exact ih1 _ _)
      | (with_reducible exact LeO.refl _)
      | (with_reducible exact LeO.none _)
      | (with_reducible refine LeO.ite ?_ ?_)
      | (with_reducible refine LeO.bind ?_ (fun _ => ?_))
      | exact ih0 _ _
      | exact ih1 _ _
      | exact LeO.none _
      | refine LeO.ite ?_ ?_
      | refine LeO.bind ?_ (fun _ => ?_)
set_option maxHeartbeats 8000000 in
set_option maxRecDepth 100000 in
theorem pct_value.calls (k : Nat) (a0 : Int) (r : Int) (w : World) (h : pct_value.f k a0 = some r) :
    Calls Tryd.prog 87 #[.int .u8 a0] w fun e w' => e = .returned (.int .i64 r) ∧ Drawn0 w w' := by
  have H : (if a0 ≥ 48 then (pct_value.j0 k a0 (decide (a0 ≤ 57))) else (pct_value.j0 k a0 false)) = some r := h
  clear h
  have HC2 := Aside0.mk H
  clear H
  go_enter Tryd.func87, Tryd.ntmps87
  go_upto_region 1 with (fail)
  go_cut [3] (fun v3 wc => ∃ (kq : Nat) (x3_1 : Bool), v3 = .bool x3_1 ∧ Aside0 (pct_value.j0 kq a0 x3_1 = some r) ∧ Aside0 (kq ≤ k) ∧ Drawn0 w wc)
  case first =>
    have H := HC2.out
    clear HC2
    by_cases c3 : a0 ≥ 48
    · rw [if_pos c3] at H
      have c3b0 : decide (48 ≤ a0) = true := decide_eq_true c3
      clear c3
      (first | rw [c3b0] | (simp only [i64_w, i32_w]; rw [c3b0]) | skip)
      have H' := Aside0.mk H
      clear H
      go_wp2
      go_meet
      case rel => exact ⟨_, (decide (a0 ≤ 57)), (by first | rfl | (simp; done) | (simp [*]; done)), H', ⟨by first | omega | exact Nat.le_refl _⟩, by repeat (first | exact Drawn0.refl _ | apply Drawn0.step)⟩
    · rw [if_neg c3] at H
      have c3b0 : decide (48 ≤ a0) = false := decide_eq_false c3
      clear c3
      (first | rw [c3b0] | (simp only [i64_w, i32_w]; rw [c3b0]) | skip)
      have H' := Aside0.mk H
      clear H
      go_wp2
      go_meet
      case rel => exact ⟨_, (false), (by first | rfl | (simp; done) | (simp [*]; done)), H', ⟨by first | omega | exact Nat.le_refl _⟩, by repeat (first | exact Drawn0.refl _ | apply Drawn0.step)⟩
  case rest =>
    clear HC2
    try clear p2
    try clear c3
    try clear c3b0
    obtain ⟨kq, x3_1, rfl, HA, HJ1, ⟨mc1, rfl⟩⟩ := hcut
    cases kq with
    | zero => exact absurd HA.out (by simp [pct_value.j0])
    | succ kj1 =>
      have H := HA.out
      clear HA
      simp only [pct_value.j0] at H
      by_cases c4 : x3_1 = true
      · subst c4
        have H1 : (some ((a0 - 48) % 256)) = some r := by rw [if_pos rfl] at H; exact H
        clear H
        have H := H1
        clear H1
        obtain rfl := Option.some.inj H
        go_wp2
        go_ret
        exact ⟨by first | rfl | (simp; done) | (simp [*]; done), by repeat (first | exact Drawn0.refl _ | apply Drawn0.step)⟩
      · replace c4 := Bool.eq_false_iff.mpr c4
        subst c4
        have H1 : (if a0 ≥ 97 then (pct_value.j1 kj1 a0 (decide (a0 ≤ 102))) else (pct_value.j1 kj1 a0 false)) = some r := by rw [if_neg (show ¬ (false = true) by decide)] at H; exact H
        clear H
        have H := H1
        clear H1
        have HC5 := Aside0.mk H
        clear H
        go_upto_region 3 with (fail)
        go_cut [13] (fun v13 wc => ∃ (kq : Nat) (x13_4 : Bool), v13 = .bool x13_4 ∧ Aside0 (pct_value.j1 kq a0 x13_4 = some r) ∧ Aside0 (kq ≤ kj1) ∧ Drawn0 w wc)
        case first =>
          have H := HC5.out
          clear HC5
          by_cases c6 : a0 ≥ 97
          · rw [if_pos c6] at H
            have c6b0 : decide (97 ≤ a0) = true := decide_eq_true c6
            clear c6
            (first | rw [c6b0] | (simp only [i64_w, i32_w]; rw [c6b0]) | skip)
            have H' := Aside0.mk H
            clear H
            go_wp2
            go_meet
            case rel => exact ⟨_, (decide (a0 ≤ 102)), (by first | rfl | (simp; done) | (simp [*]; done)), H', ⟨by have := HJ1.out; first | omega | exact Nat.le_refl _⟩, by repeat (first | exact Drawn0.refl _ | apply Drawn0.step)⟩
          · rw [if_neg c6] at H
            have c6b0 : decide (97 ≤ a0) = false := decide_eq_false c6
            clear c6
            (first | rw [c6b0] | (simp only [i64_w, i32_w]; rw [c6b0]) | skip)
            have H' := Aside0.mk H
            clear H
            go_wp2
            go_meet
            case rel => exact ⟨_, (false), (by first | rfl | (simp; done) | (simp [*]; done)), H', ⟨by have := HJ1.out; first | omega | exact Nat.le_refl _⟩, by repeat (first | exact Drawn0.refl _ | apply Drawn0.step)⟩
        case rest =>
          clear HC5
          try clear c1
          try clear p2
          try clear c3
          try clear c3b0
          try clear c4
          try clear c6
          try clear c6b0
          try clear p2
          obtain ⟨kq, x13_4, rfl, HA, HJ4, ⟨mc4, rfl⟩⟩ := hcut
          cases kq with
          | zero => exact absurd HA.out (by simp [pct_value.j1])
          | succ kj4 =>
            have H := HA.out
            clear HA
            simp only [pct_value.j1] at H
            by_cases c7 : x13_4 = true
            · subst c7
              have H1 : (some (((a0 - 97) % 256) + 10)) = some r := by rw [if_pos rfl] at H; exact H
              clear H
              have H := H1
              clear H1
              obtain rfl := Option.some.inj H
              go_wp2
              go_ret
              exact ⟨by first | rfl | (simp; done) | (simp [*]; done), by repeat (first | exact Drawn0.refl _ | apply Drawn0.step)⟩
            · replace c7 := Bool.eq_false_iff.mpr c7
              subst c7
              have H1 : (if a0 ≥ 65 then (if a0 ≤ 70 then (some (((a0 - 65) % 256) + 10)) else (some (-1))) else (some (-1))) = some r := by rw [if_neg (show ¬ (false = true) by decide)] at H; exact H
              clear H
              have H := H1
              clear H1
              by_cases c8 : a0 ≥ 65
              · rw [if_pos c8] at H
                have c8b0 : decide (65 ≤ a0) = true := decide_eq_true c8
                clear c8
                by_cases c9 : a0 ≤ 70
                · rw [if_pos c9] at H
                  have c9b0 : decide (a0 ≤ 70) = true := decide_eq_true c9
                  clear c9
                  obtain rfl := Option.some.inj H
                  go_wp2
                  go_ret
                  exact ⟨by first | rfl | (simp; done) | (simp [*]; done), by repeat (first | exact Drawn0.refl _ | apply Drawn0.step)⟩
                · rw [if_neg c9] at H
                  have c9b0 : decide (a0 ≤ 70) = false := decide_eq_false c9
                  clear c9
                  obtain rfl := Option.some.inj H
                  go_wp2
                  go_ret
                  exact ⟨by first | rfl | (simp; done) | (simp [*]; done), by repeat (first | exact Drawn0.refl _ | apply Drawn0.step)⟩
              · rw [if_neg c8] at H
                have c8b0 : decide (65 ≤ a0) = false := decide_eq_false c8
                clear c8
                obtain rfl := Option.some.inj H
                go_wp2
                go_ret
                exact ⟨by first | rfl | (simp; done) | (simp [*]; done), by repeat (first | exact Drawn0.refl _ | apply Drawn0.step)⟩

def pct_triple.f (k : Nat) (a0 : ByteArray) : Option (Int × Bool) := if (a0.size : Int) < 3 then (some (0, false)) else (if 1 < (a0.size : Int) then ((pct_value.f k (bt a0 1)).bind fun t104 => (if 2 < (a0.size : Int) then ((pct_value.f k (bt a0 2)).bind fun t105 => (if t104 ≥ 0 then (some ((Go.bits .or .i64 (wrap64 (t104 * 16)) (Go.bits .and .i64 t105 15)) % 256, decide (t105 ≥ 0))) else (some ((Go.bits .or .i64 (wrap64 (t104 * 16)) (Go.bits .and .i64 t105 15)) % 256, false)))) else (none))) else (none))
set_option maxHeartbeats 8000000 in
set_option maxRecDepth 100000 in
theorem pct_triple.calls (k : Nat) (a0 : ByteArray) (r1 : Int) (r2 : Bool) (w : World) (h : pct_triple.f k a0 = some (r1, r2)) :
    Calls Tryd.prog 67 #[.string a0] w fun e w' => e = .returned (.tuple #[.int .u8 r1, .bool r2]) ∧ Drawn0 w w' := by
  have H : (if (a0.size : Int) < 3 then (some (0, false)) else (if 1 < (a0.size : Int) then ((pct_value.f k (bt a0 1)).bind fun t104 => (if 2 < (a0.size : Int) then ((pct_value.f k (bt a0 2)).bind fun t105 => (if t104 ≥ 0 then (some ((Go.bits .or .i64 (wrap64 (t104 * 16)) (Go.bits .and .i64 t105 15)) % 256, decide (t105 ≥ 0))) else (some ((Go.bits .or .i64 (wrap64 (t104 * 16)) (Go.bits .and .i64 t105 15)) % 256, false)))) else (none))) else (none))) = some (r1, r2) := h
  clear h
  by_cases c2 : (a0.size : Int) < 3
  · rw [if_pos c2] at H
    have c2b0 : decide ((a0.size : Int) < 3) = true := decide_eq_true c2
    have c2b1 : decide (a0.size < 3) = true := decide_eq_true (by omega)
    clear c2
    simp only [Option.some.injEq, Prod.mk.injEq] at H
    obtain ⟨rfl, rfl⟩ := H
    go_enter Tryd.func67, Tryd.ntmps67
    go_wp2
    repeat (go_quiet (fail); try go_wp2)
    go_ret2
    exact ⟨by first | rfl | (simp; done) | (simp [*]; done), by repeat (first | exact Drawn0.refl _ | apply Drawn0.step)⟩
  · rw [if_neg c2] at H
    have c2b0 : decide ((a0.size : Int) < 3) = false := decide_eq_false c2
    have c2b1 : decide (a0.size < 3) = false := decide_eq_false (by omega)
    clear c2
    by_cases c3 : 1 < (a0.size : Int)
    · rw [if_pos c3] at H
      have c3b0 : decide (1 < (a0.size : Int)) = true := decide_eq_true c3
      have c3b1 : decide (1 < a0.size) = true := decide_eq_true (by omega)
      clear c3
      replace H := Option.bind_eq_some_iff.mp H
      obtain ⟨t104, A50, H⟩ := H
      replace H : (if 2 < (a0.size : Int) then ((pct_value.f k (bt a0 2)).bind fun t105 => (if t104 ≥ 0 then (some ((Go.bits .or .i64 (wrap64 (t104 * 16)) (Go.bits .and .i64 t105 15)) % 256, decide (t105 ≥ 0))) else (some ((Go.bits .or .i64 (wrap64 (t104 * 16)) (Go.bits .and .i64 t105 15)) % 256, false)))) else (none)) = some (r1, r2) := H
      have A5 := Aside0.mk A50
      clear A50
      by_cases c6 : 2 < (a0.size : Int)
      · rw [if_pos c6] at H
        have c6b0 : decide (2 < (a0.size : Int)) = true := decide_eq_true c6
        have c6b1 : decide (2 < a0.size) = true := decide_eq_true (by omega)
        clear c6
        replace H := Option.bind_eq_some_iff.mp H
        obtain ⟨t105, A80, H⟩ := H
        replace H : (if t104 ≥ 0 then (some ((Go.bits .or .i64 (wrap64 (t104 * 16)) (Go.bits .and .i64 t105 15)) % 256, decide (t105 ≥ 0))) else (some ((Go.bits .or .i64 (wrap64 (t104 * 16)) (Go.bits .and .i64 t105 15)) % 256, false))) = some (r1, r2) := H
        have A8 := Aside0.mk A80
        clear A80
        by_cases c9 : t104 ≥ 0
        · rw [if_pos c9] at H
          have c9b0 : decide (0 ≤ t104) = true := decide_eq_true c9
          clear c9
          simp only [Option.some.injEq, Prod.mk.injEq] at H
          obtain ⟨rfl, rfl⟩ := H
          have p4 : 0 ≤ (1 : Int) := (by omega)
          have q4 : 1 < a0.size := (by have : (1 : Int) < (a0.size : Int) := of_decide_eq_true (by first | (with_reducible assumption) | assumption); omega)
          have hx4 : ∀ h : 1 < a0.size, ((a0[1]'h).toNat : Int) = bt a0 1 := bt_at a0 1
          clear p4
          have qi4 : (1 < (a0.size : Int)) = True := eq_true (of_decide_eq_true (by first | (with_reducible assumption) | assumption))
          replace q4 := eq_true q4
          go_enter Tryd.func67, Tryd.ntmps67
          go_wp2_with (first | (go_at_call 87; (with_reducible refine (pct_value.calls k (bt a0 1) t104 _ A5.out).mono ?_); rintro e w' ⟨rfl, ⟨nd, rfl⟩⟩; (try first | exact ⟨rfl, _, World.drewN_drewN _ _ _⟩ | exact ⟨rfl, _, Eq.trans (World.drewN_drewN _ _ _) (congrArg (World.drewN _) (Nat.add_assoc _ _ _))⟩); have p7 : 0 ≤ (2 : Int) := (by omega); have q7 : 2 < a0.size := (by have : (2 : Int) < (a0.size : Int) := of_decide_eq_true (by first | (with_reducible assumption) | assumption); omega); have hx7 : ∀ h : 2 < a0.size, ((a0[2]'h).toNat : Int) = bt a0 2 := bt_at a0 2; clear p7; have qi7 : (2 < (a0.size : Int)) = True := eq_true (of_decide_eq_true (by first | (with_reducible assumption) | assumption)); replace q7 := eq_true q7) | (go_at_call 87; (with_reducible refine (pct_value.calls k (bt a0 2) t105 _ A8.out).mono ?_); rintro e w' ⟨rfl, ⟨nd, rfl⟩⟩; (try first | exact ⟨rfl, _, World.drewN_drewN _ _ _⟩ | exact ⟨rfl, _, Eq.trans (World.drewN_drewN _ _ _) (congrArg (World.drewN _) (Nat.add_assoc _ _ _))⟩)))
          repeat (go_quiet (first | (go_at_call 87; (with_reducible refine (pct_value.calls k (bt a0 1) t104 _ A5.out).mono ?_); rintro e w' ⟨rfl, ⟨nd, rfl⟩⟩; (try first | exact ⟨rfl, _, World.drewN_drewN _ _ _⟩ | exact ⟨rfl, _, Eq.trans (World.drewN_drewN _ _ _) (congrArg (World.drewN _) (Nat.add_assoc _ _ _))⟩); have p7 : 0 ≤ (2 : Int) := (by omega); have q7 : 2 < a0.size := (by have : (2 : Int) < (a0.size : Int) := of_decide_eq_true (by first | (with_reducible assumption) | assumption); omega); have hx7 : ∀ h : 2 < a0.size, ((a0[2]'h).toNat : Int) = bt a0 2 := bt_at a0 2; clear p7; have qi7 : (2 < (a0.size : Int)) = True := eq_true (of_decide_eq_true (by first | (with_reducible assumption) | assumption)); replace q7 := eq_true q7) | (go_at_call 87; (with_reducible refine (pct_value.calls k (bt a0 2) t105 _ A8.out).mono ?_); rintro e w' ⟨rfl, ⟨nd, rfl⟩⟩; (try first | exact ⟨rfl, _, World.drewN_drewN _ _ _⟩ | exact ⟨rfl, _, Eq.trans (World.drewN_drewN _ _ _) (congrArg (World.drewN _) (Nat.add_assoc _ _ _))⟩))); try go_wp2_with (first | (go_at_call 87; (with_reducible refine (pct_value.calls k (bt a0 1) t104 _ A5.out).mono ?_); rintro e w' ⟨rfl, ⟨nd, rfl⟩⟩; (try first | exact ⟨rfl, _, World.drewN_drewN _ _ _⟩ | exact ⟨rfl, _, Eq.trans (World.drewN_drewN _ _ _) (congrArg (World.drewN _) (Nat.add_assoc _ _ _))⟩); have p7 : 0 ≤ (2 : Int) := (by omega); have q7 : 2 < a0.size := (by have : (2 : Int) < (a0.size : Int) := of_decide_eq_true (by first | (with_reducible assumption) | assumption); omega); have hx7 : ∀ h : 2 < a0.size, ((a0[2]'h).toNat : Int) = bt a0 2 := bt_at a0 2; clear p7; have qi7 : (2 < (a0.size : Int)) = True := eq_true (of_decide_eq_true (by first | (with_reducible assumption) | assumption)); replace q7 := eq_true q7) | (go_at_call 87; (with_reducible refine (pct_value.calls k (bt a0 2) t105 _ A8.out).mono ?_); rintro e w' ⟨rfl, ⟨nd, rfl⟩⟩; (try first | exact ⟨rfl, _, World.drewN_drewN _ _ _⟩ | exact ⟨rfl, _, Eq.trans (World.drewN_drewN _ _ _) (congrArg (World.drewN _) (Nat.add_assoc _ _ _))⟩))))
          go_ret2
          exact ⟨by first | rfl | (simp; done) | (simp [*]; done), by repeat (first | exact Drawn0.refl _ | apply Drawn0.step)⟩
        · rw [if_neg c9] at H
          have c9b0 : decide (0 ≤ t104) = false := decide_eq_false c9
          clear c9
          simp only [Option.some.injEq, Prod.mk.injEq] at H
          obtain ⟨rfl, rfl⟩ := H
          have p4 : 0 ≤ (1 : Int) := (by omega)
          have q4 : 1 < a0.size := (by have : (1 : Int) < (a0.size : Int) := of_decide_eq_true (by first | (with_reducible assumption) | assumption); omega)
          have hx4 : ∀ h : 1 < a0.size, ((a0[1]'h).toNat : Int) = bt a0 1 := bt_at a0 1
          clear p4
          have qi4 : (1 < (a0.size : Int)) = True := eq_true (of_decide_eq_true (by first | (with_reducible assumption) | assumption))
          replace q4 := eq_true q4
          go_enter Tryd.func67, Tryd.ntmps67
          go_wp2_with (first | (go_at_call 87; (with_reducible refine (pct_value.calls k (bt a0 1) t104 _ A5.out).mono ?_); rintro e w' ⟨rfl, ⟨nd, rfl⟩⟩; (try first | exact ⟨rfl, _, World.drewN_drewN _ _ _⟩ | exact ⟨rfl, _, Eq.trans (World.drewN_drewN _ _ _) (congrArg (World.drewN _) (Nat.add_assoc _ _ _))⟩); have p7 : 0 ≤ (2 : Int) := (by omega); have q7 : 2 < a0.size := (by have : (2 : Int) < (a0.size : Int) := of_decide_eq_true (by first | (with_reducible assumption) | assumption); omega); have hx7 : ∀ h : 2 < a0.size, ((a0[2]'h).toNat : Int) = bt a0 2 := bt_at a0 2; clear p7; have qi7 : (2 < (a0.size : Int)) = True := eq_true (of_decide_eq_true (by first | (with_reducible assumption) | assumption)); replace q7 := eq_true q7) | (go_at_call 87; (with_reducible refine (pct_value.calls k (bt a0 2) t105 _ A8.out).mono ?_); rintro e w' ⟨rfl, ⟨nd, rfl⟩⟩; (try first | exact ⟨rfl, _, World.drewN_drewN _ _ _⟩ | exact ⟨rfl, _, Eq.trans (World.drewN_drewN _ _ _) (congrArg (World.drewN _) (Nat.add_assoc _ _ _))⟩)))
          repeat (go_quiet (first | (go_at_call 87; (with_reducible refine (pct_value.calls k (bt a0 1) t104 _ A5.out).mono ?_); rintro e w' ⟨rfl, ⟨nd, rfl⟩⟩; (try first | exact ⟨rfl, _, World.drewN_drewN _ _ _⟩ | exact ⟨rfl, _, Eq.trans (World.drewN_drewN _ _ _) (congrArg (World.drewN _) (Nat.add_assoc _ _ _))⟩); have p7 : 0 ≤ (2 : Int) := (by omega); have q7 : 2 < a0.size := (by have : (2 : Int) < (a0.size : Int) := of_decide_eq_true (by first | (with_reducible assumption) | assumption); omega); have hx7 : ∀ h : 2 < a0.size, ((a0[2]'h).toNat : Int) = bt a0 2 := bt_at a0 2; clear p7; have qi7 : (2 < (a0.size : Int)) = True := eq_true (of_decide_eq_true (by first | (with_reducible assumption) | assumption)); replace q7 := eq_true q7) | (go_at_call 87; (with_reducible refine (pct_value.calls k (bt a0 2) t105 _ A8.out).mono ?_); rintro e w' ⟨rfl, ⟨nd, rfl⟩⟩; (try first | exact ⟨rfl, _, World.drewN_drewN _ _ _⟩ | exact ⟨rfl, _, Eq.trans (World.drewN_drewN _ _ _) (congrArg (World.drewN _) (Nat.add_assoc _ _ _))⟩))); try go_wp2_with (first | (go_at_call 87; (with_reducible refine (pct_value.calls k (bt a0 1) t104 _ A5.out).mono ?_); rintro e w' ⟨rfl, ⟨nd, rfl⟩⟩; (try first | exact ⟨rfl, _, World.drewN_drewN _ _ _⟩ | exact ⟨rfl, _, Eq.trans (World.drewN_drewN _ _ _) (congrArg (World.drewN _) (Nat.add_assoc _ _ _))⟩); have p7 : 0 ≤ (2 : Int) := (by omega); have q7 : 2 < a0.size := (by have : (2 : Int) < (a0.size : Int) := of_decide_eq_true (by first | (with_reducible assumption) | assumption); omega); have hx7 : ∀ h : 2 < a0.size, ((a0[2]'h).toNat : Int) = bt a0 2 := bt_at a0 2; clear p7; have qi7 : (2 < (a0.size : Int)) = True := eq_true (of_decide_eq_true (by first | (with_reducible assumption) | assumption)); replace q7 := eq_true q7) | (go_at_call 87; (with_reducible refine (pct_value.calls k (bt a0 2) t105 _ A8.out).mono ?_); rintro e w' ⟨rfl, ⟨nd, rfl⟩⟩; (try first | exact ⟨rfl, _, World.drewN_drewN _ _ _⟩ | exact ⟨rfl, _, Eq.trans (World.drewN_drewN _ _ _) (congrArg (World.drewN _) (Nat.add_assoc _ _ _))⟩))))
          go_ret2
          exact ⟨by first | rfl | (simp; done) | (simp [*]; done), by repeat (first | exact Drawn0.refl _ | apply Drawn0.step)⟩
      · rw [if_neg c6] at H
        exact absurd H (by simp)
    · rw [if_neg c3] at H
      exact absurd H (by simp)

def pct_plain.f (a0 : Int) : Option (Bool) := if a0 ≥ 97 then (if a0 ≤ 122 then (some true) else (if a0 ≥ 65 then (if a0 ≤ 90 then (some true) else (if a0 ≥ 48 then (if a0 ≤ 57 then (some true) else (if a0 < 128 then ((strings_ContainsRune.f (⟨#[45, 46, 95, 126]⟩ : ByteArray) a0).bind fun t106 => (some t106)) else (some false))) else (if a0 < 128 then ((strings_ContainsRune.f (⟨#[45, 46, 95, 126]⟩ : ByteArray) a0).bind fun t107 => (some t107)) else (some false)))) else (if a0 ≥ 48 then (if a0 ≤ 57 then (some true) else (if a0 < 128 then ((strings_ContainsRune.f (⟨#[45, 46, 95, 126]⟩ : ByteArray) a0).bind fun t108 => (some t108)) else (some false))) else (if a0 < 128 then ((strings_ContainsRune.f (⟨#[45, 46, 95, 126]⟩ : ByteArray) a0).bind fun t109 => (some t109)) else (some false))))) else (if a0 ≥ 65 then (if a0 ≤ 90 then (some true) else (if a0 ≥ 48 then (if a0 ≤ 57 then (some true) else (if a0 < 128 then ((strings_ContainsRune.f (⟨#[45, 46, 95, 126]⟩ : ByteArray) a0).bind fun t110 => (some t110)) else (some false))) else (if a0 < 128 then ((strings_ContainsRune.f (⟨#[45, 46, 95, 126]⟩ : ByteArray) a0).bind fun t111 => (some t111)) else (some false)))) else (if a0 ≥ 48 then (if a0 ≤ 57 then (some true) else (if a0 < 128 then ((strings_ContainsRune.f (⟨#[45, 46, 95, 126]⟩ : ByteArray) a0).bind fun t112 => (some t112)) else (some false))) else (if a0 < 128 then ((strings_ContainsRune.f (⟨#[45, 46, 95, 126]⟩ : ByteArray) a0).bind fun t113 => (some t113)) else (some false))))
set_option maxHeartbeats 8000000 in
set_option maxRecDepth 100000 in
theorem pct_plain.calls (a0 : Int) (r : Bool) (w : World) (h : pct_plain.f a0 = some r) :
    Calls Tryd.prog 68 #[.int .i32 a0] w fun e w' => e = .returned (.bool r) ∧ Drawn0 w w' := by
  have H : (if a0 ≥ 97 then (if a0 ≤ 122 then (some true) else (if a0 ≥ 65 then (if a0 ≤ 90 then (some true) else (if a0 ≥ 48 then (if a0 ≤ 57 then (some true) else (if a0 < 128 then ((strings_ContainsRune.f (⟨#[45, 46, 95, 126]⟩ : ByteArray) a0).bind fun t106 => (some t106)) else (some false))) else (if a0 < 128 then ((strings_ContainsRune.f (⟨#[45, 46, 95, 126]⟩ : ByteArray) a0).bind fun t107 => (some t107)) else (some false)))) else (if a0 ≥ 48 then (if a0 ≤ 57 then (some true) else (if a0 < 128 then ((strings_ContainsRune.f (⟨#[45, 46, 95, 126]⟩ : ByteArray) a0).bind fun t108 => (some t108)) else (some false))) else (if a0 < 128 then ((strings_ContainsRune.f (⟨#[45, 46, 95, 126]⟩ : ByteArray) a0).bind fun t109 => (some t109)) else (some false))))) else (if a0 ≥ 65 then (if a0 ≤ 90 then (some true) else (if a0 ≥ 48 then (if a0 ≤ 57 then (some true) else (if a0 < 128 then ((strings_ContainsRune.f (⟨#[45, 46, 95, 126]⟩ : ByteArray) a0).bind fun t110 => (some t110)) else (some false))) else (if a0 < 128 then ((strings_ContainsRune.f (⟨#[45, 46, 95, 126]⟩ : ByteArray) a0).bind fun t111 => (some t111)) else (some false)))) else (if a0 ≥ 48 then (if a0 ≤ 57 then (some true) else (if a0 < 128 then ((strings_ContainsRune.f (⟨#[45, 46, 95, 126]⟩ : ByteArray) a0).bind fun t112 => (some t112)) else (some false))) else (if a0 < 128 then ((strings_ContainsRune.f (⟨#[45, 46, 95, 126]⟩ : ByteArray) a0).bind fun t113 => (some t113)) else (some false))))) = some r := h
  clear h
  by_cases c2 : a0 ≥ 97
  · rw [if_pos c2] at H
    have c2b0 : decide (97 ≤ a0) = true := decide_eq_true c2
    clear c2
    by_cases c3 : a0 ≤ 122
    · rw [if_pos c3] at H
      have c3b0 : decide (a0 ≤ 122) = true := decide_eq_true c3
      clear c3
      obtain rfl := Option.some.inj H
      go_enter Tryd.func68, Tryd.ntmps68
      go_wp2
      go_ret
      exact ⟨by first | rfl | (simp; done) | (simp [*]; done), by repeat (first | exact Drawn0.refl _ | apply Drawn0.step)⟩
    · rw [if_neg c3] at H
      have c3b0 : decide (a0 ≤ 122) = false := decide_eq_false c3
      clear c3
      by_cases c4 : a0 ≥ 65
      · rw [if_pos c4] at H
        have c4b0 : decide (65 ≤ a0) = true := decide_eq_true c4
        clear c4
        by_cases c5 : a0 ≤ 90
        · rw [if_pos c5] at H
          have c5b0 : decide (a0 ≤ 90) = true := decide_eq_true c5
          clear c5
          obtain rfl := Option.some.inj H
          go_enter Tryd.func68, Tryd.ntmps68
          go_wp2
          go_ret
          exact ⟨by first | rfl | (simp; done) | (simp [*]; done), by repeat (first | exact Drawn0.refl _ | apply Drawn0.step)⟩
        · rw [if_neg c5] at H
          have c5b0 : decide (a0 ≤ 90) = false := decide_eq_false c5
          clear c5
          by_cases c6 : a0 ≥ 48
          · rw [if_pos c6] at H
            have c6b0 : decide (48 ≤ a0) = true := decide_eq_true c6
            clear c6
            by_cases c7 : a0 ≤ 57
            · rw [if_pos c7] at H
              have c7b0 : decide (a0 ≤ 57) = true := decide_eq_true c7
              clear c7
              obtain rfl := Option.some.inj H
              go_enter Tryd.func68, Tryd.ntmps68
              go_wp2
              go_ret
              exact ⟨by first | rfl | (simp; done) | (simp [*]; done), by repeat (first | exact Drawn0.refl _ | apply Drawn0.step)⟩
            · rw [if_neg c7] at H
              have c7b0 : decide (a0 ≤ 57) = false := decide_eq_false c7
              clear c7
              by_cases c8 : a0 < 128
              · rw [if_pos c8] at H
                have c8b0 : decide (a0 < 128) = true := decide_eq_true c8
                clear c8
                replace H := Option.bind_eq_some_iff.mp H
                obtain ⟨t106, A90, H⟩ := H
                replace H : (some t106) = some r := H
                have A9 := Aside0.mk A90
                clear A90
                obtain rfl := Option.some.inj H
                go_enter Tryd.func68, Tryd.ntmps68
                go_wp2_with (first | (go_at_call 72; (with_reducible refine (strings_ContainsRune.calls (⟨#[45, 46, 95, 126]⟩ : ByteArray) a0 t106 _ A9.out).mono ?_); rintro e w' ⟨rfl, ⟨nd, rfl⟩⟩))
                go_ret
                exact ⟨by first | rfl | (simp; done) | (simp [*]; done), by repeat (first | exact Drawn0.refl _ | apply Drawn0.step)⟩
              · rw [if_neg c8] at H
                have c8b0 : decide (a0 < 128) = false := decide_eq_false c8
                clear c8
                obtain rfl := Option.some.inj H
                go_enter Tryd.func68, Tryd.ntmps68
                go_wp2
                go_ret
                exact ⟨by first | rfl | (simp; done) | (simp [*]; done), by repeat (first | exact Drawn0.refl _ | apply Drawn0.step)⟩
          · rw [if_neg c6] at H
            have c6b0 : decide (48 ≤ a0) = false := decide_eq_false c6
            clear c6
            by_cases c10 : a0 < 128
            · rw [if_pos c10] at H
              have c10b0 : decide (a0 < 128) = true := decide_eq_true c10
              clear c10
              replace H := Option.bind_eq_some_iff.mp H
              obtain ⟨t107, A110, H⟩ := H
              replace H : (some t107) = some r := H
              have A11 := Aside0.mk A110
              clear A110
              obtain rfl := Option.some.inj H
              go_enter Tryd.func68, Tryd.ntmps68
              go_wp2_with (first | (go_at_call 72; (with_reducible refine (strings_ContainsRune.calls (⟨#[45, 46, 95, 126]⟩ : ByteArray) a0 t107 _ A11.out).mono ?_); rintro e w' ⟨rfl, ⟨nd, rfl⟩⟩))
              go_ret
              exact ⟨by first | rfl | (simp; done) | (simp [*]; done), by repeat (first | exact Drawn0.refl _ | apply Drawn0.step)⟩
            · rw [if_neg c10] at H
              have c10b0 : decide (a0 < 128) = false := decide_eq_false c10
              clear c10
              obtain rfl := Option.some.inj H
              go_enter Tryd.func68, Tryd.ntmps68
              go_wp2
              go_ret
              exact ⟨by first | rfl | (simp; done) | (simp [*]; done), by repeat (first | exact Drawn0.refl _ | apply Drawn0.step)⟩
      · rw [if_neg c4] at H
        have c4b0 : decide (65 ≤ a0) = false := decide_eq_false c4
        clear c4
        by_cases c12 : a0 ≥ 48
        · rw [if_pos c12] at H
          have c12b0 : decide (48 ≤ a0) = true := decide_eq_true c12
          clear c12
          by_cases c13 : a0 ≤ 57
          · rw [if_pos c13] at H
            have c13b0 : decide (a0 ≤ 57) = true := decide_eq_true c13
            clear c13
            obtain rfl := Option.some.inj H
            go_enter Tryd.func68, Tryd.ntmps68
            go_wp2
            go_ret
            exact ⟨by first | rfl | (simp; done) | (simp [*]; done), by repeat (first | exact Drawn0.refl _ | apply Drawn0.step)⟩
          · rw [if_neg c13] at H
            have c13b0 : decide (a0 ≤ 57) = false := decide_eq_false c13
            clear c13
            by_cases c14 : a0 < 128
            · rw [if_pos c14] at H
              have c14b0 : decide (a0 < 128) = true := decide_eq_true c14
              clear c14
              replace H := Option.bind_eq_some_iff.mp H
              obtain ⟨t108, A150, H⟩ := H
              replace H : (some t108) = some r := H
              have A15 := Aside0.mk A150
              clear A150
              obtain rfl := Option.some.inj H
              go_enter Tryd.func68, Tryd.ntmps68
              go_wp2_with (first | (go_at_call 72; (with_reducible refine (strings_ContainsRune.calls (⟨#[45, 46, 95, 126]⟩ : ByteArray) a0 t108 _ A15.out).mono ?_); rintro e w' ⟨rfl, ⟨nd, rfl⟩⟩))
              go_ret
              exact ⟨by first | rfl | (simp; done) | (simp [*]; done), by repeat (first | exact Drawn0.refl _ | apply Drawn0.step)⟩
            · rw [if_neg c14] at H
              have c14b0 : decide (a0 < 128) = false := decide_eq_false c14
              clear c14
              obtain rfl := Option.some.inj H
              go_enter Tryd.func68, Tryd.ntmps68
              go_wp2
              go_ret
              exact ⟨by first | rfl | (simp; done) | (simp [*]; done), by repeat (first | exact Drawn0.refl _ | apply Drawn0.step)⟩
        · rw [if_neg c12] at H
          have c12b0 : decide (48 ≤ a0) = false := decide_eq_false c12
          clear c12
          by_cases c16 : a0 < 128
          · rw [if_pos c16] at H
            have c16b0 : decide (a0 < 128) = true := decide_eq_true c16
            clear c16
            replace H := Option.bind_eq_some_iff.mp H
            obtain ⟨t109, A170, H⟩ := H
            replace H : (some t109) = some r := H
            have A17 := Aside0.mk A170
            clear A170
            obtain rfl := Option.some.inj H
            go_enter Tryd.func68, Tryd.ntmps68
            go_wp2_with (first | (go_at_call 72; (with_reducible refine (strings_ContainsRune.calls (⟨#[45, 46, 95, 126]⟩ : ByteArray) a0 t109 _ A17.out).mono ?_); rintro e w' ⟨rfl, ⟨nd, rfl⟩⟩))
            go_ret
            exact ⟨by first | rfl | (simp; done) | (simp [*]; done), by repeat (first | exact Drawn0.refl _ | apply Drawn0.step)⟩
          · rw [if_neg c16] at H
            have c16b0 : decide (a0 < 128) = false := decide_eq_false c16
            clear c16
            obtain rfl := Option.some.inj H
            go_enter Tryd.func68, Tryd.ntmps68
            go_wp2
            go_ret
            exact ⟨by first | rfl | (simp; done) | (simp [*]; done), by repeat (first | exact Drawn0.refl _ | apply Drawn0.step)⟩
  · rw [if_neg c2] at H
    have c2b0 : decide (97 ≤ a0) = false := decide_eq_false c2
    clear c2
    by_cases c18 : a0 ≥ 65
    · rw [if_pos c18] at H
      have c18b0 : decide (65 ≤ a0) = true := decide_eq_true c18
      clear c18
      by_cases c19 : a0 ≤ 90
      · rw [if_pos c19] at H
        have c19b0 : decide (a0 ≤ 90) = true := decide_eq_true c19
        clear c19
        obtain rfl := Option.some.inj H
        go_enter Tryd.func68, Tryd.ntmps68
        go_wp2
        go_ret
        exact ⟨by first | rfl | (simp; done) | (simp [*]; done), by repeat (first | exact Drawn0.refl _ | apply Drawn0.step)⟩
      · rw [if_neg c19] at H
        have c19b0 : decide (a0 ≤ 90) = false := decide_eq_false c19
        clear c19
        by_cases c20 : a0 ≥ 48
        · rw [if_pos c20] at H
          have c20b0 : decide (48 ≤ a0) = true := decide_eq_true c20
          clear c20
          by_cases c21 : a0 ≤ 57
          · rw [if_pos c21] at H
            have c21b0 : decide (a0 ≤ 57) = true := decide_eq_true c21
            clear c21
            obtain rfl := Option.some.inj H
            go_enter Tryd.func68, Tryd.ntmps68
            go_wp2
            go_ret
            exact ⟨by first | rfl | (simp; done) | (simp [*]; done), by repeat (first | exact Drawn0.refl _ | apply Drawn0.step)⟩
          · rw [if_neg c21] at H
            have c21b0 : decide (a0 ≤ 57) = false := decide_eq_false c21
            clear c21
            by_cases c22 : a0 < 128
            · rw [if_pos c22] at H
              have c22b0 : decide (a0 < 128) = true := decide_eq_true c22
              clear c22
              replace H := Option.bind_eq_some_iff.mp H
              obtain ⟨t110, A230, H⟩ := H
              replace H : (some t110) = some r := H
              have A23 := Aside0.mk A230
              clear A230
              obtain rfl := Option.some.inj H
              go_enter Tryd.func68, Tryd.ntmps68
              go_wp2_with (first | (go_at_call 72; (with_reducible refine (strings_ContainsRune.calls (⟨#[45, 46, 95, 126]⟩ : ByteArray) a0 t110 _ A23.out).mono ?_); rintro e w' ⟨rfl, ⟨nd, rfl⟩⟩))
              go_ret
              exact ⟨by first | rfl | (simp; done) | (simp [*]; done), by repeat (first | exact Drawn0.refl _ | apply Drawn0.step)⟩
            · rw [if_neg c22] at H
              have c22b0 : decide (a0 < 128) = false := decide_eq_false c22
              clear c22
              obtain rfl := Option.some.inj H
              go_enter Tryd.func68, Tryd.ntmps68
              go_wp2
              go_ret
              exact ⟨by first | rfl | (simp; done) | (simp [*]; done), by repeat (first | exact Drawn0.refl _ | apply Drawn0.step)⟩
        · rw [if_neg c20] at H
          have c20b0 : decide (48 ≤ a0) = false := decide_eq_false c20
          clear c20
          by_cases c24 : a0 < 128
          · rw [if_pos c24] at H
            have c24b0 : decide (a0 < 128) = true := decide_eq_true c24
            clear c24
            replace H := Option.bind_eq_some_iff.mp H
            obtain ⟨t111, A250, H⟩ := H
            replace H : (some t111) = some r := H
            have A25 := Aside0.mk A250
            clear A250
            obtain rfl := Option.some.inj H
            go_enter Tryd.func68, Tryd.ntmps68
            go_wp2_with (first | (go_at_call 72; (with_reducible refine (strings_ContainsRune.calls (⟨#[45, 46, 95, 126]⟩ : ByteArray) a0 t111 _ A25.out).mono ?_); rintro e w' ⟨rfl, ⟨nd, rfl⟩⟩))
            go_ret
            exact ⟨by first | rfl | (simp; done) | (simp [*]; done), by repeat (first | exact Drawn0.refl _ | apply Drawn0.step)⟩
          · rw [if_neg c24] at H
            have c24b0 : decide (a0 < 128) = false := decide_eq_false c24
            clear c24
            obtain rfl := Option.some.inj H
            go_enter Tryd.func68, Tryd.ntmps68
            go_wp2
            go_ret
            exact ⟨by first | rfl | (simp; done) | (simp [*]; done), by repeat (first | exact Drawn0.refl _ | apply Drawn0.step)⟩
    · rw [if_neg c18] at H
      have c18b0 : decide (65 ≤ a0) = false := decide_eq_false c18
      clear c18
      by_cases c26 : a0 ≥ 48
      · rw [if_pos c26] at H
        have c26b0 : decide (48 ≤ a0) = true := decide_eq_true c26
        clear c26
        by_cases c27 : a0 ≤ 57
        · rw [if_pos c27] at H
          have c27b0 : decide (a0 ≤ 57) = true := decide_eq_true c27
          clear c27
          obtain rfl := Option.some.inj H
          go_enter Tryd.func68, Tryd.ntmps68
          go_wp2
          go_ret
          exact ⟨by first | rfl | (simp; done) | (simp [*]; done), by repeat (first | exact Drawn0.refl _ | apply Drawn0.step)⟩
        · rw [if_neg c27] at H
          have c27b0 : decide (a0 ≤ 57) = false := decide_eq_false c27
          clear c27
          by_cases c28 : a0 < 128
          · rw [if_pos c28] at H
            have c28b0 : decide (a0 < 128) = true := decide_eq_true c28
            clear c28
            replace H := Option.bind_eq_some_iff.mp H
            obtain ⟨t112, A290, H⟩ := H
            replace H : (some t112) = some r := H
            have A29 := Aside0.mk A290
            clear A290
            obtain rfl := Option.some.inj H
            go_enter Tryd.func68, Tryd.ntmps68
            go_wp2_with (first | (go_at_call 72; (with_reducible refine (strings_ContainsRune.calls (⟨#[45, 46, 95, 126]⟩ : ByteArray) a0 t112 _ A29.out).mono ?_); rintro e w' ⟨rfl, ⟨nd, rfl⟩⟩))
            go_ret
            exact ⟨by first | rfl | (simp; done) | (simp [*]; done), by repeat (first | exact Drawn0.refl _ | apply Drawn0.step)⟩
          · rw [if_neg c28] at H
            have c28b0 : decide (a0 < 128) = false := decide_eq_false c28
            clear c28
            obtain rfl := Option.some.inj H
            go_enter Tryd.func68, Tryd.ntmps68
            go_wp2
            go_ret
            exact ⟨by first | rfl | (simp; done) | (simp [*]; done), by repeat (first | exact Drawn0.refl _ | apply Drawn0.step)⟩
      · rw [if_neg c26] at H
        have c26b0 : decide (48 ≤ a0) = false := decide_eq_false c26
        clear c26
        by_cases c30 : a0 < 128
        · rw [if_pos c30] at H
          have c30b0 : decide (a0 < 128) = true := decide_eq_true c30
          clear c30
          replace H := Option.bind_eq_some_iff.mp H
          obtain ⟨t113, A310, H⟩ := H
          replace H : (some t113) = some r := H
          have A31 := Aside0.mk A310
          clear A310
          obtain rfl := Option.some.inj H
          go_enter Tryd.func68, Tryd.ntmps68
          go_wp2_with (first | (go_at_call 72; (with_reducible refine (strings_ContainsRune.calls (⟨#[45, 46, 95, 126]⟩ : ByteArray) a0 t113 _ A31.out).mono ?_); rintro e w' ⟨rfl, ⟨nd, rfl⟩⟩))
          go_ret
          exact ⟨by first | rfl | (simp; done) | (simp [*]; done), by repeat (first | exact Drawn0.refl _ | apply Drawn0.step)⟩
        · rw [if_neg c30] at H
          have c30b0 : decide (a0 < 128) = false := decide_eq_false c30
          clear c30
          obtain rfl := Option.some.inj H
          go_enter Tryd.func68, Tryd.ntmps68
          go_wp2
          go_ret
          exact ⟨by first | rfl | (simp; done) | (simp [*]; done), by repeat (first | exact Drawn0.refl _ | apply Drawn0.step)⟩

end Go.Proofs.YtdnaddignhjihaaDoor.QMB
namespace Go.Proofs.YtdnaddignhjihaaDoor.GivenM
open Go.RowKit Go.Proofs.YtdnaddignhjihaaDoor.QMB Go.Proofs.YtdnaddignhjihaaDoorW.PrintWords Go.Proofs.YtdnaddignhjihaaDoorW.PrintLast
set_option linter.unusedVariables false
theorem value_eq (k : Nat) (c : Nat) (h : c < 256) : pct_value.f (k + 3) (c : Int) = some (match hexv c with | some x => (x : Int) | none => -1) := by
  have h0 : ∀ c : Fin 256, pct_value.f 3 ((c.val : Nat) : Int) = some (match hexv c.val with | some x => (x : Int) | none => -1) := by decide +kernel
  have := h0 ⟨c, h⟩
  exact at_rounds (pct_value.mono _) (Nat.le_add_left 3 k) this

theorem bt_list (s : ByteArray) (i : Nat) (h : i < s.data.toList.length) : bt s (i : Int) = (((s.data.toList)[i]).toNat : Int) := by
  have h2 : i < s.size := by simpa using h
  simp [bt, h2]
  rfl

theorem or_eq : ∀ x : Fin 16, ∀ y : Fin 16, (Go.bits .or .i64 (wrap64 (((x.val : Nat) : Int) * 16)) (Go.bits .and .i64 ((y.val : Nat) : Int) 15)) % 256 = ((16 * x.val + y.val : Nat) : Int) := by decide +kernel

theorem triple_eq (s : ByteArray) : ∃ r, pct_triple.f 3 s = some (r, (tripB s.data.toList).isSome) ∧ ∀ b, tripB s.data.toList = some b → r = (b.toNat : Int) := by
  unfold pct_triple.f
  have hsz : s.size = s.data.toList.length := by simp
  rcases hl : s.data.toList with _ | ⟨a, _ | ⟨h, _ | ⟨l, u⟩⟩⟩
  · rw [hl] at hsz; replace hsz : s.size = 0 := hsz; rw [if_pos (by omega)]; exact ⟨0, by simp [tripB], by simp [tripB]⟩
  · rw [hl] at hsz; replace hsz : s.size = 1 := hsz; rw [if_pos (by omega)]; exact ⟨0, by simp [tripB], by simp [tripB]⟩
  · rw [hl] at hsz; replace hsz : s.size = 2 := hsz; rw [if_pos (by omega)]; exact ⟨0, by simp [tripB], by simp [tripB]⟩
  · have e1 : bt s 1 = ((h.toNat : Nat) : Int) := by
      have := bt_list s 1 (by rw [hl]; simp)
      simp only [hl] at this; exact this
    have e2 : bt s 2 = ((l.toNat : Nat) : Int) := by
      have := bt_list s 2 (by rw [hl]; simp)
      simp only [hl] at this; exact this
    rw [hl] at hsz; replace hsz : s.size = u.length + 3 := hsz
    rw [if_neg (by omega), if_pos (by omega), e1, e2, value_eq 0 _ h.toNat_lt, value_eq 0 _ l.toNat_lt]
    simp only [Option.bind_some]
    rw [if_pos (by omega)]
    rcases hx : hexv h.toNat with _ | x <;> rcases hy : hexv l.toNat with _ | y <;> simp only [tripB, hx, hy]
    · exact ⟨_, by rw [if_neg (by omega)]; rfl, by simp⟩
    · exact ⟨_, by rw [if_neg (by omega)]; rfl, by simp⟩
    · exact ⟨_, by rw [if_pos (by omega)]; rfl, by simp⟩
    · refine ⟨_, by rw [if_pos (by omega), Option.some.injEq, Prod.mk.injEq]; exact ⟨rfl, decide_eq_true (by omega)⟩, ?_⟩
      intro b hb
      obtain rfl := Option.some.inj hb
      have hx' := hexv_lt hx; have hy' := hexv_lt hy
      rw [or_eq ⟨x, hx'⟩ ⟨y, hy'⟩]
      simp; omega

theorem triple_calls (s : ByteArray) (w : World) :
    Calls Tryd.prog 67 #[.string s] w fun e w' => ∃ r, e = .returned (.tuple #[.int .u8 r, .bool (tripB s.data.toList).isSome]) ∧ (∀ b, tripB s.data.toList = some b → r = (b.toNat : Int)) ∧ Drawn0 w w' := by
  obtain ⟨r, h, hb⟩ := triple_eq s
  exact (pct_triple.calls 3 s r _ w h).mono fun e w' ⟨h1, h2⟩ => ⟨r, h1, hb, h2⟩

theorem coded_eq (c : UInt8) : pct_coded.f (c.toNat : Int) = some ⟨(codeB c).toArray⟩ := by
  have h0 : ∀ c : Fin 256, pct_coded.f ((c.val : Nat) : Int) = some ⟨(codeB (UInt8.ofNat c.val)).toArray⟩ := by decide +kernel
  have := h0 ⟨c.toNat, c.toNat_lt⟩
  simpa using this

theorem coded_calls (c : UInt8) (w : World) :
    Calls Tryd.prog 71 #[.int .u8 (c.toNat : Int)] w fun e w' => e = .returned (.string ⟨(codeB c).toArray⟩) ∧ Below w.heap.size w w' :=
  pct_coded.calls _ _ w (coded_eq c)

theorem plain_eq (c : Nat) : pct_plain.f (c : Int) = some (freeN c) := by
  by_cases h : c < 128
  · have h0 : ∀ c : Fin 128, pct_plain.f ((c.val : Nat) : Int) = some (freeN c.val) := by decide +kernel
    exact h0 ⟨c, h⟩
  · have h2 : freeN c = false := by
      cases hf : freeN c
      · rfl
      · exact absurd (freeN_lt hf) h
    rw [h2]
    unfold pct_plain.f
    repeat (first | rw [if_pos (by omega)] | rw [if_neg (by omega)])
/-- plain, at a number that is not below 0. -/
theorem plain_calls (c : Nat) (w : World) :
    Calls Tryd.prog 68 #[.int .i32 (c : Int)] w fun e w' => e = .returned (.bool (freeN c)) ∧ Drawn0 w w' :=
  pct_plain.calls _ _ w (plain_eq c)
theorem rune_other (c : Nat) (h : c < 128) (w : World) :
    Calls Tryd.prog 72 #[.string ⟨#[33, 36, 38, 39, 40, 41, 42, 43, 44, 59, 61, 58, 64, 47, 63, 91, 93]⟩, .int .i32 (c : Int)] w fun e w' => e = .returned (.bool (otherN c)) ∧ w' = w := by
  have h0 : ∀ c : Fin 128, decide (0 ≤ Lib.indexByte ([33, 36, 38, 39, 40, 41, 42, 43, 44, 59, 61, 58, 64, 47, 63, 91, 93] : List UInt8) (((c.val : Nat) : Int).toNat.toUInt8)) = otherN c.val := by decide +kernel
  refine (Tryd.strings_ContainsRune_ascii _ (c : Int) w (by omega) (by omega)).mono fun e w' ⟨h1, h2⟩ => ⟨?_, h2⟩
  rw [h1, ← h0 ⟨c, h⟩]

end Go.Proofs.YtdnaddignhjihaaDoor.GivenM
namespace Go.Proofs.YtdnaddignhjihaaDoor.GivenM
open Go.RowKit Go.Proofs.YtdnaddignhjihaaDoor.QMB Go.Proofs.YtdnaddignhjihaaDoorW.PrintWords Go.Proofs.YtdnaddignhjihaaDoorW.PrintLast
set_option linter.unusedVariables false
theorem isB_below {T e : TypeId} {B b : Nat} {bs : List Value} {W W' : World} (h : Lib.IsBuilderF T e B b bs W) (hb : Below W.heap.size W W') : Lib.IsBuilderF T e B b bs W' := by
  have one : ∀ p : Value, Lib.BuilderAtF T e B b p bs W → Lib.BuilderAtF T e B b p bs W' := by
    rintro p h
    have hlt := h.lt
    obtain ⟨hB, v, hv, hown, hne⟩ := h
    exact ⟨hB, v, (hb.block b hlt).trans hv, hown.kept (row := none) ⟨hb.os, hb.tape, hb.output, hb.size, fun k hk _ => hb.block k hk⟩ (Classical.em _), hne⟩
  exact h.elim (fun x => .inl (one _ x)) (fun x => .inr (one _ x))

def codeAll (l : List UInt8) : List UInt8 := l.flatMap codeB
theorem codeAll_length (l : List UInt8) : (codeAll l).length = 3 * l.length := by
  induction l with
  | nil => rfl
  | cons c t ih => simp only [codeAll, List.flatMap_cons, List.length_append, codeB_length, List.length_cons] at *; omega
theorem codeAll_snoc (l : List UInt8) (i : Nat) (h : i < l.length) : codeAll (l.take (i + 1)) = codeAll (l.take i) ++ codeB l[i] := by
  rw [List.take_add_one, List.getElem?_eq_getElem h]; simp only [codeAll, List.flatMap_append, Option.toList_some, List.flatMap_cons, List.flatMap_nil, List.append_nil]

set_option maxHeartbeats 4000000 in
set_option maxRecDepth 1000000 in
theorem all_calls (s : ByteArray) (w : World) (hs : s.size ≤ 1099511627776) :
    Calls Tryd.prog 73 #[.string s] w fun e w' => e = .returned (.string ⟨(codeAll s.data.toList).toArray⟩) ∧ Below w.heap.size w w' := by
  go_enter Tryd.func73, Tryd.ntmps73
  go_wp2
  go_loopw [7] (fun v wr => ∃ k : Nat, k ≤ s.size ∧ v = .int .i64 k ∧ Lib.IsBuilderF 57 5 w.heap.size w.heap.size (Lib.byteCells (codeAll (s.data.toList.take k))) wr ∧ Below w.heap.size w wr) (fun v wr => s.size - (intOf v).toNat)
  case atStart =>
    refine ⟨0, by omega, rfl, (Lib.IsBuilderF.of (Lib.fresh_isBuilder 57 5 w)), (Below.refl _ w).alloc (Nat.le_refl _) _⟩
  case round =>
    obtain ⟨k, hk, rfl, hI, hbw⟩ := hrel
    have hsz := hbw.size
    by_cases hlt : k < s.size
    · have hlt' : ((k : Int) < (s.size : Int)) = True := eq_true (by omega)
      have hx : (s[k]'hlt) = s.data.toList[k]'(by simpa using hlt) := by simp; rfl
      have h3 : ∀ c : UInt8, (Lib.byteCells (codeAll (s.data.toList.take k))).length + ByteArray.size ⟨(codeB c).toArray⟩ ≤ 140737488355328 := by
        intro c
        rw [Lib.byteCells_length, codeAll_length]
        have := List.length_take_le k s.data.toList
        show 3 * _ + 3 ≤ _
        omega
      go_wp2_with (first
        | (go_at_call 71; refine (coded_calls _ _).mono ?_; rintro e w1 ⟨rfl, hb1⟩)
        | (go_at_call 70; refine (Tryd.Builder_WriteString_k w.heap.size w.heap.size _ _ _ (isB_below hI hb1) (h3 _) (Nat.le_trans hsz hb1.size)).mono ?_; rintro e W1 ⟨rfl, h1, b1, k1⟩))
      go_roundw
      case rel =>
        refine ⟨k + 1, by omega, by go_num, ?_, hbw.trans ((hb1.mono hsz).trans b1)⟩
        rw [codeAll_snoc _ k (by simpa using hlt), Lib.byteCells_append, ← hx]
        exact Or.inr h1
      case measure =>
        simp [intOf]; omega
    · have hlt' : ((k : Int) < (s.size : Int)) = False := eq_false (by omega)
      obtain rfl : k = s.size := by omega
      have ht : s.data.toList.take s.size = s.data.toList := List.take_of_length_le (by simp)
      rw [ht] at hI
      go_wp2_with (go_at_call 28; refine (Tryd.Builder_String_any_k w.heap.size w.heap.size _ _ hI hsz).mono ?_)
      rintro e W1 ⟨rfl, _, b1, _⟩
      go_wp2
      go_ret
      exact ⟨rfl, hbw.trans b1⟩

/-- A sign's bytes lie in the text; those of one beyond ASCII are 128 or more. -/
theorem dec_in (s : ByteArray) (pos : Nat) (h : pos < s.size) :
    1 ≤ (Utf8.decode s pos).2 ∧ pos + (Utf8.decode s pos).2 ≤ s.size ∧ (128 ≤ (s.get! pos).toNat → ∀ i, i < (Utf8.decode s pos).2 → 128 ≤ (s.get! (pos + i)).toNat) := by
  unfold Utf8.decode
  simp only [Nat.add_zero, Bool.and_eq_true, decide_eq_true_eq, beq_iff_eq]
  have one : ∀ x : Nat, 1 ≤ (x, 1).2 ∧ pos + (x, 1).2 ≤ s.size ∧ (128 ≤ (s.get! pos).toNat → ∀ i, i < (x, 1).2 → 128 ≤ (s.get! (pos + i)).toNat) := by
    intro x
    refine ⟨Nat.le_refl _, by simp; omega, fun h1 i hi => ?_⟩
    obtain rfl : i = 0 := by simp at hi; omega
    exact h1
  split
  · exact one _
  split
  · rename_i hc
    split
    · refine ⟨by simp, by simp; omega, fun h1 i hi => ?_⟩
      simp only at hi
      rcases (by omega : i = 0 ∨ i = 1) with rfl | rfl
      · exact h1
      · omega
    · exact one _
  split
  · rename_i hc
    split
    · refine ⟨by simp, by simp; omega, fun h1 i hi => ?_⟩
      simp only at hi
      rcases (by omega : i = 0 ∨ i = 1 ∨ i = 2) with rfl | rfl | rfl
      · exact h1
      · omega
      · omega
    · exact one _
  split
  · rename_i hc
    split
    · refine ⟨by simp, by simp; omega, fun h1 i hi => ?_⟩
      simp only at hi
      rcases (by omega : i = 0 ∨ i = 1 ∨ i = 2 ∨ i = 3) with rfl | rfl | rfl | rfl
      · exact h1
      · omega
      · omega
      · omega
    · exact one _
  · exact one _
theorem dec_pos (s : ByteArray) (pos : Nat) (h : pos < s.size) : 1 ≤ (Utf8.decode s pos).2 := (dec_in s pos h).1

set_option maxHeartbeats 4000000 in
set_option maxRecDepth 1000000 in
theorem width_calls (s : ByteArray) (w : World) (h0 : 0 < s.size) (hs : s.size ≤ 1099511627776) :
    Calls Tryd.prog 74 #[.string s] w fun e w' => e = .returned (.int .i64 ((Utf8.decode s 0).2 : Int)) ∧ Below w.heap.size w w' := by
  have hd0 := dec_pos s 0 h0
  have hd1 := (dec_in s 0 h0).2.1
  go_enter Tryd.func74, Tryd.ntmps74
  go_wp2
  go_loopw [] (fun wr => ∃ pos : Nat, wr.heap[w.heap.size]? = some (.stringIter s pos) ∧ Below w.heap.size w wr ∧ (pos = 0 ∨ pos = (Utf8.decode s 0).2)) (fun wr => s.size - wr.iterPos w.heap.size)
  case atStart =>
    refine ⟨0, ?_, (Below.refl _ w).alloc (by simp) _, .inl rfl⟩
    exact World.iter_heap w s 0
  case round =>
    obtain ⟨pos, hit, hbw, hp0⟩ := hrel
    have hsz : w.heap.size < wr.heap.size := (Array.getElem?_eq_some_iff.1 hit).1
    by_cases hp : pos < s.size
    · have hnx : ∀ ty, (Instr.next (.pointer (some ⟨w.heap.size, 0, none⟩)) true ty).run Tryd.prog wr = _ := fun ty => Lib.run_next_any_at wr (w.heap.size) s pos ty hit hp
      have hwd := dec_pos s pos hp
      have hit2 := Lib.iterAt_heap wr (w.heap.size) s pos (pos + (Utf8.decode s pos).2) hit
      have hbw2 := Lib.below_iterAt hbw (k := w.heap.size) (Nat.le_refl _) s (pos + (Utf8.decode s pos).2)
      by_cases hz : pos = 0
      · subst hz
        rw [Nat.zero_add] at hit2 hbw2
        go_wp2
        go_roundw
        case rel =>
          exact ⟨_, hit2, hbw2, .inr rfl⟩
        case measure =>
          simp only [World.iterPos, hit2, hit]
          omega
      · obtain rfl : pos = (Utf8.decode s 0).2 := by omega
        have hgt : ((0 : Int) < (((Utf8.decode s 0).2 : Nat) : Int)) = True := eq_true (by omega)
        go_wp2
        go_ret
        exact ⟨rfl, hbw2⟩
    · have hnx : ∀ ty, (Instr.next (.pointer (some ⟨w.heap.size, 0, none⟩)) true ty).run Tryd.prog wr = _ := fun ty => Lib.run_next_end_at wr (w.heap.size) s pos ty hit hp
      have he : (s.size : Int) = ((Utf8.decode s 0).2 : Int) := by omega
      go_wp2
      go_ret
      exact ⟨by rw [← he]; rfl, hbw⟩

end Go.Proofs.YtdnaddignhjihaaDoor.GivenM
namespace Go.Proofs.YtdnaddignhjihaaDoor.GivenM
open Go.RowKit Go.Proofs.YtdnaddignhjihaaDoor.QMB Go.Proofs.YtdnaddignhjihaaDoorW.PrintWords Go.Proofs.YtdnaddignhjihaaDoorW.PrintLast
set_option linter.unusedVariables false
theorem get_list (s : ByteArray) (i : Nat) (h : i < s.data.toList.length) : s.get! i = (s.data.toList)[i] := by
  have h2 : i < s.data.size := by simpa using h
  simp only [ByteArray.get!]
  rw [getElem!_pos (c := s.data) i h2]
  simp
theorem drop_cons (l : List UInt8) (i : Nat) (h : i < l.length) : l.drop i = l[i] :: l.drop (i + 1) := List.drop_eq_getElem_cons h

theorem ext_list (s : ByteArray) (pos : Nat) : (s.extract pos s.size).data.toList = s.data.toList.drop pos := by
  rw [ByteArray.data_extract, Array.toList_extract, List.extract_eq_take_drop]
  exact List.take_of_length_le (by simp)

theorem ext_list2 (s : ByteArray) (a n : Nat) : (s.extract a (a + n)).data.toList = (s.data.toList.drop a).take n := by
  rw [ByteArray.data_extract, Array.toList_extract, List.extract_eq_take_drop, Nat.add_sub_cancel_left]

/-- A stretch of bytes of 128 or more is coded, byte by byte. -/
theorem normB_high : ∀ (xs t : List UInt8), (∀ c ∈ xs, 128 ≤ c.toNat) → normB (xs ++ t) = (normB t).map (codeAll xs ++ ·)
  | [], t, _ => by
    rw [List.nil_append]; cases normB t <;> simp [codeAll]
  | c :: xs, t, h => by
    have hc : 128 ≤ c.toNat := h c (List.mem_cons_self ..)
    have ih := normB_high xs t fun x hx => h x (List.mem_cons_of_mem _ hx)
    rw [List.cons_append, normB_one _ _ (by rintro rfl; simp at hc), ih, out1_high c hc]
    cases normB t <;> simp [codeAll]

theorem map_map (o : Option (List UInt8)) (a b : List UInt8) : (o.map (b ++ ·)).map (a ++ ·) = o.map ((a ++ b) ++ ·) := by
  cases o <;> simp

/-- A sign of the text that begins at a place. -/
theorem decode_drop (s : ByteArray) (pos : Nat) : Utf8.decode (s.extract pos s.size) 0 = Utf8.decode s pos := by
  have hsz : (s.extract pos s.size).size = s.size - pos := by simp
  have hg : ∀ k, (s.extract pos s.size).get! (0 + k) = s.get! (pos + k) := by
    intro k
    by_cases h : pos + k < s.size
    · have h1 : k < (s.extract pos s.size).data.toList.length := by simp; omega
      have h2 : pos + k < s.data.toList.length := by simpa using h
      rw [Nat.zero_add, get_list _ _ h1, get_list _ _ h2]
      simp [ByteArray.data_extract]
    · have h1 : ¬ k < (s.extract pos s.size).data.size := by simp; omega
      have h2 : ¬ pos + k < s.data.size := by simpa using h
      rw [Nat.zero_add]
      simp only [ByteArray.get!]
      rw [getElem!_neg (c := (s.extract pos s.size).data) k h1, getElem!_neg (c := s.data) (pos + k) h2]
  unfold Utf8.decode
  simp only [hg, hsz]
  have : ∀ k, (decide (0 + k < s.size - pos)) = decide (pos + k < s.size) := fun k => by rw [decide_eq_decide]; omega
  simp only [this]

theorem triple_b (s : ByteArray) (w : World) :
    Calls Tryd.prog 67 #[.string s] w fun e w' => ∃ r, e = .returned (.tuple #[.int .u8 r, .bool (tripB s.data.toList).isSome]) ∧ (∀ b, tripB s.data.toList = some b → r = (b.toNat : Int)) ∧ Below w.heap.size w w' :=
  (triple_calls s w).mono fun e w' ⟨r, h1, h2, n, h3⟩ => ⟨r, h1, h2, h3 ▸ pw_below_drewN (Below.refl _ w) n⟩
theorem plain_b (c : Nat) (w : World) :
    Calls Tryd.prog 68 #[.int .i32 (c : Int)] w fun e w' => e = .returned (.bool (freeN c)) ∧ Below w.heap.size w w' :=
  (plain_calls c w).mono fun e w' ⟨h1, n, h3⟩ => ⟨h1, h3 ▸ pw_below_drewN (Below.refl _ w) n⟩
theorem slice_two (s : ByteArray) (pos n : Nat) (h : pos + n ≤ s.size) (W : World) :
    Sem.run Tryd.prog (Instr.slice 9 (.string s) (some (.int .i64 (pos : Int))) (some (.int .i64 ((pos : Int) + (n : Int)))) none) W = .ok (.string (s.extract pos (pos + n))) W := by
  have e1 : ((pos : Int)).toNat = pos := by omega
  have e2 : ((pos : Int) + (n : Int)).toNat = pos + n := by omega
  rw [Go.run_slice_string W 9 s .i64 .i64 _ _ Tryd.underlying9 (by omega) (by omega) (by omega), e1, e2]
theorem blk_below {W W' : World} {k : Nat} {o : Obj} (h : W.heap[k]? = some o) (hb : Below W.heap.size W W') : W'.heap[k]? = some o :=
  (hb.block k (Array.getElem?_eq_some_iff.1 h).1).trans h
def normV : Option (List UInt8) → Value
  | some l => .tuple #[.string ⟨l.toArray⟩, .bool true]
  | none => .tuple #[.string ⟨#[]⟩, .bool false]
def pct_Norm.f (a0 : ByteArray) : Option (ByteArray × Bool) :=
  if a0.size ≤ 1099511627776 then some (match normB a0.data.toList with | some l => (⟨l.toArray⟩, true) | none => (⟨#[]⟩, false)) else none

set_option maxHeartbeats 8000000 in
set_option maxRecDepth 1000000 in
theorem norm_calls (s : ByteArray) (w : World) (hs : s.size ≤ 1099511627776) :
    Calls Tryd.prog 49 #[.string s] w fun e w' => e = .returned (normV (normB s.data.toList)) ∧ Below w.heap.size w w' := by
  have hl : s.data.toList.length = s.size := by simp
  go_enter Tryd.func49, Tryd.ntmps49
  go_wp2
  go_loopw [5] (fun sk wr => ∃ (pos skip : Nat) (acc : List UInt8), sk = .int .i64 skip ∧ Lib.IsBuilderF 57 5 w.heap.size w.heap.size (Lib.byteCells acc) wr ∧ wr.heap[w.heap.size + 1]? = some (.stringIter s pos) ∧ Below w.heap.size w wr ∧ Hid ((normB (s.data.toList.drop (max pos skip))).map (acc ++ ·) = normB s.data.toList) ∧ skip ≤ s.size ∧ (∀ i, pos ≤ i → i < skip → (s.get! i).toNat < 128) ∧ acc.length ≤ 3 * max pos skip) (fun _ wr => s.size - wr.iterPos (w.heap.size + 1))
  case atStart =>
    refine ⟨0, 0, [], rfl, (Lib.IsBuilderF.of (Lib.fresh_isBuilder 57 5 w)).alloc _, ?_, ((Below.refl _ w).alloc (Nat.le_refl _) _).alloc (by simp) _, ?_, by omega, by omega, by simp⟩
    · have := World.iter_heap (w.alloc (.cells #[.pointer none, .slice none 0 0] 57)) s 0
      simpa using this
    · show (normB (s.data.toList.drop 0)).map ([] ++ ·) = normB s.data.toList
      cases h : normB s.data.toList <;> simp [h]
  case round =>
    obtain ⟨pos, skip, acc, rfl, hI, hit, hbw, hacc, hsk, hasc, hal⟩ := hrel
    have hsz : w.heap.size + 1 < wr.heap.size := (Array.getElem?_eq_some_iff.1 hit).1
    by_cases hp : pos < s.size
    · have hnx : ∀ ty, (Instr.next (.pointer (some ⟨w.heap.size + 1, 0, none⟩)) true ty).run Tryd.prog wr = _ := fun ty => Lib.run_next_any_at wr (w.heap.size + 1) s pos ty hit hp
      obtain ⟨hw1, hw2, hw3⟩ := dec_in s pos hp
      have hd1 := decode_le s pos
      have hI2 := hI.iterAt hit (pos + (Utf8.decode s pos).2)
      have hit2 := Lib.iterAt_heap wr (w.heap.size + 1) s pos (pos + (Utf8.decode s pos).2) hit
      have hbw2 := Lib.below_iterAt hbw (k := w.heap.size + 1) (by omega) s (pos + (Utf8.decode s pos).2)
      have hsz2 : w.heap.size ≤ (wr.iterAt (w.heap.size + 1) s (pos + (Utf8.decode s pos).2)).heap.size := by rw [Lib.iterAt_size]; omega
      have hg : s.get! pos = s.data.toList[pos]'(by omega) := get_list s pos (by omega)
      have hgs : (s[pos]'hp) = s.data.toList[pos]'(by omega) := by simp; rfl
      by_cases hps : pos < skip
      · -- what a triple took
        have ha := hasc pos (Nat.le_refl _) hps
        have hd := decode_ascii s pos hp (by rw [hgs, ← hg]; exact ha)
        rw [hd] at hit2 hbw2 hI2 hsz2
        have e1 : max pos skip = skip := Nat.max_eq_right (by omega)
        have e2 : max (pos + 1) skip = skip := Nat.max_eq_right (by omega)
        rw [e1] at hacc hal
        go_wp2
        go_roundw
        case rel => exact ⟨pos + 1, skip, acc, rfl, hI2, hit2, hbw2, by rw [e2]; exact hacc, hsk, fun i h1 h2 => hasc i (by omega) h2, by rw [e2]; exact hal⟩
        case measure =>
          simp only [World.iterPos, hit2, hit]
          omega
      · have e1 : max pos skip = pos := Nat.max_eq_left (by omega)
        rw [e1] at hacc hal
        have hdc := drop_cons s.data.toList pos (by omega)
        by_cases h37 : (Utf8.decode s pos).1 = 37
        · -- a percent
          have hb : (s.data.toList[pos]'(by omega)).toNat < 128 := by
            apply Decidable.byContradiction
            intro hh
            have := (decode_high s pos hp (by rw [hgs]; omega)).1
            omega
          have hd : Utf8.decode s pos = (37, 1) := by
            have hd0 := decode_ascii s pos hp (by rw [hgs]; exact hb)
            rw [hd0] at h37 ⊢
            simp only at h37
            rw [h37]
          have hb37 : s.data.toList[pos]'(by omega) = 37 := by
            have hd0 := decode_ascii s pos hp (by rw [hgs]; exact hb)
            rw [hd, hgs] at hd0
            have := congrArg Prod.fst hd0
            simp only at this
            exact UInt8.toNat_inj.mp (by rw [← this]; rfl)
          rw [hd] at hit2 hbw2 hI2 hsz2
          clear h37 hw1 hw2 hw3 hd1
          have hX : (s.extract pos s.size).data.toList = s.data.toList.drop pos := ext_list s pos
          have hnB := normB_pct _ (s.data.toList.drop (pos + 1)) hb37
          rw [← hdc, ← hX, List.drop_drop] at hnB
          rcases ht : tripB (s.extract pos s.size).data.toList with _ | b
          · rw [ht, hX] at hnB
            have hno : normB s.data.toList = none := by rw [← hacc.out, hnB]; rfl
            go_wp2_with (go_at_call 67; refine (triple_b (s.extract pos s.size) _).mono ?_; rintro e W1 ⟨r, rfl, -, hb1⟩; rw [ht, Option.isSome_none])
            go_ret2
            rw [hno]
            exact ⟨rfl, hbw2.trans (hb1.mono hsz2)⟩
          · rw [ht, hX] at hnB
            have ht0 := ht
            rw [hX, hdc] at ht0
            have hlen := tripB_len ht0
            have hlen' : pos + 3 ≤ s.size := by
              rw [← hdc, List.length_drop] at hlen; omega
            have hq1 := drop_cons s.data.toList (pos + 1) (by omega)
            have hq2 := drop_cons s.data.toList (pos + 2) (by omega)
            rw [hq1, hq2] at ht0
            obtain ⟨ha1, ha2⟩ := tripB_ascii ht0
            clear hlen ht0 hq1 hq2
            have hasc3 : ∀ i, pos + 1 ≤ i → i < pos + 3 → (s.get! i).toNat < 128 := by
              intro i h1 h2
              rcases (by omega : i = pos + 1 ∨ i = pos + 2) with rfl | rfl
              · rw [get_list s _ (by omega)]; exact ha1
              · rw [get_list s _ (by omega)]; exact ha2
            have hnB2 : (normB (s.data.toList.drop (pos + 3))).map ((acc ++ outB b) ++ ·) = normB s.data.toList := by
              rw [← hacc.out, hnB, ← map_map]; rfl
            have hnB3 := outB_length b
            clear hnB hX hdc ha1 ha2
            have e3 : max (pos + 1) (pos + 3) = pos + 3 := Nat.max_eq_right (by omega)
            have hbl := b.toNat_lt
            by_cases hf : freeN b.toNat = true
            · have ho : outB b = [b] := by rw [outB, if_pos hf]
              go_wp2_with (first
                | (go_at_call 67; refine (triple_b (s.extract pos s.size) _).mono ?_; rintro e W1 ⟨r, rfl, hr, hb1⟩; obtain rfl := hr b ht; rw [ht, Option.isSome_some])
                | (go_at_call 68; refine (plain_b b.toNat _).mono ?_; rintro e W2 ⟨rfl, hb2⟩; rw [hf])
                | (go_at_call 69; refine (Tryd.Builder_WriteByte_k w.heap.size w.heap.size _ _ _ (isB_below (isB_below hI2 hb1) hb2) (by rw [Lib.byteCells_length]; omega) (Nat.le_trans hsz2 (Nat.le_trans hb1.size hb2.size))).mono ?_; rintro e W3 ⟨rfl, h3, b3, k3⟩))
              have hz1 := Nat.le_trans hsz2 hb1.size
              have hz2 := Nat.le_trans hz1 hb2.size
              go_roundw
              case rel =>
                refine ⟨pos + 1, pos + 3, acc ++ outB b, by go_num, ?_, k3.iter (blk_below (blk_below hit2 hb1) hb2) (by omega), hbw2.trans ((hb1.mono hsz2).trans ((hb2.mono hz1).trans b3)), ?_, hlen', hasc3, ?_⟩
                · rw [ho, Lib.byteCells_append]; exact Or.inr h3
                · rw [e3]; exact hnB2
                · rw [e3, List.length_append]; omega
              case measure =>
                simp only [World.iterPos, k3.iter (blk_below (blk_below hit2 hb1) hb2) (show w.heap.size + 1 ≠ w.heap.size by omega), hit]
                omega
            · have ho : outB b = codeB b := by rw [outB, if_neg hf]
              have hf' : freeN b.toNat = false := by simpa using hf
              have h3 : (Lib.byteCells acc).length + ByteArray.size ⟨(codeB b).toArray⟩ ≤ 140737488355328 := by
                rw [Lib.byteCells_length]
                show _ + 3 ≤ _
                omega
              go_wp2_with (first
                | (go_at_call 67; refine (triple_b (s.extract pos s.size) _).mono ?_; rintro e W1 ⟨r, rfl, hr, hb1⟩; obtain rfl := hr b ht; rw [ht, Option.isSome_some])
                | (go_at_call 68; refine (plain_b b.toNat _).mono ?_; rintro e W2 ⟨rfl, hb2⟩; rw [hf'])
                | (go_at_call 71; refine (coded_calls b _).mono ?_; rintro e W3 ⟨rfl, hb3⟩)
                | (go_at_call 70; refine (Tryd.Builder_WriteString_k w.heap.size w.heap.size _ _ _ (isB_below (isB_below (isB_below hI2 hb1) hb2) hb3) h3 (Nat.le_trans hsz2 (Nat.le_trans hb1.size (Nat.le_trans hb2.size hb3.size)))).mono ?_; rintro e W4 ⟨rfl, h4, b4, k4⟩))
              have hz1 := Nat.le_trans hsz2 hb1.size
              have hz2 := Nat.le_trans hz1 hb2.size
              have hit4 := k4.iter (blk_below (blk_below (blk_below hit2 hb1) hb2) hb3) (show w.heap.size + 1 ≠ w.heap.size by omega)
              go_roundw
              case rel =>
                refine ⟨pos + 1, pos + 3, acc ++ outB b, by go_num, ?_, hit4, hbw2.trans ((hb1.mono hsz2).trans ((hb2.mono hz1).trans ((hb3.mono hz2).trans b4))), ?_, hlen', hasc3, ?_⟩
                · rw [ho, Lib.byteCells_append]; exact Or.inr h4
                · rw [e3]; exact hnB2
                · rw [e3, List.length_append]; omega
              case measure =>
                simp only [World.iterPos, hit4, hit]
                omega
        · -- no percent
          by_cases hb : (s.data.toList[pos]'(by omega)).toNat < 128
          · have hd : Utf8.decode s pos = ((s.data.toList[pos]'(by omega)).toNat, 1) := by
              rw [← hgs]; exact decode_ascii s pos hp (by rw [hgs]; exact hb)
            have hnB := normB_one (s.data.toList[pos]'(by omega)) (s.data.toList.drop (pos + 1)) (by intro h; rw [hd, h] at h37; exact h37 rfl)
            rw [← hdc] at hnB
            have hX : (s.extract pos (pos + 1)).data.toList = [s.data.toList[pos]'(by omega)] := by
              rw [ext_list2, hdc]; rfl
            clear hdc hg hgs hw3
            rw [hd] at hit2 hbw2 hI2 hsz2 h37
            generalize (s.data.toList[pos]'(by omega)) = c at *
            have hnB2 : (normB (s.data.toList.drop (pos + 1))).map ((acc ++ out1 c) ++ ·) = normB s.data.toList := by
              rw [← hacc.out, hnB, ← map_map]
            have ho3 := out1_length c
            have h37' : ¬ ((c.toNat : Int) = 37) := by simp only at h37; omega
            have hrc : Lib.runeCells (c.toNat : Int) = [.int .u8 (c.toNat : Int)] := by
              rw [Lib.runeCells, Lib.encodeRuneZ_one (by omega) (by omega)]; rfl
            have e2 : max (pos + 1) skip = pos + 1 := Nat.max_eq_left (by omega)
            clear hnB h37 hw1 hd1
            by_cases hf : freeN c.toNat = true
            · have ho : out1 c = [c] := by rw [out1, if_pos (by simp [hf])]
              go_wp2_with (first
                | (go_at_call 68; refine (plain_b c.toNat _).mono ?_; rintro e W1 ⟨rfl, hb1⟩; rw [hf])
                | (go_at_call 27; refine (Tryd.Builder_WriteRune_k w.heap.size w.heap.size _ _ (by omega) (by omega) _ (isB_below hI2 hb1) (by rw [Lib.byteCells_length]; omega) (Nat.le_trans hsz2 hb1.size)).mono ?_; rintro e W2 ⟨rfl, h2, b2, k2⟩))
              have hit3 := k2.iter (blk_below hit2 hb1) (show w.heap.size + 1 ≠ w.heap.size by omega)
              go_roundw
              case rel =>
                refine ⟨pos + 1, skip, acc ++ out1 c, rfl, ?_, hit3, hbw2.trans ((hb1.mono hsz2).trans b2), ?_, hsk, fun i h1 h2 => absurd h2 (by omega), ?_⟩
                · rw [ho, Lib.byteCells_append]; rw [hrc] at h2; exact Or.inr h2
                · rw [e2]; exact hnB2
                · rw [e2, List.length_append]; omega
              case measure =>
                simp only [World.iterPos, hit3, hit]
                omega
            · have hf' : freeN c.toNat = false := by simpa using hf
              by_cases hh : otherN c.toNat = true
              · have ho : out1 c = [c] := by rw [out1, if_pos (by simp [hh])]
                go_wp2_with (first
                  | (go_at_call 68; refine (plain_b c.toNat _).mono ?_; rintro e W1 ⟨rfl, hb1⟩; rw [hf'])
                  | (go_at_call 72; refine (rune_other c.toNat hb _).mono ?_; rintro e W9 ⟨rfl, rfl⟩; rw [hh])
                  | (go_at_call 27; refine (Tryd.Builder_WriteRune_k w.heap.size w.heap.size _ _ (by omega) (by omega) _ (isB_below hI2 hb1) (by rw [Lib.byteCells_length]; omega) (Nat.le_trans hsz2 hb1.size)).mono ?_; rintro e W2 ⟨rfl, h2, b2, k2⟩))
                have hit3 := k2.iter (blk_below hit2 hb1) (show w.heap.size + 1 ≠ w.heap.size by omega)
                go_roundw
                case rel =>
                  refine ⟨pos + 1, skip, acc ++ out1 c, rfl, ?_, hit3, hbw2.trans ((hb1.mono hsz2).trans b2), ?_, hsk, fun i h1 h2 => absurd h2 (by omega), ?_⟩
                  · rw [ho, Lib.byteCells_append]; rw [hrc] at h2; exact Or.inr h2
                  · rw [e2]; exact hnB2
                  · rw [e2, List.length_append]; omega
                case measure =>
                  simp only [World.iterPos, hit3, hit]
                  omega
              · have hh' : otherN c.toNat = false := by simpa using hh
                have h3 : acc.length + ByteArray.size ⟨(codeAll (s.extract pos (pos + 1)).data.toList).toArray⟩ ≤ 140737488355328 := by
                  rw [hX]
                  show _ + 3 ≤ _
                  omega
                have hsl : ∀ W, Sem.run Tryd.prog (Instr.slice 9 (.string s) (some (.int .i64 (pos : Int))) (some (.int .i64 ((pos : Int) + 1))) none) W = .ok (.string (s.extract pos (pos + 1))) W := fun W => slice_two s pos 1 (by omega) W
                have ho : out1 c = codeB c := by rw [out1, if_neg (by simp [hf', hh'])]
                go_wp2_with (first
                  | (go_at_call 68; refine (plain_b c.toNat _).mono ?_; rintro e W1 ⟨rfl, hb1⟩; rw [hf'])
                  | (go_at_call 72; refine (rune_other c.toNat hb _).mono ?_; rintro e W9 ⟨rfl, rfl⟩; rw [hh'])
                  | (go_at_call 74; refine (width_calls (s.extract pos s.size) _ (by simp; omega) (by simp; omega)).mono ?_; rintro e W2 ⟨rfl, hb2⟩; rw [decode_drop, hd])
                  | (go_at_call 73; refine (all_calls (s.extract pos (pos + 1)) _ (by simp; omega)).mono ?_; rintro e W3 ⟨rfl, hb3⟩)
                  | (go_at_call 70; go_loud (refine (Tryd.Builder_WriteString_k w.heap.size w.heap.size _ _ _ (isB_below (isB_below (isB_below hI2 hb1) hb2) hb3) (by rw [Lib.byteCells_length, ← ext_list2]; exact h3) (Nat.le_trans hsz2 (Nat.le_trans hb1.size (Nat.le_trans hb2.size hb3.size)))).mono ?_; rintro e W4 ⟨rfl, h4, b4, k4⟩)))
                have hz1 := Nat.le_trans hsz2 hb1.size
                have hz2 := Nat.le_trans hz1 hb2.size
                have hit3 := k4.iter (blk_below (blk_below (blk_below hit2 hb1) hb2) hb3) (show w.heap.size + 1 ≠ w.heap.size by omega)
                go_roundw
                case rel =>
                  refine ⟨pos + 1, skip, acc ++ out1 c, rfl, ?_, hit3, hbw2.trans ((hb1.mono hsz2).trans ((hb2.mono hz1).trans ((hb3.mono hz2).trans b4))), ?_, hsk, fun i h1 h2 => absurd h2 (by omega), ?_⟩
                  · rw [ho, Lib.byteCells_append]; rw [Lib.strCells_eq, ← ext_list2, hX] at h4; simp only [codeAll, List.flatMap_cons, List.flatMap_nil, List.append_nil] at h4; exact Or.inr h4
                  · rw [e2]; exact hnB2
                  · rw [e2, List.length_append]; omega
                case measure =>
                  simp only [World.iterPos, hit3, hit]
                  omega
          · -- beyond ASCII
            have hb' : 128 ≤ (s.data.toList[pos]'(by omega)).toNat := by omega
            have hc := (decode_high s pos hp (by rw [hgs]; exact hb')).1
            have hf' : freeN (Utf8.decode s pos).1 = false := by
              cases h : freeN (Utf8.decode s pos).1
              · rfl
              · exact absurd (freeN_lt h) (by omega)
            have hx := ext_list2 s pos (Utf8.decode s pos).2
            have hX : ∀ c ∈ (s.data.toList.drop pos).take (Utf8.decode s pos).2, 128 ≤ c.toNat := by
              intro c hc'
              obtain ⟨i, hi, rfl⟩ := List.mem_iff_getElem.mp hc'
              have hi1 : i < (Utf8.decode s pos).2 := by
                have := List.length_take_le (Utf8.decode s pos).2 (s.data.toList.drop pos)
                omega
              have := hw3 (by rw [hg]; exact hb') i hi1
              rw [get_list s _ (by omega)] at this
              simpa using this
            have hnB := normB_high _ ((s.data.toList.drop pos).drop (Utf8.decode s pos).2) hX
            rw [List.take_append_drop, List.drop_drop] at hnB
            rw [← hx] at hnB
            have hnB2 : (normB (s.data.toList.drop (pos + (Utf8.decode s pos).2))).map ((acc ++ codeAll (s.extract pos (pos + (Utf8.decode s pos).2)).data.toList) ++ ·) = normB s.data.toList := by
              rw [← hacc.out, hnB, ← map_map]
            have hlx : (codeAll (s.extract pos (pos + (Utf8.decode s pos).2)).data.toList).length = 3 * (Utf8.decode s pos).2 := by
              rw [codeAll_length, hx, List.length_take, List.length_drop]
              omega
            have h3 : acc.length + ByteArray.size ⟨(codeAll (s.extract pos (pos + (Utf8.decode s pos).2)).data.toList).toArray⟩ ≤ 140737488355328 := by
              show _ + Array.size _ ≤ _
              rw [List.size_toArray, hlx]
              omega
            have e2 : max (pos + (Utf8.decode s pos).2) skip = pos + (Utf8.decode s pos).2 := Nat.max_eq_left (by omega)
            clear hX hx hnB hw3 hdc
            have hsl := fun W => slice_two s pos (Utf8.decode s pos).2 hw2 W
            go_wp2_with (first
              | (go_at_call 68; refine (plain_b (Utf8.decode s pos).1 _).mono ?_; rintro e W1 ⟨rfl, hb1⟩; rw [hf'])
              | (go_at_call 74; refine (width_calls (s.extract pos s.size) _ (by simp; omega) (by simp; omega)).mono ?_; rintro e W2 ⟨rfl, hb2⟩; rw [decode_drop])
              | (go_at_call 73; go_loud (refine (all_calls (s.extract pos (pos + (Utf8.decode s pos).2)) _ (by simp; omega)).mono ?_; rintro e W3 ⟨rfl, hb3⟩))
              | (go_at_call 70; go_loud (refine (Tryd.Builder_WriteString_k w.heap.size w.heap.size _ _ _ (isB_below (isB_below (isB_below hI2 hb1) hb2) hb3) (by rw [Lib.byteCells_length, ← ext_list2]; exact h3) (Nat.le_trans hsz2 (Nat.le_trans hb1.size (Nat.le_trans hb2.size hb3.size)))).mono ?_; rintro e W4 ⟨rfl, h4, b4, k4⟩)))
            have hz1 := Nat.le_trans hsz2 hb1.size
            have hz2 := Nat.le_trans hz1 hb2.size
            have hit3 := k4.iter (blk_below (blk_below (blk_below hit2 hb1) hb2) hb3) (show w.heap.size + 1 ≠ w.heap.size by omega)
            go_roundw
            case rel =>
              refine ⟨pos + (Utf8.decode s pos).2, skip, _, rfl, ?_, hit3, hbw2.trans ((hb1.mono hsz2).trans ((hb2.mono hz1).trans ((hb3.mono hz2).trans b4))), by rw [e2]; exact hnB2, hsk, fun i h1 h2 => absurd h2 (by omega), ?_⟩
              · rw [Lib.byteCells_append]; rw [Lib.strCells_eq, ← ext_list2] at h4; exact Or.inr h4
              · rw [e2, List.length_append, hlx]; omega
            case measure =>
              simp only [World.iterPos, hit3, hit]
              omega
    · -- the text is through
      have hnx : ∀ ty, (Instr.next (.pointer (some ⟨w.heap.size + 1, 0, none⟩)) true ty).run Tryd.prog wr = _ := fun ty => Lib.run_next_end_at wr (w.heap.size + 1) s pos ty hit hp
      go_wp2_with (go_at_call 28; refine (Tryd.Builder_String_any_k w.heap.size w.heap.size acc _ hI (by omega)).mono ?_)
      rintro e W1 ⟨rfl, _, b1, _⟩
      go_wp2
      go_ret2
      have hn : normB s.data.toList = some acc := by
        rw [← hacc.out, List.drop_of_length_le (by omega), normB_nil]
        simp
      rw [hn]
      exact ⟨rfl, hbw.trans b1⟩
theorem pct_Norm.calls (a0 : ByteArray) (r1 : ByteArray) (r2 : Bool) (w : World) (h : pct_Norm.f a0 = some (r1, r2)) :
    Calls Tryd.prog 49 #[.string a0] w fun e w' => e = .returned (.tuple #[.string r1, .bool r2]) ∧ Below w.heap.size w w' := by
  unfold pct_Norm.f at h
  split at h
  · rename_i hc
    refine (norm_calls a0 w hc).mono fun e w' ⟨h1, h2⟩ => ⟨?_, h2⟩
    rw [h1]
    have h' := Option.some.inj h
    revert h'
    cases normB a0.data.toList <;> (intro h'; cases h'; rfl)
  · cases h

end Go.Proofs.YtdnaddignhjihaaDoor.GivenM
namespace Go.Proofs.YtdnaddignhjihaaDoor.GivenM
open Go.RowKit Go.Proofs.YtdnaddignhjihaaDoor.QMB Go.Proofs.YtdnaddignhjihaaDoorW.PrintWords Go.Proofs.YtdnaddignhjihaaDoorW.PrintLast
set_option linter.unusedVariables false
open Go.Proofs.YtdnaddignhjihaaDoor.Given (Shp)
def starL (whole : Bool) : List ByteArray → ByteArray → Bool
  | [], _ => true
  | p :: ps, s => if whole && ps.isEmpty then Lib.hasSuffix s.data.toList p.data.toList else
      if Lib.index s.data.toList p.data.toList < 0 then false else starL whole ps (s.extract ((Lib.index s.data.toList p.data.toList).toNat + p.size) s.size)
def starB (p0 : ByteArray) (ps : List ByteArray) (s : ByteArray) (whole : Bool) : Bool :=
  if Lib.hasPrefix s.data.toList p0.data.toList then
    (if ps.isEmpty then !whole || (s.extract p0.size s.size).data.toList.isEmpty else starL whole ps (s.extract p0.size s.size))
  else false

theorem cell_of_row {w : World} {b : Nat} {P : List ByteArray} (h : w.heap[b]? = some (.cells (P.map Value.string).toArray 9)) (i : Nat) (hi : i < P.length) :
    w.cell? ⟨b, i, none⟩ = some (.string (P[i])) := by
  simp [World.cell?, h, hi]

theorem starL_last (x t : ByteArray) : starL true [x] t = Lib.hasSuffix t.data.toList x.data.toList := by simp [starL]
theorem starL_miss {whole : Bool} {x t : ByteArray} {ps : List ByteArray} (h : (whole && ps.isEmpty) = false) (hn : Lib.index t.data.toList x.data.toList < 0) : starL whole (x :: ps) t = false := by
  simp [starL, h, hn]
theorem starL_hit {whole : Bool} {x t : ByteArray} {ps : List ByteArray} {j : Nat} (h : (whole && ps.isEmpty) = false) (hn : Lib.index t.data.toList x.data.toList = j) :
    starL whole (x :: ps) t = starL whole ps (t.extract (j + x.size) t.size) := by
  have h0 : ¬ ((j : Int) < 0) := by omega
  rw [starL, h, hn, if_neg (by simp), if_neg h0]; rfl

set_option maxHeartbeats 4000000 in
set_option maxRecDepth 1000000 in
theorem star_calls (p0 : ByteArray) (ps : List ByteArray) (s : ByteArray) (whole : Bool) (b n c : Nat) (w : World) (hn : n = ps.length + 1) (hc : n ≤ c)
    (hr : w.heap[b]? = some (.cells ((p0 :: ps).map Value.string).toArray 9)) (hS : Shp w) (hs : s.size < 4294967281) (hl : ps.length < 1000000) :
    Calls Tryd.prog 51 #[.slice (some ⟨b, 0, none⟩) n c, .string s, .bool whole] w fun e w' => e = .returned (.bool (starB p0 ps s whole)) ∧ w' = w := by
  obtain ⟨m, hm⟩ := hS
  have hcell := cell_of_row hr
  have h0 := hcell 0 (by simp)
  simp only [List.getElem_cons_zero] at h0
  have hb0 : ∀ (x : Bool), (x == true) = x := by intro x; cases x <;> rfl
  cases hp : Lib.hasPrefix s.data.toList p0.data.toList with
  | false =>
    go_enter Tryd.func51, Tryd.ntmps51
    go_wp2_with (first | (go_at_call 76; refine (Tryd.strings_HasPrefix _ _ _).mono ?_; rintro e w1 ⟨rfl, e1⟩; obtain rfl := e1.symm; rw [hp]))
    go_ret
    exact ⟨by simp [starB, hp], rfl⟩
  | true =>
    have hle : p0.size ≤ s.size := by
      have := (List.isPrefixOf_iff_prefix.1 hp).length_le
      simpa using this
    cases ps with
    | nil =>
      subst hn
      go_enter Tryd.func51, Tryd.ntmps51
      go_wp2_with (first | (go_at_call 76; refine (Tryd.strings_HasPrefix _ _ _).mono ?_; rintro e w1 ⟨rfl, e1⟩; obtain rfl := e1.symm; rw [hp]))
      all_goals go_ret
      all_goals refine ⟨?_, rfl⟩
      all_goals (simp only [starB, hp, if_true, List.isEmpty_nil]; first | (simp [*]; done) | (cases whole <;> simp_all [Lib.toList_data]))
    | cons q qs =>
      have hs1 : (s.extract p0.size s.size).size < 4294967281 := by simp; omega
      subst hn
      go_enter Tryd.func51, Tryd.ntmps51
      have hw7 : wrap64 ((qs.length : Int) + 1) = (qs.length : Int) + 1 := by simp only [List.length_cons] at hl; simp only [wrap64]; omega
      have hc2 : (c = 1) = False := eq_false (by simp at hc; omega)
      have h11 : (((qs.length : Int) + 1 + 1) == 1) = false := by simp; omega
      go_wp2_with (first | (go_at_call 76; refine (Tryd.strings_HasPrefix _ _ _).mono ?_; rintro e w1 ⟨rfl, e1⟩; obtain rfl := e1.symm; rw [hp]))
      have hB : starB p0 (q :: qs) s whole = starL whole (q :: qs) (s.extract p0.size s.size) := by simp [starB, hp]
      rw [hw7]
      go_loopw [1, 38] (fun v1 v38 wr => ∃ (i : Nat) (t : ByteArray), v1 = .string t ∧ v38 = .int .i64 i ∧ i ≤ (q :: qs).length ∧ t.size < 4294967281 ∧ Hid (starL whole ((q :: qs).drop i) t = starL whole (q :: qs) (s.extract p0.size s.size)) ∧ wr = w) (fun v1 v38 wr => (q :: qs).length - (intOf v38).toNat)
      case atStart =>
        refine ⟨0, _, rfl, rfl, by omega, hs1, rfl, rfl⟩
      case round =>
        obtain ⟨i, t, rfl, rfl, hi, ht, hH, rfl⟩ := hrel
        simp only [List.length_cons] at hi hl
        by_cases hlt : i < qs.length + 1
        · have hlt' : ((i : Int) < (qs.length : Int) + 1) = True := eq_true (by omega)
          have hci := hcell (i + 1) (by simp; omega)
          simp only [List.getElem_cons_succ] at hci
          obtain ⟨x, hx⟩ : ∃ x, x = (q :: qs)[i]'(by simpa using hlt) := ⟨_, rfl⟩
          rw [← hx] at hci
          have hci' : wr.cell? ⟨b, 1 + i, none⟩ = some (.string x) := by rw [Nat.add_comm]; exact hci
          have hin := Lib.index_ge t.data.toList x.data.toList
          have hro := Lib.index_room t.data.toList x.data.toList
          simp only [ByteArray.size_data, Array.length_toList] at hro
          have hd : (q :: qs).drop i = x :: (q :: qs).drop (i + 1) := by rw [hx]; exact (List.drop_eq_getElem_cons (by simpa using hlt))
          rw [hd] at hH
          clear hcell hr hx hd
          by_cases hlast : whole = true ∧ i = qs.length
          · obtain ⟨rfl, rfl⟩ := hlast
            go_wp2_with (first | (go_at_call 50; refine (Tryd.strings_HasSuffix _ _ _ (Nat.le_trans (Nat.le_of_lt ht) (by decide))).mono ?_; rintro e w1 ⟨rfl, e1⟩; obtain rfl := e1.symm))
            go_ret
            have h1 := hH.out
            rw [List.drop_of_length_le (show (q :: qs).length ≤ qs.length + 1 from Nat.le_refl _), starL_last] at h1
            exact ⟨by rw [hB, ← h1]; rfl, rfl⟩
          · have hlast2 : (whole && ((q :: qs).drop (i + 1)).isEmpty) = false := by
              cases whole with
              | false => rfl
              | true =>
                have : ¬ i = qs.length := fun h => hlast ⟨rfl, h⟩
                simp; omega
            have hne : whole = false ∨ (whole = true ∧ ((i : Int) + 1 == (qs.length : Int) + 1) = false) := by
              cases whole with
              | false => exact .inl rfl
              | true =>
                have : ¬ i = qs.length := fun h => hlast ⟨rfl, h⟩
                exact .inr ⟨rfl, by simp; omega⟩
            clear hs1 hle hc
            obtain ⟨ix, hix⟩ : ∃ ix : Int, Lib.index t.data.toList x.data.toList = ix := ⟨_, rfl⟩
            rw [hix] at hin hro
            by_cases hneg : ix < 0
            · have hneg' : (ix < 0) = True := eq_true hneg
              have h1 := hH.out
              rw [starL_miss hlast2 (by rw [hix]; exact hneg), ← hB] at h1
              replace h1 := h1.symm
              clear hro hin hneg hH hB hlast2 hlast
              rcases hne with rfl | ⟨rfl, hne⟩
              · go_wp2_with (first | (go_at_call 77; refine (Tryd.strings_Index _ _ m _ ht hm).mono ?_; rintro e w1 ⟨rfl, e1⟩; obtain rfl := e1.symm; rw [hix]))
                go_ret
                exact ⟨by rw [h1]; rfl, rfl⟩
              · go_wp2_with (first | (go_at_call 77; refine (Tryd.strings_Index _ _ m _ ht hm).mono ?_; rintro e w1 ⟨rfl, e1⟩; obtain rfl := e1.symm; rw [hix]))
                go_ret
                exact ⟨by rw [h1]; rfl, rfl⟩
            · obtain ⟨j, rfl⟩ : ∃ j : Nat, ix = j := ⟨ix.toNat, by omega⟩
              have hro2 := hro (by omega)
              have h1 := hH.out
              rw [starL_hit hlast2 hix] at h1
              have hts : (t.extract (j + x.size) t.size).size < 4294967281 := by simp; omega
              have hw8 : wrap64 ((j : Int) + (x.size : Int)) = ((j + x.size : Nat) : Int) := by simp only [wrap64]; omega
              have hsl1 : (((j + x.size : Nat) : Int) ≤ (t.size : Int)) = True := eq_true (by omega)
              have hj0 : ((j : Int) < 0) = False := eq_false (by omega)
              have H1 : Hid _ := h1
              clear hro hin hneg hlast2 hlast h1 hH hB
              have h1 := H1
              rcases hne with rfl | ⟨rfl, hne⟩
              · go_wp2_with (first | (go_at_call 77; refine (Tryd.strings_Index _ _ m _ ht hm).mono ?_; rintro e w1 ⟨rfl, e1⟩; obtain rfl := e1.symm; rw [hix]))
                go_roundw
                case rel =>
                  exact ⟨i + 1, _, rfl, by go_num, by simp only [List.length_cons]; omega, hts, h1, trivial⟩
                case measure =>
                  simp [intOf]; omega
              · go_wp2_with (first | (go_at_call 77; refine (Tryd.strings_Index _ _ m _ ht hm).mono ?_; rintro e w1 ⟨rfl, e1⟩; obtain rfl := e1.symm; rw [hix]))
                go_roundw
                case rel =>
                  exact ⟨i + 1, _, rfl, by go_num, by simp only [List.length_cons]; omega, hts, h1, trivial⟩
                case measure =>
                  simp [intOf]; omega
        · have hlt' : ((i : Int) < (qs.length : Int) + 1) = False := eq_false (by omega)
          obtain rfl : i = qs.length + 1 := by omega
          go_wp2
          go_ret
          have h1 := hH.out
          rw [List.drop_of_length_le (show (q :: qs).length ≤ qs.length + 1 from Nat.le_refl _), starL] at h1
          exact ⟨by rw [hB, ← h1]; rfl, rfl⟩
end Go.Proofs.YtdnaddignhjihaaDoor.GivenM
namespace Go.Proofs.YtdnaddignhjihaaDoor.QMM
open Go.Proofs.YtdnaddignhjihaaDoor.GivenM Go.Proofs.YtdnaddignhjihaaDoor.QMB Go.Proofs.YtdnaddignhjihaaDoor.QBase
open Go.RowKit Go.Proofs.YtdnaddignhjihaaDoorW.PrintWords Go.Proofs.YtdnaddignhjihaaDoorW.PrintLast Go.Proofs.YtdnaddignhjihaaDoorW.PrintMore
attribute [local go_sem] max2_int min2_int max_two min_two max_three min_three max_four min_four   -- for this text's walks alone
set_option linter.unusedVariables false
set_option linter.unusedSimpArgs false
def errW : Option Int → Value
  | none => .nilIface
  | some c => .iface 0 (.int .i64 c)
theorem errW_none : errW none = .nilIface := rfl
theorem errW_some (c : Int) : errW (some c) = .iface 0 (.int .i64 c) := rfl

end Go.Proofs.YtdnaddignhjihaaDoor.QMM
namespace Go.Proofs.YtdnaddignhjihaaDoor.QMM
open Go.Proofs.YtdnaddignhjihaaDoor.GivenM Go.Proofs.YtdnaddignhjihaaDoor.QMB Go.Proofs.YtdnaddignhjihaaDoor.QBase
open Go.RowKit Go.Proofs.YtdnaddignhjihaaDoorW.PrintWords Go.Proofs.YtdnaddignhjihaaDoorW.PrintLast Go.Proofs.YtdnaddignhjihaaDoorW.PrintMore
attribute [local go_sem] max2_int min2_int max_two min_two max_three min_three max_four min_four   -- for this text's walks alone
set_option linter.unusedVariables false
set_option linter.unusedSimpArgs false
def match_one.f (a0 : ByteArray) : Option (ByteArray) := (pct_Norm.f a0).bind fun bt101 => (if bt101.2 = true then (some bt101.1) else (some a0))
set_option maxHeartbeats 8000000 in
set_option maxRecDepth 100000 in
theorem match_one.calls (a0 : ByteArray) (r : ByteArray) (w : World) (h : match_one.f a0 = some r) :
    Calls Tryd.prog 35 #[.string a0] w fun e w' => e = .returned (.string r) ∧ Below w.heap.size w w' := by
  have HB := Aside0.mk (Below.refl w.heap.size w)
  have H : ((pct_Norm.f a0).bind fun bt101 => (if bt101.2 = true then (some bt101.1) else (some a0))) = some r := h
  clear h
  replace H := Option.bind_eq_some_iff.mp H
  obtain ⟨⟨t101, t102⟩, A20, H⟩ := H
  replace H : (if t102 = true then (some t101) else (some a0)) = some r := H
  have A2 := Aside0.mk A20
  clear A20
  by_cases c3 : t102 = true
  · subst c3
    have H1 : (some t101) = some r := by rw [if_pos rfl] at H; exact H
    clear H
    have H := H1
    clear H1
    obtain rfl := Option.some.inj H
    go_enter Tryd.func35, Tryd.ntmps35
    go_wp2_with (first | ((with_reducible refine gate_callee (f := 49) rfl ?_); refine goesL_ (some 7) rfl rfl Tryd.func49 (by kernel_rfl) rfl #[.string a0] rfl (by (try simp only [List.map_toArray, List.map_cons, List.map_nil]); first | done | rfl | (simp only [List.length_drop, List.length_take]; rfl)) ?_; (with_reducible refine (pct_Norm.calls a0 t101 true _ A2.out).mono ?_); rintro e w4 ⟨rfl, hb⟩; refine ⟨_, rfl, ?_⟩; have n0_ := Aside0.mk (below_step (by repeat (first | (with_reducible first | exact HB.out | apply below_alloc | apply pw_below_drewN | apply below_drew1) | exact HB.out)) hb); clear HB; have HB := n0_; clear n0_; (try clear hb); (try clear hb2); (try clear hk); (try clear hi)))
    go_ret
    exact ⟨by first | rfl | (simp [errW_none, errW_some] <;> rfl) | (simp [*, errW_none, errW_some] <;> rfl) | (simp [wrap64]; done), by repeat (first | (with_reducible first | exact HB.out | apply below_alloc | apply pw_below_drewN | apply below_drew1) | exact HB.out)⟩
  · replace c3 := Bool.eq_false_iff.mpr c3
    subst c3
    have H1 : (some a0) = some r := by rw [if_neg (show ¬ (false = true) by decide)] at H; exact H
    clear H
    have H := H1
    clear H1
    obtain rfl := Option.some.inj H
    go_enter Tryd.func35, Tryd.ntmps35
    go_wp2_with (first | ((with_reducible refine gate_callee (f := 49) rfl ?_); refine goesL_ (some 7) rfl rfl Tryd.func49 (by kernel_rfl) rfl #[.string a0] rfl (by (try simp only [List.map_toArray, List.map_cons, List.map_nil]); first | done | rfl | (simp only [List.length_drop, List.length_take]; rfl)) ?_; (with_reducible refine (pct_Norm.calls a0 t101 false _ A2.out).mono ?_); rintro e w5 ⟨rfl, hb⟩; refine ⟨_, rfl, ?_⟩; have n0_ := Aside0.mk (below_step (by repeat (first | (with_reducible first | exact HB.out | apply below_alloc | apply pw_below_drewN | apply below_drew1) | exact HB.out)) hb); clear HB; have HB := n0_; clear n0_; (try clear hb); (try clear hb2); (try clear hk); (try clear hi)))
    go_ret
    exact ⟨by first | rfl | (simp [errW_none, errW_some] <;> rfl) | (simp [*, errW_none, errW_some] <;> rfl) | (simp [wrap64]; done), by repeat (first | (with_reducible first | exact HB.out | apply below_alloc | apply pw_below_drewN | apply below_drew1) | exact HB.out)⟩

end Go.Proofs.YtdnaddignhjihaaDoor.QMM
namespace Go.Proofs.YtdnaddignhjihaaDoor.GivenM
open Go.RowKit Go.Proofs.YtdnaddignhjihaaDoor.QMB Go.Proofs.YtdnaddignhjihaaDoor.QMM Go.Proofs.YtdnaddignhjihaaDoorW.PrintWords Go.Proofs.YtdnaddignhjihaaDoorW.PrintLast
set_option linter.unusedVariables false
/-- A pattern and a path in one form: does the path begin like the pattern? -/
def starP (s : ByteArray) (whole : Bool) : List ByteArray → Bool
  | [] => false
  | q :: qs => starB q qs s whole
def matchN (a p : ByteArray) : Bool :=
  let whole := Lib.hasSuffix a.data.toList [36]
  let b := if whole then a.extract 0 (a.size - 1) else a
  starP p whole (Lib.splitB ⟨#[42]⟩ 0 (Lib.countB b ⟨#[42]⟩) b)
def match_Match.f (a p : ByteArray) : Option Bool :=
  (match_one.f a).bind fun a' => (match_one.f p).bind fun p' => if a'.size < 1000000 ∧ p'.size < 4294967281 then some (matchN a' p') else none

open Go.Proofs.YtdnaddignhjihaaDoor.Given (Shp Shp.lt Shp.below)
theorem shp_alloc {w : World} (h : Shp w) (o : Obj) : Shp (w.alloc o) := h.below (Below.alloc (Below.refl _ _) (Nat.le_refl _) o)

theorem alloc_top (w : World) (o : Obj) : (w.alloc o).heap[w.heap.size]? = some o := by
  show (w.heap.push o)[w.heap.size]? = _
  simp

/-- The last call: the parts of a pattern, and star. -/
theorem parts_of (b : ByteArray) (hb : b.size < 1000000) : ∃ q qs, Lib.splitB ⟨#[42]⟩ 0 (Lib.countB b ⟨#[42]⟩) b = q :: qs ∧ Lib.countB b ⟨#[42]⟩ = qs.length ∧ qs.length < 1000000 := by
  have h1 := Lib.splitB_all ⟨#[42]⟩ (by decide) 0 _ b rfl
  have h2 := Lib.countB_le ⟨#[42]⟩ (by decide) _ b (Nat.le_refl _)
  cases hs : Lib.splitB ⟨#[42]⟩ 0 (Lib.countB b ⟨#[42]⟩) b with
  | nil => rw [hs] at h1; simp at h1
  | cons q qs =>
    rw [hs] at h1
    simp only [List.length_cons] at h1
    exact ⟨q, qs, rfl, by omega, by omega⟩

set_option maxHeartbeats 4000000 in
set_option maxRecDepth 1000000 in
theorem match_Match.calls (a0 a1 : ByteArray) (r : Bool) (w : World) (h : match_Match.f a0 a1 = some r) (hS_ : Shp w) :
    Calls Tryd.prog 36 #[.string a0, .string a1] w fun e w' => e = .returned (.bool r) ∧ Below w.heap.size w w' := by
  obtain ⟨A, hA0, h⟩ := Option.bind_eq_some_iff.mp h
  obtain ⟨P, hP0, h⟩ := Option.bind_eq_some_iff.mp h
  split at h
  case isFalse => cases h
  rename_i hz
  obtain ⟨hzA, hzP⟩ := hz
  have hr := Option.some.inj h
  clear h
  have A2 := Aside0.mk hA0
  have A3 := Aside0.mk hP0
  have HS := Aside0.mk hS_
  have HB := Aside0.mk (Below.refl w.heap.size w)
  clear hA0 hP0 hS_
  cases hw : Lib.hasSuffix A.data.toList (⟨#[36]⟩ : ByteArray).data.toList with
  | true =>
    have hA0 : A.size ≠ 0 := by
      intro e
      have : A.data.toList = [] := List.eq_nil_of_length_eq_zero (by simpa using e)
      rw [this] at hw
      exact absurd hw (by decide)
    have hw1 : wrap64 ((A.size : Int) - 1) = ((A.size - 1 : Nat) : Int) := by simp only [wrap64]; omega
    obtain ⟨q, qs, e1_, e2_, e3_⟩ := parts_of (A.extract 0 (A.size - 1)) (by simp; omega)
    have hr1 : starB q qs P true = r := by
      rw [← hr]
      have hw' : Lib.hasSuffix A.data.toList [36] = true := hw
      simp only [matchN, hw', if_true, e1_, starP]
    clear hr
    go_enter Tryd.func36, Tryd.ntmps36
    go_wp2_with (first
      | ((with_reducible refine gate_callee (f := 35) rfl ?_); refine goesL_ (some 7) rfl rfl Tryd.func35 (by kernel_rfl) rfl #[.string a0] rfl (by (try simp only [List.map_toArray, List.map_cons, List.map_nil]); first | done | rfl) ?_; (with_reducible refine (match_one.calls a0 A _ A2.out).mono ?_); rintro e w4 ⟨rfl, hb⟩; refine ⟨_, rfl, ?_⟩; have n0_ := Aside0.mk (below_step HB.out hb); clear HB; have HB := n0_; clear n0_; clear hb)
      | ((with_reducible refine gate_callee (f := 35) rfl ?_); refine goesL_ (some 9) rfl rfl Tryd.func35 (by kernel_rfl) rfl #[.string a1] rfl (by (try simp only [List.map_toArray, List.map_cons, List.map_nil]); first | done | rfl) ?_; (with_reducible refine (match_one.calls a1 P _ A3.out).mono ?_); rintro e w4 ⟨rfl, hb⟩; refine ⟨_, rfl, ?_⟩; have n0_ := Aside0.mk (below_step HB.out hb); clear HB; have HB := n0_; clear n0_; clear hb)
      | (go_at_call 50; refine (Tryd.strings_HasSuffix _ _ _ (by omega)).mono ?_; rintro e w6 ⟨rfl, e1⟩; obtain rfl := e1.symm; rw [hw])
      | (go_at_call 52; obtain ⟨m, hm⟩ := Shp.below HS.out HB.out; refine (Tryd.strings_Split (A.extract 0 (A.size - 1)) _ m _ (by simp; omega) hm (by decide)).mono ?_; rintro e w7 ⟨rfl, e1⟩; obtain rfl := e1.symm; rw [e1_, e2_])
      | (go_at_call 51; refine (star_calls q qs P true _ _ _ _ rfl (Nat.le_refl _) (alloc_top _ _) (shp_alloc (Shp.below HS.out HB.out) _) hzP e3_).mono ?_; rintro e w8 ⟨rfl, e1⟩; obtain rfl := e1.symm))
    go_ret
    exact ⟨rfl, Below.alloc HB.out HB.out.size _⟩
  | false =>
    obtain ⟨q, qs, e1_, e2_, e3_⟩ := parts_of A hzA
    have hr1 : starB q qs P false = r := by
      rw [← hr]
      have hw' : Lib.hasSuffix A.data.toList [36] = false := hw
      simp only [matchN, hw', Bool.false_eq_true, if_false, e1_, starP]
    clear hr
    go_enter Tryd.func36, Tryd.ntmps36
    go_wp2_with (first
      | ((with_reducible refine gate_callee (f := 35) rfl ?_); refine goesL_ (some 7) rfl rfl Tryd.func35 (by kernel_rfl) rfl #[.string a0] rfl (by (try simp only [List.map_toArray, List.map_cons, List.map_nil]); first | done | rfl) ?_; (with_reducible refine (match_one.calls a0 A _ A2.out).mono ?_); rintro e w4 ⟨rfl, hb⟩; refine ⟨_, rfl, ?_⟩; have n0_ := Aside0.mk (below_step HB.out hb); clear HB; have HB := n0_; clear n0_; clear hb)
      | ((with_reducible refine gate_callee (f := 35) rfl ?_); refine goesL_ (some 9) rfl rfl Tryd.func35 (by kernel_rfl) rfl #[.string a1] rfl (by (try simp only [List.map_toArray, List.map_cons, List.map_nil]); first | done | rfl) ?_; (with_reducible refine (match_one.calls a1 P _ A3.out).mono ?_); rintro e w4 ⟨rfl, hb⟩; refine ⟨_, rfl, ?_⟩; have n0_ := Aside0.mk (below_step HB.out hb); clear HB; have HB := n0_; clear n0_; clear hb)
      | (go_at_call 50; refine (Tryd.strings_HasSuffix _ _ _ (by omega)).mono ?_; rintro e w6 ⟨rfl, e1⟩; obtain rfl := e1.symm; rw [hw])
      | (go_at_call 52; obtain ⟨m, hm⟩ := Shp.below HS.out HB.out; refine (Tryd.strings_Split A _ m _ (by omega) hm (by decide)).mono ?_; rintro e w7 ⟨rfl, e1⟩; obtain rfl := e1.symm; rw [e1_, e2_])
      | (go_at_call 51; refine (star_calls q qs P false _ _ _ _ rfl (Nat.le_refl _) (alloc_top _ _) (shp_alloc (Shp.below HS.out HB.out) _) hzP e3_).mono ?_; rintro e w8 ⟨rfl, e1⟩; obtain rfl := e1.symm))
    go_ret
    exact ⟨rfl, Below.alloc HB.out HB.out.size _⟩
end Go.Proofs.YtdnaddignhjihaaDoor.GivenM
namespace Go.Proofs.YtdnaddignhjihaaDoor.QBase
open Go.Proofs.YtdnaddignhjihaaDoor.Given
open Go.RowKit Go.Proofs.YtdnaddignhjihaaDoorW.PrintWords Go.Proofs.YtdnaddignhjihaaDoorW.PrintLast Go.Proofs.YtdnaddignhjihaaDoorW.PrintMore
attribute [local go_sem] max2_int min2_int max_two min_two max_three min_three max_four min_four   -- for this text's walks alone
set_option linter.unusedVariables false
set_option linter.unusedSimpArgs false
theorem eqA30 (d : Nat) (w : World) (x0 y0 : Bool) (x1 y1 : ByteArray) :
    (Op.equalIn (d + 2) 30 (.agg #[.bool x0, .string x1]) (.agg #[.bool y0, .string y1])).run Tryd.prog w = .ok (x0 == y0 && (x1.toList == y1.toList)) w := by
  refine eqA_of Tryd.underlying30 (by kernel_rfl) ?_
  refine eqf_cons (by rfl) (by go_simp; rfl) (by go_simp; rfl) (by go_simp) ?_
  exact eqf_last (by rfl) (by go_simp; rfl) (by go_simp; rfl) (by go_simp)
end Go.Proofs.YtdnaddignhjihaaDoor.QBase
namespace Go.Proofs.YtdnaddignhjihaaDoor.QBase
open Go.Proofs.YtdnaddignhjihaaDoor.Given
open Go.RowKit Go.Proofs.YtdnaddignhjihaaDoorW.PrintWords Go.Proofs.YtdnaddignhjihaaDoorW.PrintLast Go.Proofs.YtdnaddignhjihaaDoorW.PrintMore
attribute [local go_sem] max2_int min2_int max_two min_two max_three min_three max_four min_four   -- for this text's walks alone
set_option linter.unusedVariables false
set_option linter.unusedSimpArgs false
attribute [local go_sem high] eqA30
mutual
def decorumref09_Same.j0 : Nat → Bool → Bool → Bool → List (S30) → Int → Bool → Bool → List (S30) → Int → Option (Bool)
  | 0, _, _, _, _, _, _, _, _, _ => none
  | k + 1, x33, x127000, x127001, x127002, x127003, x128000, x128001, x128002, x128003 => if x33 = true then (some false) else (decorumref09_Same.l0 k 0 x127000 x127001 x127002 x127003 x128000 x128001 x128002 x128003)
def decorumref09_Same.l0 : Nat → Int → Bool → Bool → List (S30) → Int → Bool → Bool → List (S30) → Int → Option (Bool)
  | 0, _, _, _, _, _, _, _, _, _ => none
  | k + 1, x5, x127000, x127001, x127002, x127003, x128000, x128001, x128002, x128003 => if x5 < (x127002.length : Int) then (if 0 ≤ x5 then (if x5 < (x128002.length : Int) then (if (!(((rd_T30 x127002 x5).f0) == ((rd_T30 x128002 x5).f0)) || (!((((rd_T30 x127002 x5).f1).toList) == (((rd_T30 x128002 x5).f1).toList)))) = true then (some false) else (decorumref09_Same.l0 k (wrap64 (x5 + 1)) x127000 x127001 x127002 x127003 x128000 x128001 x128002 x128003)) else (none)) else (none)) else (some true)
end
def decorumref09_Same.f (k : Nat) (a0_0 : Bool) (a0_1 : Bool) (l0_2 : List (S30)) (a0_3 : Int) (a1_0 : Bool) (a1_1 : Bool) (l1_2 : List (S30)) (a1_3 : Int) : Option (Bool) := if (a0_0 != a1_0) = true then (decorumref09_Same.j0 k true a0_0 a0_1 l0_2 a0_3 a1_0 a1_1 l1_2 a1_3) else (if (a0_1 != a1_1) = true then (decorumref09_Same.j0 k true a0_0 a0_1 l0_2 a0_3 a1_0 a1_1 l1_2 a1_3) else (if a0_3 = a1_3 then (decorumref09_Same.j0 k ((l0_2.length : Int) != (l1_2.length : Int)) a0_0 a0_1 l0_2 a0_3 a1_0 a1_1 l1_2 a1_3) else (decorumref09_Same.j0 k true a0_0 a0_1 l0_2 a0_3 a1_0 a1_1 l1_2 a1_3)))
set_option maxHeartbeats 8000000 in
set_option maxRecDepth 100000 in
theorem decorumref09_Same.calls (k : Nat) (a0_0 : Bool) (a0_1 : Bool) (A0_2 : Option Addr) (c0_2 : Nat) (l0_2 : List (S30)) (a0_3 : Int) (a1_0 : Bool) (a1_1 : Bool) (A1_2 : Option Addr) (c1_2 : Nat) (l1_2 : List (S30)) (a1_3 : Int) (r : Bool) (w : World) (hr0_2 : Kd.C k30 w A0_2 l0_2.length l0_2) (hc0_2 : l0_2.length ≤ c0_2) (hr1_2 : Kd.C k30 w A1_2 l1_2.length l1_2) (hc1_2 : l1_2.length ≤ c1_2) (h : decorumref09_Same.f k a0_0 a0_1 l0_2 a0_3 a1_0 a1_1 l1_2 a1_3 = some r) :
    Calls Tryd.prog 8 #[.agg #[.bool a0_0, .bool a0_1, .slice A0_2 l0_2.length c0_2, .int .i64 a0_3], .agg #[.bool a1_0, .bool a1_1, .slice A1_2 l1_2.length c1_2, .int .i64 a1_3]] w fun e w' => e = .returned (.bool r) ∧ Below w.heap.size w w' := by
  have hu26 := Tryd.underlying26
  have hu30 := Tryd.underlying30
  have HR0_2 := Aside0.mk hr0_2
  have HC0_2 := Aside0.mk hc0_2
  clear hr0_2 hc0_2
  have HR1_2 := Aside0.mk hr1_2
  have HC1_2 := Aside0.mk hc1_2
  clear hr1_2 hc1_2
  have HB := Aside0.mk (Below.refl w.heap.size w)
  have H : (if (a0_0 != a1_0) = true then (decorumref09_Same.j0 k true a0_0 a0_1 l0_2 a0_3 a1_0 a1_1 l1_2 a1_3) else (if (a0_1 != a1_1) = true then (decorumref09_Same.j0 k true a0_0 a0_1 l0_2 a0_3 a1_0 a1_1 l1_2 a1_3) else (if a0_3 = a1_3 then (decorumref09_Same.j0 k ((l0_2.length : Int) != (l1_2.length : Int)) a0_0 a0_1 l0_2 a0_3 a1_0 a1_1 l1_2 a1_3) else (decorumref09_Same.j0 k true a0_0 a0_1 l0_2 a0_3 a1_0 a1_1 l1_2 a1_3)))) = some r := h
  clear h
  have HC3 := Aside0.mk H
  clear H
  go_enter Tryd.func8, Tryd.ntmps8
  go_upto_region 1 with (first | ((with_reducible refine gate_dst (N := 2) rfl ?_); (try (refine gate_guard (by rfl) ?_; dsimp only)); refine box_event ?hg (N := 2) ?hd (cs := #[.bool a0_0, .bool a0_1, .slice A0_2 l0_2.length c0_2, .int .i64 a0_3]) (t := 26) ?hr ?_; (case hd => rfl); (case hg => rfl); (case hr => first | (go_simp; done) | (go_simp; rfl)); intro gb126 hg w4 hbox hb; have n0_ := Aside0.mk (below_step (by repeat (first | (with_reducible first | exact HB.out | apply below_alloc | apply pw_below_drewN | apply below_drew1) | exact HB.out)) hb); have n1_ := Aside0.mk (hbox); have n2_ := Aside0.mk ((by rw [hg]; exact (below_size (by repeat (first | (with_reducible first | exact HB.out | apply below_alloc | apply pw_below_drewN | apply below_drew1) | exact HB.out))) : w.heap.size ≤ gb126)); have n3_ := Aside0.mk ((by rw [hg]; exact (below_size (by repeat (first | (with_reducible first | exact HB.out | apply below_alloc | apply pw_below_drewN | apply below_drew1) | exact HB.out))) : w.heap.size ≤ gb126)); clear HB; have HB := n0_; have BK126 := n1_; have GW126 := n2_; have GE126 := n3_; clear n0_ n1_ n2_ n3_; clear hb hbox hg) | ((with_reducible refine gate_dst (N := 3) rfl ?_); (try (refine gate_guard (by rfl) ?_; dsimp only)); refine box_event ?hg (N := 3) ?hd (cs := #[.bool a1_0, .bool a1_1, .slice A1_2 l1_2.length c1_2, .int .i64 a1_3]) (t := 26) ?hr ?_; (case hd => rfl); (case hg => rfl); (case hr => first | (go_simp; done) | (go_simp; rfl)); intro gb127 hg w5 hbox hb; have n0_ := Aside0.mk (blk_below (g := gb126) (o := .cells #[.bool a0_0, .bool a0_1, .slice A0_2 l0_2.length c0_2, .int .i64 a0_3] 26 (0, 0)) (by (with_reducible repeat (first | refine blk_drewN ?_ _ | refine blk_drew ?_ | refine blk_alloc ?_ _)); exact BK126.out) hb); have n1_ := Aside0.mk (below_step (by repeat (first | (with_reducible first | exact HB.out | apply below_alloc | apply pw_below_drewN | apply below_drew1 | refine below_set ?_ GE126.out) | exact HB.out)) hb); have n2_ := Aside0.mk (hbox); have n3_ := Aside0.mk ((by rw [hg]; exact (below_size (by repeat (first | (with_reducible first | exact HB.out | apply below_alloc | apply pw_below_drewN | apply below_drew1 | refine below_set ?_ GE126.out) | exact HB.out))) : w.heap.size ≤ gb127)); have n4_ := Aside0.mk ((by rw [hg]; exact (below_size (by repeat (first | (with_reducible first | exact HB.out | apply below_alloc | apply pw_below_drewN | apply below_drew1 | refine below_set ?_ GE126.out) | exact HB.out))) : w.heap.size ≤ gb127)); have n5_ := Aside0.mk ((by rw [hg]; exact Nat.ne_of_lt (blk_lt (g := gb126) (o := .cells #[.bool a0_0, .bool a0_1, .slice A0_2 l0_2.length c0_2, .int .i64 a0_3] 26 (0, 0)) (by (with_reducible repeat (first | refine blk_drewN ?_ _ | refine blk_drew ?_ | refine blk_alloc ?_ _)); exact BK126.out)) : gb126 ≠ gb127)); have n6_ := Aside0.mk ((by rw [hg]; exact Nat.ne_of_gt (blk_lt (g := gb126) (o := .cells #[.bool a0_0, .bool a0_1, .slice A0_2 l0_2.length c0_2, .int .i64 a0_3] 26 (0, 0)) (by (with_reducible repeat (first | refine blk_drewN ?_ _ | refine blk_drew ?_ | refine blk_alloc ?_ _)); exact BK126.out)) : gb127 ≠ gb126)); clear BK126; clear HB; have BK126 := n0_; have HB := n1_; have BK127 := n2_; have GW127 := n3_; have GE127 := n4_; have NB126_127 := n5_; have NB127_126 := n6_; clear n0_ n1_ n2_ n3_ n4_ n5_ n6_; clear hb hbox hg))
  repeat (go_quiet (first | ((with_reducible refine gate_dst (N := 2) rfl ?_); (try (refine gate_guard (by rfl) ?_; dsimp only)); refine box_event ?hg (N := 2) ?hd (cs := #[.bool a0_0, .bool a0_1, .slice A0_2 l0_2.length c0_2, .int .i64 a0_3]) (t := 26) ?hr ?_; (case hd => rfl); (case hg => rfl); (case hr => first | (go_simp; done) | (go_simp; rfl)); intro gb126 hg w4 hbox hb; have n0_ := Aside0.mk (below_step (by repeat (first | (with_reducible first | exact HB.out | apply below_alloc | apply pw_below_drewN | apply below_drew1) | exact HB.out)) hb); have n1_ := Aside0.mk (hbox); have n2_ := Aside0.mk ((by rw [hg]; exact (below_size (by repeat (first | (with_reducible first | exact HB.out | apply below_alloc | apply pw_below_drewN | apply below_drew1) | exact HB.out))) : w.heap.size ≤ gb126)); have n3_ := Aside0.mk ((by rw [hg]; exact (below_size (by repeat (first | (with_reducible first | exact HB.out | apply below_alloc | apply pw_below_drewN | apply below_drew1) | exact HB.out))) : w.heap.size ≤ gb126)); clear HB; have HB := n0_; have BK126 := n1_; have GW126 := n2_; have GE126 := n3_; clear n0_ n1_ n2_ n3_; clear hb hbox hg) | ((with_reducible refine gate_dst (N := 3) rfl ?_); (try (refine gate_guard (by rfl) ?_; dsimp only)); refine box_event ?hg (N := 3) ?hd (cs := #[.bool a1_0, .bool a1_1, .slice A1_2 l1_2.length c1_2, .int .i64 a1_3]) (t := 26) ?hr ?_; (case hd => rfl); (case hg => rfl); (case hr => first | (go_simp; done) | (go_simp; rfl)); intro gb127 hg w5 hbox hb; have n0_ := Aside0.mk (blk_below (g := gb126) (o := .cells #[.bool a0_0, .bool a0_1, .slice A0_2 l0_2.length c0_2, .int .i64 a0_3] 26 (0, 0)) (by (with_reducible repeat (first | refine blk_drewN ?_ _ | refine blk_drew ?_ | refine blk_alloc ?_ _)); exact BK126.out) hb); have n1_ := Aside0.mk (below_step (by repeat (first | (with_reducible first | exact HB.out | apply below_alloc | apply pw_below_drewN | apply below_drew1 | refine below_set ?_ GE126.out) | exact HB.out)) hb); have n2_ := Aside0.mk (hbox); have n3_ := Aside0.mk ((by rw [hg]; exact (below_size (by repeat (first | (with_reducible first | exact HB.out | apply below_alloc | apply pw_below_drewN | apply below_drew1 | refine below_set ?_ GE126.out) | exact HB.out))) : w.heap.size ≤ gb127)); have n4_ := Aside0.mk ((by rw [hg]; exact (below_size (by repeat (first | (with_reducible first | exact HB.out | apply below_alloc | apply pw_below_drewN | apply below_drew1 | refine below_set ?_ GE126.out) | exact HB.out))) : w.heap.size ≤ gb127)); have n5_ := Aside0.mk ((by rw [hg]; exact Nat.ne_of_lt (blk_lt (g := gb126) (o := .cells #[.bool a0_0, .bool a0_1, .slice A0_2 l0_2.length c0_2, .int .i64 a0_3] 26 (0, 0)) (by (with_reducible repeat (first | refine blk_drewN ?_ _ | refine blk_drew ?_ | refine blk_alloc ?_ _)); exact BK126.out)) : gb126 ≠ gb127)); have n6_ := Aside0.mk ((by rw [hg]; exact Nat.ne_of_gt (blk_lt (g := gb126) (o := .cells #[.bool a0_0, .bool a0_1, .slice A0_2 l0_2.length c0_2, .int .i64 a0_3] 26 (0, 0)) (by (with_reducible repeat (first | refine blk_drewN ?_ _ | refine blk_drew ?_ | refine blk_alloc ?_ _)); exact BK126.out)) : gb127 ≠ gb126)); clear BK126; clear HB; have BK126 := n0_; have HB := n1_; have BK127 := n2_; have GW127 := n3_; have GE127 := n4_; have NB126_127 := n5_; have NB127_126 := n6_; clear n0_ n1_ n2_ n3_ n4_ n5_ n6_; clear hb hbox hg)); go_upto_region 1 with (first | ((with_reducible refine gate_dst (N := 2) rfl ?_); (try (refine gate_guard (by rfl) ?_; dsimp only)); refine box_event ?hg (N := 2) ?hd (cs := #[.bool a0_0, .bool a0_1, .slice A0_2 l0_2.length c0_2, .int .i64 a0_3]) (t := 26) ?hr ?_; (case hd => rfl); (case hg => rfl); (case hr => first | (go_simp; done) | (go_simp; rfl)); intro gb126 hg w4 hbox hb; have n0_ := Aside0.mk (below_step (by repeat (first | (with_reducible first | exact HB.out | apply below_alloc | apply pw_below_drewN | apply below_drew1) | exact HB.out)) hb); have n1_ := Aside0.mk (hbox); have n2_ := Aside0.mk ((by rw [hg]; exact (below_size (by repeat (first | (with_reducible first | exact HB.out | apply below_alloc | apply pw_below_drewN | apply below_drew1) | exact HB.out))) : w.heap.size ≤ gb126)); have n3_ := Aside0.mk ((by rw [hg]; exact (below_size (by repeat (first | (with_reducible first | exact HB.out | apply below_alloc | apply pw_below_drewN | apply below_drew1) | exact HB.out))) : w.heap.size ≤ gb126)); clear HB; have HB := n0_; have BK126 := n1_; have GW126 := n2_; have GE126 := n3_; clear n0_ n1_ n2_ n3_; clear hb hbox hg) | ((with_reducible refine gate_dst (N := 3) rfl ?_); (try (refine gate_guard (by rfl) ?_; dsimp only)); refine box_event ?hg (N := 3) ?hd (cs := #[.bool a1_0, .bool a1_1, .slice A1_2 l1_2.length c1_2, .int .i64 a1_3]) (t := 26) ?hr ?_; (case hd => rfl); (case hg => rfl); (case hr => first | (go_simp; done) | (go_simp; rfl)); intro gb127 hg w5 hbox hb; have n0_ := Aside0.mk (blk_below (g := gb126) (o := .cells #[.bool a0_0, .bool a0_1, .slice A0_2 l0_2.length c0_2, .int .i64 a0_3] 26 (0, 0)) (by (with_reducible repeat (first | refine blk_drewN ?_ _ | refine blk_drew ?_ | refine blk_alloc ?_ _)); exact BK126.out) hb); have n1_ := Aside0.mk (below_step (by repeat (first | (with_reducible first | exact HB.out | apply below_alloc | apply pw_below_drewN | apply below_drew1 | refine below_set ?_ GE126.out) | exact HB.out)) hb); have n2_ := Aside0.mk (hbox); have n3_ := Aside0.mk ((by rw [hg]; exact (below_size (by repeat (first | (with_reducible first | exact HB.out | apply below_alloc | apply pw_below_drewN | apply below_drew1 | refine below_set ?_ GE126.out) | exact HB.out))) : w.heap.size ≤ gb127)); have n4_ := Aside0.mk ((by rw [hg]; exact (below_size (by repeat (first | (with_reducible first | exact HB.out | apply below_alloc | apply pw_below_drewN | apply below_drew1 | refine below_set ?_ GE126.out) | exact HB.out))) : w.heap.size ≤ gb127)); have n5_ := Aside0.mk ((by rw [hg]; exact Nat.ne_of_lt (blk_lt (g := gb126) (o := .cells #[.bool a0_0, .bool a0_1, .slice A0_2 l0_2.length c0_2, .int .i64 a0_3] 26 (0, 0)) (by (with_reducible repeat (first | refine blk_drewN ?_ _ | refine blk_drew ?_ | refine blk_alloc ?_ _)); exact BK126.out)) : gb126 ≠ gb127)); have n6_ := Aside0.mk ((by rw [hg]; exact Nat.ne_of_gt (blk_lt (g := gb126) (o := .cells #[.bool a0_0, .bool a0_1, .slice A0_2 l0_2.length c0_2, .int .i64 a0_3] 26 (0, 0)) (by (with_reducible repeat (first | refine blk_drewN ?_ _ | refine blk_drew ?_ | refine blk_alloc ?_ _)); exact BK126.out)) : gb127 ≠ gb126)); clear BK126; clear HB; have BK126 := n0_; have HB := n1_; have BK127 := n2_; have GW127 := n3_; have GE127 := n4_; have NB126_127 := n5_; have NB127_126 := n6_; clear n0_ n1_ n2_ n3_ n4_ n5_ n6_; clear hb hbox hg)))
  (try simp only [Act.put, List.setIfInBounds_toArray, List.set_cons_zero, List.set_cons_succ])
  go_cut [33] (fun v33 wc => ∃ (kq : Nat) (x33_2 : Bool), v33 = .bool x33_2 ∧ Aside0 (decorumref09_Same.j0 kq x33_2 a0_0 a0_1 l0_2 a0_3 a1_0 a1_1 l1_2 a1_3 = some r) ∧ Aside0 (kq ≤ k) ∧ Aside0 (wc.heap[gb126]? = some (.cells #[.bool a0_0, .bool a0_1, (.slice A0_2 l0_2.length c0_2), .int .i64 a0_3] 26 (0, 0))) ∧ Aside0 (wc.heap[gb127]? = some (.cells #[.bool a1_0, .bool a1_1, (.slice A1_2 l1_2.length c1_2), .int .i64 a1_3] 26 (0, 0))) ∧ Aside0 (Below w.heap.size w wc))
  case first =>
    have H := HC3.out
    clear HC3
    by_cases c6 : (a0_0 != a1_0) = true
    · rw [if_pos c6] at H
      have c6b0 : (a0_0 != a1_0) = true := c6
      (try (have c6b1 : decide (a0_0 = a1_0) = false := by simpa using c6))
      (try (have c6b2 : (a0_0 == a1_0) = false := by simpa using c6))
      (try (have c6b3 : ¬ (a0_0 = a1_0) := by simpa using c6))
      clear c6
      (first | rw [c6b0] | (simp only [i64_w, i32_w]; rw [c6b0]) | skip)
      have H' := Aside0.mk H
      clear H
      have hnb7 := NB126_127.out
      have hnc7 := NB127_126.out
      have hcz8_0 : w5.cell? ⟨gb126, 0, none⟩ = some (.bool a0_0) := (blk_cell BK126.out 0).trans rfl
      have hcz8_1 : w5.cell? ⟨gb126, 1, none⟩ = some (.bool a0_1) := (blk_cell BK126.out 1).trans rfl
      have hcz8_2 : w5.cell? ⟨gb126, 2, none⟩ = some (.slice A0_2 l0_2.length c0_2) := (blk_cell BK126.out 2).trans rfl
      have hcz8_3 : w5.cell? ⟨gb126, 3, none⟩ = some (.int .i64 a0_3) := (blk_cell BK126.out 3).trans rfl
      have hfz8_0 := blk_frozen BK126.out 0
      have hfz8_1 := blk_frozen BK126.out 1
      have hfz8_2 := blk_frozen BK126.out 2
      have hfz8_3 := blk_frozen BK126.out 3
      have hcz9_0 : w5.cell? ⟨gb127, 0, none⟩ = some (.bool a1_0) := (blk_cell BK127.out 0).trans rfl
      have hcz9_1 : w5.cell? ⟨gb127, 1, none⟩ = some (.bool a1_1) := (blk_cell BK127.out 1).trans rfl
      have hcz9_2 : w5.cell? ⟨gb127, 2, none⟩ = some (.slice A1_2 l1_2.length c1_2) := (blk_cell BK127.out 2).trans rfl
      have hcz9_3 : w5.cell? ⟨gb127, 3, none⟩ = some (.int .i64 a1_3) := (blk_cell BK127.out 3).trans rfl
      have hfz9_0 := blk_frozen BK127.out 0
      have hfz9_1 := blk_frozen BK127.out 1
      have hfz9_2 := blk_frozen BK127.out 2
      have hfz9_3 := blk_frozen BK127.out 3
      go_wp2
      repeat (go_quiet (fail); try go_wp2)
      go_meet
      case rel => exact ⟨_, (true), (by first | rfl | (simp; done) | (simp [*]; done)), H', ⟨by first | omega | exact Nat.le_refl _⟩, ⟨by (with_reducible repeat (first | refine blk_drewN ?_ _ | refine blk_drew ?_ | refine blk_alloc ?_ _)); exact BK126.out⟩, ⟨by (with_reducible repeat (first | refine blk_drewN ?_ _ | refine blk_drew ?_ | refine blk_alloc ?_ _)); exact BK127.out⟩, ⟨by repeat (first | (with_reducible first | exact HB.out | apply below_alloc | apply pw_below_drewN | apply below_drew1 | refine below_set ?_ GE126.out | refine below_set ?_ GE127.out) | exact HB.out)⟩⟩
    · rw [if_neg c6] at H
      have c6b0 : (a0_0 != a1_0) = false := by simpa using c6
      (try (have c6b1 : decide (a0_0 = a1_0) = true := by simpa using c6))
      (try (have c6b2 : (a0_0 == a1_0) = true := by simpa using c6))
      clear c6
      (first | rw [c6b0] | (simp only [i64_w, i32_w]; rw [c6b0]) | skip)
      by_cases c10 : (a0_1 != a1_1) = true
      · rw [if_pos c10] at H
        have c10b0 : (a0_1 != a1_1) = true := c10
        (try (have c10b1 : decide (a0_1 = a1_1) = false := by simpa using c10))
        (try (have c10b2 : (a0_1 == a1_1) = false := by simpa using c10))
        (try (have c10b3 : ¬ (a0_1 = a1_1) := by simpa using c10))
        clear c10
        have H' := Aside0.mk H
        clear H
        have hnb11 := NB126_127.out
        have hnc11 := NB127_126.out
        have hcz12_0 : w5.cell? ⟨gb126, 0, none⟩ = some (.bool a0_0) := (blk_cell BK126.out 0).trans rfl
        have hcz12_1 : w5.cell? ⟨gb126, 1, none⟩ = some (.bool a0_1) := (blk_cell BK126.out 1).trans rfl
        have hcz12_2 : w5.cell? ⟨gb126, 2, none⟩ = some (.slice A0_2 l0_2.length c0_2) := (blk_cell BK126.out 2).trans rfl
        have hcz12_3 : w5.cell? ⟨gb126, 3, none⟩ = some (.int .i64 a0_3) := (blk_cell BK126.out 3).trans rfl
        have hfz12_0 := blk_frozen BK126.out 0
        have hfz12_1 := blk_frozen BK126.out 1
        have hfz12_2 := blk_frozen BK126.out 2
        have hfz12_3 := blk_frozen BK126.out 3
        have hcz13_0 : w5.cell? ⟨gb127, 0, none⟩ = some (.bool a1_0) := (blk_cell BK127.out 0).trans rfl
        have hcz13_1 : w5.cell? ⟨gb127, 1, none⟩ = some (.bool a1_1) := (blk_cell BK127.out 1).trans rfl
        have hcz13_2 : w5.cell? ⟨gb127, 2, none⟩ = some (.slice A1_2 l1_2.length c1_2) := (blk_cell BK127.out 2).trans rfl
        have hcz13_3 : w5.cell? ⟨gb127, 3, none⟩ = some (.int .i64 a1_3) := (blk_cell BK127.out 3).trans rfl
        have hfz13_0 := blk_frozen BK127.out 0
        have hfz13_1 := blk_frozen BK127.out 1
        have hfz13_2 := blk_frozen BK127.out 2
        have hfz13_3 := blk_frozen BK127.out 3
        go_wp2
        repeat (go_quiet (fail); try go_wp2)
        go_meet
        case rel => exact ⟨_, (true), (by first | rfl | (simp; done) | (simp [*]; done)), H', ⟨by first | omega | exact Nat.le_refl _⟩, ⟨by (with_reducible repeat (first | refine blk_drewN ?_ _ | refine blk_drew ?_ | refine blk_alloc ?_ _)); exact BK126.out⟩, ⟨by (with_reducible repeat (first | refine blk_drewN ?_ _ | refine blk_drew ?_ | refine blk_alloc ?_ _)); exact BK127.out⟩, ⟨by repeat (first | (with_reducible first | exact HB.out | apply below_alloc | apply pw_below_drewN | apply below_drew1 | refine below_set ?_ GE126.out | refine below_set ?_ GE127.out) | exact HB.out)⟩⟩
      · rw [if_neg c10] at H
        have c10b0 : (a0_1 != a1_1) = false := by simpa using c10
        (try (have c10b1 : decide (a0_1 = a1_1) = true := by simpa using c10))
        (try (have c10b2 : (a0_1 == a1_1) = true := by simpa using c10))
        clear c10
        by_cases c14 : a0_3 = a1_3
        · rw [if_pos c14] at H
          have c14b0 : (a0_3 == a1_3) = true := beq_iff_eq.mpr c14
          have c14b1 : (a0_3 != a1_3) = false := bne_eq_false_iff_eq.mpr c14
          clear c14
          have H' := Aside0.mk H
          clear H
          have hnb15 := NB126_127.out
          have hnc15 := NB127_126.out
          have hcz16_0 : w5.cell? ⟨gb126, 0, none⟩ = some (.bool a0_0) := (blk_cell BK126.out 0).trans rfl
          have hcz16_1 : w5.cell? ⟨gb126, 1, none⟩ = some (.bool a0_1) := (blk_cell BK126.out 1).trans rfl
          have hcz16_2 : w5.cell? ⟨gb126, 2, none⟩ = some (.slice A0_2 l0_2.length c0_2) := (blk_cell BK126.out 2).trans rfl
          have hcz16_3 : w5.cell? ⟨gb126, 3, none⟩ = some (.int .i64 a0_3) := (blk_cell BK126.out 3).trans rfl
          have hfz16_0 := blk_frozen BK126.out 0
          have hfz16_1 := blk_frozen BK126.out 1
          have hfz16_2 := blk_frozen BK126.out 2
          have hfz16_3 := blk_frozen BK126.out 3
          have hcz17_0 : w5.cell? ⟨gb127, 0, none⟩ = some (.bool a1_0) := (blk_cell BK127.out 0).trans rfl
          have hcz17_1 : w5.cell? ⟨gb127, 1, none⟩ = some (.bool a1_1) := (blk_cell BK127.out 1).trans rfl
          have hcz17_2 : w5.cell? ⟨gb127, 2, none⟩ = some (.slice A1_2 l1_2.length c1_2) := (blk_cell BK127.out 2).trans rfl
          have hcz17_3 : w5.cell? ⟨gb127, 3, none⟩ = some (.int .i64 a1_3) := (blk_cell BK127.out 3).trans rfl
          have hfz17_0 := blk_frozen BK127.out 0
          have hfz17_1 := blk_frozen BK127.out 1
          have hfz17_2 := blk_frozen BK127.out 2
          have hfz17_3 := blk_frozen BK127.out 3
          go_wp2
          repeat (go_quiet (fail); try go_wp2)
          go_meet
          case rel => exact ⟨_, (((l0_2.length : Int) != (l1_2.length : Int))), (by first | rfl | (simp; done) | (simp [*]; done)), H', ⟨by first | omega | exact Nat.le_refl _⟩, ⟨by (with_reducible repeat (first | refine blk_drewN ?_ _ | refine blk_drew ?_ | refine blk_alloc ?_ _)); exact BK126.out⟩, ⟨by (with_reducible repeat (first | refine blk_drewN ?_ _ | refine blk_drew ?_ | refine blk_alloc ?_ _)); exact BK127.out⟩, ⟨by repeat (first | (with_reducible first | exact HB.out | apply below_alloc | apply pw_below_drewN | apply below_drew1 | refine below_set ?_ GE126.out | refine below_set ?_ GE127.out) | exact HB.out)⟩⟩
        · rw [if_neg c14] at H
          have c14b0 : (a0_3 == a1_3) = false := beq_eq_false_iff_ne.mpr c14
          have c14b1 : (a0_3 != a1_3) = true := bne_iff_ne.mpr c14
          have H' := Aside0.mk H
          clear H
          have hnb18 := NB126_127.out
          have hnc18 := NB127_126.out
          have hcz19_0 : w5.cell? ⟨gb126, 0, none⟩ = some (.bool a0_0) := (blk_cell BK126.out 0).trans rfl
          have hcz19_1 : w5.cell? ⟨gb126, 1, none⟩ = some (.bool a0_1) := (blk_cell BK126.out 1).trans rfl
          have hcz19_2 : w5.cell? ⟨gb126, 2, none⟩ = some (.slice A0_2 l0_2.length c0_2) := (blk_cell BK126.out 2).trans rfl
          have hcz19_3 : w5.cell? ⟨gb126, 3, none⟩ = some (.int .i64 a0_3) := (blk_cell BK126.out 3).trans rfl
          have hfz19_0 := blk_frozen BK126.out 0
          have hfz19_1 := blk_frozen BK126.out 1
          have hfz19_2 := blk_frozen BK126.out 2
          have hfz19_3 := blk_frozen BK126.out 3
          have hcz20_0 : w5.cell? ⟨gb127, 0, none⟩ = some (.bool a1_0) := (blk_cell BK127.out 0).trans rfl
          have hcz20_1 : w5.cell? ⟨gb127, 1, none⟩ = some (.bool a1_1) := (blk_cell BK127.out 1).trans rfl
          have hcz20_2 : w5.cell? ⟨gb127, 2, none⟩ = some (.slice A1_2 l1_2.length c1_2) := (blk_cell BK127.out 2).trans rfl
          have hcz20_3 : w5.cell? ⟨gb127, 3, none⟩ = some (.int .i64 a1_3) := (blk_cell BK127.out 3).trans rfl
          have hfz20_0 := blk_frozen BK127.out 0
          have hfz20_1 := blk_frozen BK127.out 1
          have hfz20_2 := blk_frozen BK127.out 2
          have hfz20_3 := blk_frozen BK127.out 3
          go_wp2
          repeat (go_quiet (fail); try go_wp2)
          go_meet
          case rel => exact ⟨_, (true), (by first | rfl | (simp; done) | (simp [*]; done)), H', ⟨by first | omega | exact Nat.le_refl _⟩, ⟨by (with_reducible repeat (first | refine blk_drewN ?_ _ | refine blk_drew ?_ | refine blk_alloc ?_ _)); exact BK126.out⟩, ⟨by (with_reducible repeat (first | refine blk_drewN ?_ _ | refine blk_drew ?_ | refine blk_alloc ?_ _)); exact BK127.out⟩, ⟨by repeat (first | (with_reducible first | exact HB.out | apply below_alloc | apply pw_below_drewN | apply below_drew1 | refine below_set ?_ GE126.out | refine below_set ?_ GE127.out) | exact HB.out)⟩⟩
  case rest =>
    clear HC3
    try clear c1
    try clear p2
    try clear c6
    try clear c6b0
    try clear c6b1
    try clear c6b2
    try clear c7
    try clear c8
    try clear c10
    try clear c10b0
    try clear c10b1
    try clear c10b2
    try clear c11
    try clear c14
    try clear c14b0
    try clear c14b1
    try clear c15
    try clear c18
    try clear hcz12_0
    try clear hcz12_1
    try clear hcz12_2
    try clear hcz12_3
    try clear hcz13_0
    try clear hcz13_1
    try clear hcz13_2
    try clear hcz13_3
    try clear hcz16_0
    try clear hcz16_1
    try clear hcz16_2
    try clear hcz16_3
    try clear hcz17_0
    try clear hcz17_1
    try clear hcz17_2
    try clear hcz17_3
    try clear hcz19_0
    try clear hcz19_1
    try clear hcz19_2
    try clear hcz19_3
    try clear hcz20_0
    try clear hcz20_1
    try clear hcz20_2
    try clear hcz20_3
    try clear hcz8_0
    try clear hcz8_1
    try clear hcz8_2
    try clear hcz8_3
    try clear hcz9_0
    try clear hcz9_1
    try clear hcz9_2
    try clear hcz9_3
    try clear hfz12_0
    try clear hfz12_1
    try clear hfz12_2
    try clear hfz12_3
    try clear hfz13_0
    try clear hfz13_1
    try clear hfz13_2
    try clear hfz13_3
    try clear hfz16_0
    try clear hfz16_1
    try clear hfz16_2
    try clear hfz16_3
    try clear hfz17_0
    try clear hfz17_1
    try clear hfz17_2
    try clear hfz17_3
    try clear hfz19_0
    try clear hfz19_1
    try clear hfz19_2
    try clear hfz19_3
    try clear hfz20_0
    try clear hfz20_1
    try clear hfz20_2
    try clear hfz20_3
    try clear hfz8_0
    try clear hfz8_1
    try clear hfz8_2
    try clear hfz8_3
    try clear hfz9_0
    try clear hfz9_1
    try clear hfz9_2
    try clear hfz9_3
    obtain ⟨kq, x33_2, rfl, HA, HJ2, BK126, BK127, HB⟩ := hcut
    cases kq with
    | zero => exact absurd HA.out (by simp [decorumref09_Same.j0])
    | succ kj2 =>
      have H := HA.out
      clear HA
      simp only [decorumref09_Same.j0] at H
      by_cases c21 : x33_2 = true
      · subst c21
        have H1 : (some false) = some r := by rw [if_pos rfl] at H; exact H
        clear H
        have H := H1
        clear H1
        obtain rfl := Option.some.inj H
        go_wp2
        repeat (go_quiet (fail); try go_wp2)
        go_ret
        exact ⟨by first | rfl | (simp [errW_none, errW_some] <;> rfl) | (simp [*, errW_none, errW_some] <;> rfl) | (simp [wrap64]; done) | (simp [errW_none, errW_some] <;> exact empty_bne _), by repeat (first | (with_reducible first | exact HB.out | apply below_alloc | apply pw_below_drewN | apply below_drew1 | refine below_set ?_ GE126.out | refine below_set ?_ GE127.out) | exact HB.out)⟩
      · replace c21 := Bool.eq_false_iff.mpr c21
        subst c21
        have H1 : (decorumref09_Same.l0 kj2 0 a0_0 a0_1 l0_2 a0_3 a1_0 a1_1 l1_2 a1_3) = some r := by rw [if_neg (show ¬ (false = true) by decide)] at H; exact H
        clear H
        have H := H1
        clear H1
        have H' := Aside0.mk H
        clear H
        go_wp2
        repeat (go_quiet (fail); try go_wp2)
        go_loopg [5] kj2 (fun kq v5 w' => ∃ (x5_2 : Int), v5 = .int .i64 x5_2 ∧ Aside0 (decorumref09_Same.l0 kq x5_2 a0_0 a0_1 l0_2 a0_3 a1_0 a1_1 l1_2 a1_3 = some r) ∧ Aside0 (kq ≤ kj2) ∧ Aside0 (w'.heap[gb126]? = some (.cells #[.bool a0_0, .bool a0_1, (.slice A0_2 l0_2.length c0_2), .int .i64 a0_3] 26 (0, 0))) ∧ Aside0 (w'.heap[gb127]? = some (.cells #[.bool a1_0, .bool a1_1, (.slice A1_2 l1_2.length c1_2), .int .i64 a1_3] 26 (0, 0))) ∧ Aside0 (Below w.heap.size w w'))
        case atStart => exact ⟨(0), (by first | rfl | (simp; done) | (simp [*]; done)), H', ⟨Nat.le_refl _⟩, ⟨by (with_reducible repeat (first | refine blk_drewN ?_ _ | refine blk_drew ?_ | refine blk_alloc ?_ _)); exact BK126.out⟩, ⟨by (with_reducible repeat (first | refine blk_drewN ?_ _ | refine blk_drew ?_ | refine blk_alloc ?_ _)); exact BK127.out⟩, ⟨by repeat (first | (with_reducible first | exact HB.out | apply below_alloc | apply pw_below_drewN | apply below_drew1 | refine below_set ?_ GE126.out | refine below_set ?_ GE127.out) | exact HB.out)⟩⟩
        case round =>
          clear H'
          try clear c1
          try clear c2
          try clear p2
          try clear c6
          try clear c6b0
          try clear c6b1
          try clear c6b2
          try clear p6
          try clear c7
          try clear c8
          try clear c10
          try clear c10b0
          try clear c10b1
          try clear c10b2
          try clear c11
          try clear c14
          try clear c14b0
          try clear c14b1
          try clear c15
          try clear c18
          try clear c21
          try clear hcz12_0
          try clear hcz12_1
          try clear hcz12_2
          try clear hcz12_3
          try clear hcz13_0
          try clear hcz13_1
          try clear hcz13_2
          try clear hcz13_3
          try clear hcz16_0
          try clear hcz16_1
          try clear hcz16_2
          try clear hcz16_3
          try clear hcz17_0
          try clear hcz17_1
          try clear hcz17_2
          try clear hcz17_3
          try clear hcz19_0
          try clear hcz19_1
          try clear hcz19_2
          try clear hcz19_3
          try clear hcz20_0
          try clear hcz20_1
          try clear hcz20_2
          try clear hcz20_3
          try clear hcz8_0
          try clear hcz8_1
          try clear hcz8_2
          try clear hcz8_3
          try clear hcz9_0
          try clear hcz9_1
          try clear hcz9_2
          try clear hcz9_3
          try clear hfz12_0
          try clear hfz12_1
          try clear hfz12_2
          try clear hfz12_3
          try clear hfz13_0
          try clear hfz13_1
          try clear hfz13_2
          try clear hfz13_3
          try clear hfz16_0
          try clear hfz16_1
          try clear hfz16_2
          try clear hfz16_3
          try clear hfz17_0
          try clear hfz17_1
          try clear hfz17_2
          try clear hfz17_3
          try clear hfz19_0
          try clear hfz19_1
          try clear hfz19_2
          try clear hfz19_3
          try clear hfz20_0
          try clear hfz20_1
          try clear hfz20_2
          try clear hfz20_3
          try clear hfz8_0
          try clear hfz8_1
          try clear hfz8_2
          try clear hfz8_3
          try clear hfz9_0
          try clear hfz9_1
          try clear hfz9_2
          try clear hfz9_3
          try clear p2
          obtain ⟨x5_2, rfl, HA, HK2, BK126, BK127, HB⟩ := hrel
          cases gk with
          | zero => exact absurd HA.out (by simp [decorumref09_Same.l0])
          | succ k2 =>
            have H := HA.out
            clear HA
            simp only [decorumref09_Same.l0] at H
            by_cases c22 : x5_2 < (l0_2.length : Int)
            · rw [if_pos c22] at H
              have c22b0 : decide (x5_2 < (l0_2.length : Int)) = true := decide_eq_true c22
              clear c22
              by_cases c23 : 0 ≤ x5_2
              · rw [if_pos c23] at H
                have c23b0 : decide (0 ≤ x5_2) = true := decide_eq_true c23
                clear c23
                by_cases c24 : x5_2 < (l1_2.length : Int)
                · rw [if_pos c24] at H
                  have c24b0 : decide (x5_2 < (l1_2.length : Int)) = true := decide_eq_true c24
                  clear c24
                  by_cases c25 : (!(((rd_T30 l0_2 x5_2).f0) == ((rd_T30 l1_2 x5_2).f0)) || (!((((rd_T30 l0_2 x5_2).f1).toList) == (((rd_T30 l1_2 x5_2).f1).toList)))) = true
                  · rw [if_pos c25] at H
                    have c25b0 : (!(((rd_T30 l0_2 x5_2).f0) == ((rd_T30 l1_2 x5_2).f0)) || (!((((rd_T30 l0_2 x5_2).f1).toList) == (((rd_T30 l1_2 x5_2).f1).toList)))) = true := c25
                    clear c25
                    obtain rfl := Option.some.inj H
                    have hnb26 := NB126_127.out
                    have hnc26 := NB127_126.out
                    have hcz27_0 : wr.cell? ⟨gb126, 0, none⟩ = some (.bool a0_0) := (blk_cell BK126.out 0).trans rfl
                    have hcz27_1 : wr.cell? ⟨gb126, 1, none⟩ = some (.bool a0_1) := (blk_cell BK126.out 1).trans rfl
                    have hcz27_2 : wr.cell? ⟨gb126, 2, none⟩ = some (.slice A0_2 l0_2.length c0_2) := (blk_cell BK126.out 2).trans rfl
                    have hcz27_3 : wr.cell? ⟨gb126, 3, none⟩ = some (.int .i64 a0_3) := (blk_cell BK126.out 3).trans rfl
                    have hfz27_0 := blk_frozen BK126.out 0
                    have hfz27_1 := blk_frozen BK126.out 1
                    have hfz27_2 := blk_frozen BK126.out 2
                    have hfz27_3 := blk_frozen BK126.out 3
                    have p128 : 0 ≤ (x5_2 : Int) := of_decide_eq_true (by first | (with_reducible assumption) | assumption)
                    have q128 : x5_2 < (l0_2.length : Int) := of_decide_eq_true (by first | (with_reducible assumption) | assumption)
                    obtain ⟨ad128, e128, hx128_0, hx128_1⟩ := at_T30 HR0_2.out x5_2 p128 q128
                    cases e128
                    replace hx128_0 := (HB.out.cell (World.block_lt_of_cell? w _ hx128_0)).trans hx128_0
                    replace hx128_1 := (HB.out.cell (World.block_lt_of_cell? w _ hx128_1)).trans hx128_1
                    replace p128 := eq_true p128
                    replace q128 := eq_true q128
                    have hcz28_0 : wr.cell? ⟨gb127, 0, none⟩ = some (.bool a1_0) := (blk_cell BK127.out 0).trans rfl
                    have hcz28_1 : wr.cell? ⟨gb127, 1, none⟩ = some (.bool a1_1) := (blk_cell BK127.out 1).trans rfl
                    have hcz28_2 : wr.cell? ⟨gb127, 2, none⟩ = some (.slice A1_2 l1_2.length c1_2) := (blk_cell BK127.out 2).trans rfl
                    have hcz28_3 : wr.cell? ⟨gb127, 3, none⟩ = some (.int .i64 a1_3) := (blk_cell BK127.out 3).trans rfl
                    have hfz28_0 := blk_frozen BK127.out 0
                    have hfz28_1 := blk_frozen BK127.out 1
                    have hfz28_2 := blk_frozen BK127.out 2
                    have hfz28_3 := blk_frozen BK127.out 3
                    have p129 : 0 ≤ (x5_2 : Int) := of_decide_eq_true (by first | (with_reducible assumption) | assumption)
                    have q129 : x5_2 < (l1_2.length : Int) := of_decide_eq_true (by first | (with_reducible assumption) | assumption)
                    obtain ⟨ad129, e129, hx129_0, hx129_1⟩ := at_T30 HR1_2.out x5_2 p129 q129
                    cases e129
                    replace hx129_0 := (HB.out.cell (World.block_lt_of_cell? w _ hx129_0)).trans hx129_0
                    replace hx129_1 := (HB.out.cell (World.block_lt_of_cell? w _ hx129_1)).trans hx129_1
                    replace p129 := eq_true p129
                    replace q129 := eq_true q129
                    go_wp2
                    repeat (go_quiet (fail); try go_wp2)
                    go_ret
                    exact ⟨by first | rfl | (simp [errW_none, errW_some] <;> rfl) | (simp [*, errW_none, errW_some] <;> rfl) | (simp [wrap64]; done) | (simp [errW_none, errW_some] <;> exact empty_bne _), by repeat (first | (with_reducible first | exact HB.out | apply below_alloc | apply pw_below_drewN | apply below_drew1 | refine below_set ?_ GE126.out | refine below_set ?_ GE127.out) | exact HB.out)⟩
                  · rw [if_neg c25] at H
                    have c25b0 : (!(((rd_T30 l0_2 x5_2).f0) == ((rd_T30 l1_2 x5_2).f0)) || (!((((rd_T30 l0_2 x5_2).f1).toList) == (((rd_T30 l1_2 x5_2).f1).toList)))) = false := by simpa using c25
                    clear c25
                    have H' := Aside0.mk H
                    clear H
                    have hnb29 := NB126_127.out
                    have hnc29 := NB127_126.out
                    have hcz30_0 : wr.cell? ⟨gb126, 0, none⟩ = some (.bool a0_0) := (blk_cell BK126.out 0).trans rfl
                    have hcz30_1 : wr.cell? ⟨gb126, 1, none⟩ = some (.bool a0_1) := (blk_cell BK126.out 1).trans rfl
                    have hcz30_2 : wr.cell? ⟨gb126, 2, none⟩ = some (.slice A0_2 l0_2.length c0_2) := (blk_cell BK126.out 2).trans rfl
                    have hcz30_3 : wr.cell? ⟨gb126, 3, none⟩ = some (.int .i64 a0_3) := (blk_cell BK126.out 3).trans rfl
                    have hfz30_0 := blk_frozen BK126.out 0
                    have hfz30_1 := blk_frozen BK126.out 1
                    have hfz30_2 := blk_frozen BK126.out 2
                    have hfz30_3 := blk_frozen BK126.out 3
                    have p128 : 0 ≤ (x5_2 : Int) := of_decide_eq_true (by first | (with_reducible assumption) | assumption)
                    have q128 : x5_2 < (l0_2.length : Int) := of_decide_eq_true (by first | (with_reducible assumption) | assumption)
                    obtain ⟨ad128, e128, hx128_0, hx128_1⟩ := at_T30 HR0_2.out x5_2 p128 q128
                    cases e128
                    replace hx128_0 := (HB.out.cell (World.block_lt_of_cell? w _ hx128_0)).trans hx128_0
                    replace hx128_1 := (HB.out.cell (World.block_lt_of_cell? w _ hx128_1)).trans hx128_1
                    replace p128 := eq_true p128
                    replace q128 := eq_true q128
                    have hcz31_0 : wr.cell? ⟨gb127, 0, none⟩ = some (.bool a1_0) := (blk_cell BK127.out 0).trans rfl
                    have hcz31_1 : wr.cell? ⟨gb127, 1, none⟩ = some (.bool a1_1) := (blk_cell BK127.out 1).trans rfl
                    have hcz31_2 : wr.cell? ⟨gb127, 2, none⟩ = some (.slice A1_2 l1_2.length c1_2) := (blk_cell BK127.out 2).trans rfl
                    have hcz31_3 : wr.cell? ⟨gb127, 3, none⟩ = some (.int .i64 a1_3) := (blk_cell BK127.out 3).trans rfl
                    have hfz31_0 := blk_frozen BK127.out 0
                    have hfz31_1 := blk_frozen BK127.out 1
                    have hfz31_2 := blk_frozen BK127.out 2
                    have hfz31_3 := blk_frozen BK127.out 3
                    have p129 : 0 ≤ (x5_2 : Int) := of_decide_eq_true (by first | (with_reducible assumption) | assumption)
                    have q129 : x5_2 < (l1_2.length : Int) := of_decide_eq_true (by first | (with_reducible assumption) | assumption)
                    obtain ⟨ad129, e129, hx129_0, hx129_1⟩ := at_T30 HR1_2.out x5_2 p129 q129
                    cases e129
                    replace hx129_0 := (HB.out.cell (World.block_lt_of_cell? w _ hx129_0)).trans hx129_0
                    replace hx129_1 := (HB.out.cell (World.block_lt_of_cell? w _ hx129_1)).trans hx129_1
                    replace p129 := eq_true p129
                    replace q129 := eq_true q129
                    go_wp2
                    repeat (go_quiet (fail); try go_wp2)
                    go_roundg k2
                    case measure => have := HJ2.out; have := HK2.out; omega
                    case rel => exact ⟨(wrap64 (x5_2 + 1)), (by first | rfl | (simp; done) | (simp [*]; done)), H', ⟨by have := HJ2.out; have := HK2.out; omega⟩, ⟨by (with_reducible repeat (first | refine blk_drewN ?_ _ | refine blk_drew ?_ | refine blk_alloc ?_ _)); exact BK126.out⟩, ⟨by (with_reducible repeat (first | refine blk_drewN ?_ _ | refine blk_drew ?_ | refine blk_alloc ?_ _)); exact BK127.out⟩, ⟨by repeat (first | (with_reducible first | exact HB.out | apply below_alloc | apply pw_below_drewN | apply below_drew1 | refine below_set ?_ GE126.out | refine below_set ?_ GE127.out) | exact HB.out)⟩⟩
                · rw [if_neg c24] at H
                  exact absurd H (by simp)
              · rw [if_neg c23] at H
                exact absurd H (by simp)
            · rw [if_neg c22] at H
              have c22b0 : decide (x5_2 < (l0_2.length : Int)) = false := decide_eq_false c22
              clear c22
              obtain rfl := Option.some.inj H
              have hnb32 := NB126_127.out
              have hnc32 := NB127_126.out
              have hcz33_0 : wr.cell? ⟨gb126, 0, none⟩ = some (.bool a0_0) := (blk_cell BK126.out 0).trans rfl
              have hcz33_1 : wr.cell? ⟨gb126, 1, none⟩ = some (.bool a0_1) := (blk_cell BK126.out 1).trans rfl
              have hcz33_2 : wr.cell? ⟨gb126, 2, none⟩ = some (.slice A0_2 l0_2.length c0_2) := (blk_cell BK126.out 2).trans rfl
              have hcz33_3 : wr.cell? ⟨gb126, 3, none⟩ = some (.int .i64 a0_3) := (blk_cell BK126.out 3).trans rfl
              have hfz33_0 := blk_frozen BK126.out 0
              have hfz33_1 := blk_frozen BK126.out 1
              have hfz33_2 := blk_frozen BK126.out 2
              have hfz33_3 := blk_frozen BK126.out 3
              go_wp2
              repeat (go_quiet (fail); try go_wp2)
              go_ret
              exact ⟨by first | rfl | (simp [errW_none, errW_some] <;> rfl) | (simp [*, errW_none, errW_some] <;> rfl) | (simp [wrap64]; done) | (simp [errW_none, errW_some] <;> exact empty_bne _), by repeat (first | (with_reducible first | exact HB.out | apply below_alloc | apply pw_below_drewN | apply below_drew1 | refine below_set ?_ GE126.out | refine below_set ?_ GE127.out) | exact HB.out)⟩

-- NOT PRINTED: function 19 (decorumref09_Groups)

def decorumref09_Token.l0 : Nat → ByteArray → Int → Option (ByteArray)
  | 0, _, _ => none
  | k + 1, x3, x4 => if x4 < (x3.size : Int) then (if 0 ≤ x4 then (if (bt x3 x4) ≥ 97 then (if (bt x3 x4) ≤ 122 then (decorumref09_Token.l0 k x3 (wrap64 (x4 + 1))) else (if (bt x3 x4) = 45 then (decorumref09_Token.l0 k x3 (wrap64 (x4 + 1))) else (if (bt x3 x4) = 95 then (decorumref09_Token.l0 k x3 (wrap64 (x4 + 1))) else (if x4 ≤ (x3.size : Int) then (some (x3.extract 0 (x4 : Int).toNat)) else (none))))) else (if (bt x3 x4) = 45 then (decorumref09_Token.l0 k x3 (wrap64 (x4 + 1))) else (if (bt x3 x4) = 95 then (decorumref09_Token.l0 k x3 (wrap64 (x4 + 1))) else (if x4 ≤ (x3.size : Int) then (some (x3.extract 0 (x4 : Int).toNat)) else (none))))) else (none)) else (if 0 ≤ x4 then (if x4 ≤ (x3.size : Int) then (some (x3.extract 0 (x4 : Int).toNat)) else (none)) else (none))
def decorumref09_Token.f (k : Nat) (a0 : ByteArray) : Option (ByteArray) := (decorumref09_Lower.f a0).bind fun t153 => (decorumref09_Token.l0 k t153 0)
set_option maxHeartbeats 8000000 in
set_option maxRecDepth 100000 in
theorem decorumref09_Token.calls (k : Nat) (a0 : ByteArray) (r : ByteArray) (w : World) (h : decorumref09_Token.f k a0 = some r) :
    Calls Tryd.prog 15 #[.string a0] w fun e w' => e = .returned (.string r) ∧ Below w.heap.size w w' := by
  have HB := Aside0.mk (Below.refl w.heap.size w)
  have H : ((decorumref09_Lower.f a0).bind fun t153 => (decorumref09_Token.l0 k t153 0)) = some r := h
  clear h
  replace H := Option.bind_eq_some_iff.mp H
  obtain ⟨t153, A20, H⟩ := H
  replace H : (decorumref09_Token.l0 k t153 0) = some r := H
  have A2 := Aside0.mk A20
  clear A20
  have H' := Aside0.mk H
  clear H
  go_enter Tryd.func15, Tryd.ntmps15
  go_wp2_with (first | ((with_reducible refine gate_callee (f := 29) rfl ?_); refine goesL_ (some 6) rfl rfl Tryd.func29 (by kernel_rfl) rfl #[.string a0] rfl (by (try simp only [List.map_toArray, List.map_cons, List.map_nil]); first | done | rfl | (simp only [List.length_drop, List.length_take]; rfl)) ?_; (with_reducible refine (decorumref09_Lower.calls a0 t153 _ A2.out).mono ?_); rintro e w3 ⟨rfl, hb⟩; refine ⟨_, rfl, ?_⟩; have n0_ := Aside0.mk (below_step (by repeat (first | (with_reducible first | exact HB.out | apply below_alloc | apply pw_below_drewN | apply below_drew1) | exact HB.out)) hb); clear HB; have HB := n0_; clear n0_; (try clear hb); (try clear hb2); (try clear hk); (try clear hi)))
  go_loopg [4] k (fun kq v4 w' => ∃ (x4_1 : Int), v4 = .int .i64 x4_1 ∧ Aside0 (decorumref09_Token.l0 kq t153 x4_1 = some r) ∧ Aside0 (kq ≤ k) ∧ Aside0 (Below w.heap.size w w'))
  case atStart => exact ⟨(0), (by first | rfl | (simp; done) | (simp [*]; done)), H', ⟨Nat.le_refl _⟩, ⟨by repeat (first | (with_reducible first | exact HB.out | apply below_alloc | apply pw_below_drewN | apply below_drew1) | exact HB.out)⟩⟩
  case round =>
    clear H'
    try clear c1
    try clear c2
    try clear p2
    obtain ⟨x4_1, rfl, HA, HK1, HB⟩ := hrel
    cases gk with
    | zero => exact absurd HA.out (by simp [decorumref09_Token.l0])
    | succ k1 =>
      have H := HA.out
      clear HA
      simp only [decorumref09_Token.l0] at H
      by_cases c4 : x4_1 < (t153.size : Int)
      · rw [if_pos c4] at H
        have c4b0 : decide (x4_1 < (t153.size : Int)) = true := decide_eq_true c4
        clear c4
        by_cases c5 : 0 ≤ x4_1
        · rw [if_pos c5] at H
          have c5b0 : decide (0 ≤ x4_1) = true := decide_eq_true c5
          clear c5
          by_cases c7 : (bt t153 x4_1) ≥ 97
          · rw [if_pos c7] at H
            have c7b0 : decide (97 ≤ (bt t153 x4_1)) = true := decide_eq_true c7
            clear c7
            by_cases c9 : (bt t153 x4_1) ≤ 122
            · rw [if_pos c9] at H
              have c9b0 : decide ((bt t153 x4_1) ≤ 122) = true := decide_eq_true c9
              clear c9
              have H' := Aside0.mk H
              clear H
              have p6 : 0 ≤ (x4_1 : Int) := of_decide_eq_true (by first | (with_reducible assumption) | assumption)
              have q6 : x4_1 < (t153.size : Int) := of_decide_eq_true (by first | (with_reducible assumption) | assumption)
              have hx6 := bt_at t153 x4_1
              replace p6 := eq_true p6
              replace q6 := eq_true q6
              have p8 : 0 ≤ (x4_1 : Int) := of_decide_eq_true (by first | (with_reducible assumption) | assumption)
              have q8 : x4_1 < (t153.size : Int) := of_decide_eq_true (by first | (with_reducible assumption) | assumption)
              have hx8 := bt_at t153 x4_1
              replace p8 := eq_true p8
              replace q8 := eq_true q8
              go_wp2
              go_roundg k1
              case measure => have := HK1.out; omega
              case rel => exact ⟨(wrap64 (x4_1 + 1)), (by first | rfl | (simp; done) | (simp [*]; done)), H', ⟨by have := HK1.out; omega⟩, ⟨by repeat (first | (with_reducible first | exact HB.out | apply below_alloc | apply pw_below_drewN | apply below_drew1) | exact HB.out)⟩⟩
            · rw [if_neg c9] at H
              have c9b0 : decide ((bt t153 x4_1) ≤ 122) = false := decide_eq_false c9
              clear c9
              by_cases c11 : (bt t153 x4_1) = 45
              · rw [if_pos c11] at H
                have c11b0 : ((bt t153 x4_1) == 45) = true := beq_iff_eq.mpr c11
                have c11b1 : ((bt t153 x4_1) != 45) = false := bne_eq_false_iff_eq.mpr c11
                clear c11
                have H' := Aside0.mk H
                clear H
                have p6 : 0 ≤ (x4_1 : Int) := of_decide_eq_true (by first | (with_reducible assumption) | assumption)
                have q6 : x4_1 < (t153.size : Int) := of_decide_eq_true (by first | (with_reducible assumption) | assumption)
                have hx6 := bt_at t153 x4_1
                replace p6 := eq_true p6
                replace q6 := eq_true q6
                have p8 : 0 ≤ (x4_1 : Int) := of_decide_eq_true (by first | (with_reducible assumption) | assumption)
                have q8 : x4_1 < (t153.size : Int) := of_decide_eq_true (by first | (with_reducible assumption) | assumption)
                have hx8 := bt_at t153 x4_1
                replace p8 := eq_true p8
                replace q8 := eq_true q8
                have p10 : 0 ≤ (x4_1 : Int) := of_decide_eq_true (by first | (with_reducible assumption) | assumption)
                have q10 : x4_1 < (t153.size : Int) := of_decide_eq_true (by first | (with_reducible assumption) | assumption)
                have hx10 := bt_at t153 x4_1
                replace p10 := eq_true p10
                replace q10 := eq_true q10
                go_wp2
                go_roundg k1
                case measure => have := HK1.out; omega
                case rel => exact ⟨(wrap64 (x4_1 + 1)), (by first | rfl | (simp; done) | (simp [*]; done)), H', ⟨by have := HK1.out; omega⟩, ⟨by repeat (first | (with_reducible first | exact HB.out | apply below_alloc | apply pw_below_drewN | apply below_drew1) | exact HB.out)⟩⟩
              · rw [if_neg c11] at H
                have c11b0 : ((bt t153 x4_1) == 45) = false := beq_eq_false_iff_ne.mpr c11
                have c11b1 : ((bt t153 x4_1) != 45) = true := bne_iff_ne.mpr c11
                by_cases c13 : (bt t153 x4_1) = 95
                · rw [if_pos c13] at H
                  have c13b0 : ((bt t153 x4_1) == 95) = true := beq_iff_eq.mpr c13
                  have c13b1 : ((bt t153 x4_1) != 95) = false := bne_eq_false_iff_eq.mpr c13
                  clear c13
                  have H' := Aside0.mk H
                  clear H
                  have p6 : 0 ≤ (x4_1 : Int) := of_decide_eq_true (by first | (with_reducible assumption) | assumption)
                  have q6 : x4_1 < (t153.size : Int) := of_decide_eq_true (by first | (with_reducible assumption) | assumption)
                  have hx6 := bt_at t153 x4_1
                  replace p6 := eq_true p6
                  replace q6 := eq_true q6
                  have p8 : 0 ≤ (x4_1 : Int) := of_decide_eq_true (by first | (with_reducible assumption) | assumption)
                  have q8 : x4_1 < (t153.size : Int) := of_decide_eq_true (by first | (with_reducible assumption) | assumption)
                  have hx8 := bt_at t153 x4_1
                  replace p8 := eq_true p8
                  replace q8 := eq_true q8
                  have p10 : 0 ≤ (x4_1 : Int) := of_decide_eq_true (by first | (with_reducible assumption) | assumption)
                  have q10 : x4_1 < (t153.size : Int) := of_decide_eq_true (by first | (with_reducible assumption) | assumption)
                  have hx10 := bt_at t153 x4_1
                  replace p10 := eq_true p10
                  replace q10 := eq_true q10
                  have p12 : 0 ≤ (x4_1 : Int) := of_decide_eq_true (by first | (with_reducible assumption) | assumption)
                  have q12 : x4_1 < (t153.size : Int) := of_decide_eq_true (by first | (with_reducible assumption) | assumption)
                  have hx12 := bt_at t153 x4_1
                  replace p12 := eq_true p12
                  replace q12 := eq_true q12
                  go_wp2
                  go_roundg k1
                  case measure => have := HK1.out; omega
                  case rel => exact ⟨(wrap64 (x4_1 + 1)), (by first | rfl | (simp; done) | (simp [*]; done)), H', ⟨by have := HK1.out; omega⟩, ⟨by repeat (first | (with_reducible first | exact HB.out | apply below_alloc | apply pw_below_drewN | apply below_drew1) | exact HB.out)⟩⟩
                · rw [if_neg c13] at H
                  have c13b0 : ((bt t153 x4_1) == 95) = false := beq_eq_false_iff_ne.mpr c13
                  have c13b1 : ((bt t153 x4_1) != 95) = true := bne_iff_ne.mpr c13
                  have c14b0 := eq_true (of_decide_eq_true (by first | (with_reducible assumption) | assumption) : 0 ≤ x4_1)
                  by_cases c15 : x4_1 ≤ (t153.size : Int)
                  · rw [if_pos c15] at H
                    have c15b0 := eq_true c15
                    have c15b1 : decide (x4_1 ≤ (t153.size : Int)) = true := decide_eq_true c15
                    clear c15
                    obtain rfl := Option.some.inj H
                    have p6 : 0 ≤ (x4_1 : Int) := of_decide_eq_true (by first | (with_reducible assumption) | assumption)
                    have q6 : x4_1 < (t153.size : Int) := of_decide_eq_true (by first | (with_reducible assumption) | assumption)
                    have hx6 := bt_at t153 x4_1
                    replace p6 := eq_true p6
                    replace q6 := eq_true q6
                    have p8 : 0 ≤ (x4_1 : Int) := of_decide_eq_true (by first | (with_reducible assumption) | assumption)
                    have q8 : x4_1 < (t153.size : Int) := of_decide_eq_true (by first | (with_reducible assumption) | assumption)
                    have hx8 := bt_at t153 x4_1
                    replace p8 := eq_true p8
                    replace q8 := eq_true q8
                    have p10 : 0 ≤ (x4_1 : Int) := of_decide_eq_true (by first | (with_reducible assumption) | assumption)
                    have q10 : x4_1 < (t153.size : Int) := of_decide_eq_true (by first | (with_reducible assumption) | assumption)
                    have hx10 := bt_at t153 x4_1
                    replace p10 := eq_true p10
                    replace q10 := eq_true q10
                    have p12 : 0 ≤ (x4_1 : Int) := of_decide_eq_true (by first | (with_reducible assumption) | assumption)
                    have q12 : x4_1 < (t153.size : Int) := of_decide_eq_true (by first | (with_reducible assumption) | assumption)
                    have hx12 := bt_at t153 x4_1
                    replace p12 := eq_true p12
                    replace q12 := eq_true q12
                    go_wp2
                    go_ret
                    exact ⟨by first | rfl | (simp [errW_none, errW_some] <;> rfl) | (simp [*, errW_none, errW_some] <;> rfl) | (simp [wrap64]; done) | (simp [errW_none, errW_some] <;> exact empty_bne _), by repeat (first | (with_reducible first | exact HB.out | apply below_alloc | apply pw_below_drewN | apply below_drew1) | exact HB.out)⟩
                  · rw [if_neg c15] at H
                    exact absurd H (by simp)
          · rw [if_neg c7] at H
            have c7b0 : decide (97 ≤ (bt t153 x4_1)) = false := decide_eq_false c7
            clear c7
            by_cases c17 : (bt t153 x4_1) = 45
            · rw [if_pos c17] at H
              have c17b0 : ((bt t153 x4_1) == 45) = true := beq_iff_eq.mpr c17
              have c17b1 : ((bt t153 x4_1) != 45) = false := bne_eq_false_iff_eq.mpr c17
              clear c17
              have H' := Aside0.mk H
              clear H
              have p6 : 0 ≤ (x4_1 : Int) := of_decide_eq_true (by first | (with_reducible assumption) | assumption)
              have q6 : x4_1 < (t153.size : Int) := of_decide_eq_true (by first | (with_reducible assumption) | assumption)
              have hx6 := bt_at t153 x4_1
              replace p6 := eq_true p6
              replace q6 := eq_true q6
              have p16 : 0 ≤ (x4_1 : Int) := of_decide_eq_true (by first | (with_reducible assumption) | assumption)
              have q16 : x4_1 < (t153.size : Int) := of_decide_eq_true (by first | (with_reducible assumption) | assumption)
              have hx16 := bt_at t153 x4_1
              replace p16 := eq_true p16
              replace q16 := eq_true q16
              go_wp2
              go_roundg k1
              case measure => have := HK1.out; omega
              case rel => exact ⟨(wrap64 (x4_1 + 1)), (by first | rfl | (simp; done) | (simp [*]; done)), H', ⟨by have := HK1.out; omega⟩, ⟨by repeat (first | (with_reducible first | exact HB.out | apply below_alloc | apply pw_below_drewN | apply below_drew1) | exact HB.out)⟩⟩
            · rw [if_neg c17] at H
              have c17b0 : ((bt t153 x4_1) == 45) = false := beq_eq_false_iff_ne.mpr c17
              have c17b1 : ((bt t153 x4_1) != 45) = true := bne_iff_ne.mpr c17
              by_cases c19 : (bt t153 x4_1) = 95
              · rw [if_pos c19] at H
                have c19b0 : ((bt t153 x4_1) == 95) = true := beq_iff_eq.mpr c19
                have c19b1 : ((bt t153 x4_1) != 95) = false := bne_eq_false_iff_eq.mpr c19
                clear c19
                have H' := Aside0.mk H
                clear H
                have p6 : 0 ≤ (x4_1 : Int) := of_decide_eq_true (by first | (with_reducible assumption) | assumption)
                have q6 : x4_1 < (t153.size : Int) := of_decide_eq_true (by first | (with_reducible assumption) | assumption)
                have hx6 := bt_at t153 x4_1
                replace p6 := eq_true p6
                replace q6 := eq_true q6
                have p16 : 0 ≤ (x4_1 : Int) := of_decide_eq_true (by first | (with_reducible assumption) | assumption)
                have q16 : x4_1 < (t153.size : Int) := of_decide_eq_true (by first | (with_reducible assumption) | assumption)
                have hx16 := bt_at t153 x4_1
                replace p16 := eq_true p16
                replace q16 := eq_true q16
                have p18 : 0 ≤ (x4_1 : Int) := of_decide_eq_true (by first | (with_reducible assumption) | assumption)
                have q18 : x4_1 < (t153.size : Int) := of_decide_eq_true (by first | (with_reducible assumption) | assumption)
                have hx18 := bt_at t153 x4_1
                replace p18 := eq_true p18
                replace q18 := eq_true q18
                go_wp2
                go_roundg k1
                case measure => have := HK1.out; omega
                case rel => exact ⟨(wrap64 (x4_1 + 1)), (by first | rfl | (simp; done) | (simp [*]; done)), H', ⟨by have := HK1.out; omega⟩, ⟨by repeat (first | (with_reducible first | exact HB.out | apply below_alloc | apply pw_below_drewN | apply below_drew1) | exact HB.out)⟩⟩
              · rw [if_neg c19] at H
                have c19b0 : ((bt t153 x4_1) == 95) = false := beq_eq_false_iff_ne.mpr c19
                have c19b1 : ((bt t153 x4_1) != 95) = true := bne_iff_ne.mpr c19
                have c20b0 := eq_true (of_decide_eq_true (by first | (with_reducible assumption) | assumption) : 0 ≤ x4_1)
                by_cases c21 : x4_1 ≤ (t153.size : Int)
                · rw [if_pos c21] at H
                  have c21b0 := eq_true c21
                  have c21b1 : decide (x4_1 ≤ (t153.size : Int)) = true := decide_eq_true c21
                  clear c21
                  obtain rfl := Option.some.inj H
                  have p6 : 0 ≤ (x4_1 : Int) := of_decide_eq_true (by first | (with_reducible assumption) | assumption)
                  have q6 : x4_1 < (t153.size : Int) := of_decide_eq_true (by first | (with_reducible assumption) | assumption)
                  have hx6 := bt_at t153 x4_1
                  replace p6 := eq_true p6
                  replace q6 := eq_true q6
                  have p16 : 0 ≤ (x4_1 : Int) := of_decide_eq_true (by first | (with_reducible assumption) | assumption)
                  have q16 : x4_1 < (t153.size : Int) := of_decide_eq_true (by first | (with_reducible assumption) | assumption)
                  have hx16 := bt_at t153 x4_1
                  replace p16 := eq_true p16
                  replace q16 := eq_true q16
                  have p18 : 0 ≤ (x4_1 : Int) := of_decide_eq_true (by first | (with_reducible assumption) | assumption)
                  have q18 : x4_1 < (t153.size : Int) := of_decide_eq_true (by first | (with_reducible assumption) | assumption)
                  have hx18 := bt_at t153 x4_1
                  replace p18 := eq_true p18
                  replace q18 := eq_true q18
                  go_wp2
                  go_ret
                  exact ⟨by first | rfl | (simp [errW_none, errW_some] <;> rfl) | (simp [*, errW_none, errW_some] <;> rfl) | (simp [wrap64]; done) | (simp [errW_none, errW_some] <;> exact empty_bne _), by repeat (first | (with_reducible first | exact HB.out | apply below_alloc | apply pw_below_drewN | apply below_drew1) | exact HB.out)⟩
                · rw [if_neg c21] at H
                  exact absurd H (by simp)
        · rw [if_neg c5] at H
          exact absurd H (by simp)
      · rw [if_neg c4] at H
        have c4b0 : decide (x4_1 < (t153.size : Int)) = false := decide_eq_false c4
        clear c4
        by_cases c22 : 0 ≤ x4_1
        · rw [if_pos c22] at H
          have c22b0 := eq_true c22
          have c22b1 : decide (0 ≤ x4_1) = true := decide_eq_true c22
          clear c22
          by_cases c23 : x4_1 ≤ (t153.size : Int)
          · rw [if_pos c23] at H
            have c23b0 := eq_true c23
            have c23b1 : decide (x4_1 ≤ (t153.size : Int)) = true := decide_eq_true c23
            clear c23
            obtain rfl := Option.some.inj H
            go_wp2
            go_ret
            exact ⟨by first | rfl | (simp [errW_none, errW_some] <;> rfl) | (simp [*, errW_none, errW_some] <;> rfl) | (simp [wrap64]; done) | (simp [errW_none, errW_some] <;> exact empty_bne _), by repeat (first | (with_reducible first | exact HB.out | apply below_alloc | apply pw_below_drewN | apply below_drew1) | exact HB.out)⟩
          · rw [if_neg c23] at H
            exact absurd H (by simp)
        · rw [if_neg c22] at H
          exact absurd H (by simp)

end Go.Proofs.YtdnaddignhjihaaDoor.QBase
namespace Go.Proofs.YtdnaddignhjihaaDoor.QU
open Go.Proofs.YtdnaddignhjihaaDoor.Given Go.Proofs.YtdnaddignhjihaaDoor.GivenM Go.Proofs.YtdnaddignhjihaaDoor.QBase Go.Proofs.YtdnaddignhjihaaDoor.QMM
open Go.RowKit Go.Proofs.YtdnaddignhjihaaDoorW.PrintWords Go.Proofs.YtdnaddignhjihaaDoorW.PrintLast Go.Proofs.YtdnaddignhjihaaDoorW.PrintMore
attribute [local go_sem] max2_int min2_int max_two min_two max_three min_three max_four min_four   -- for this text's walks alone
set_option linter.unusedVariables false
set_option linter.unusedSimpArgs false
def errW : Option Int → Value
  | none => .nilIface
  | some c => .iface 0 (.int .i64 c)
theorem errW_none : errW none = .nilIface := rfl
theorem errW_some (c : Int) : errW (some c) = .iface 0 (.int .i64 c) := rfl

-- the values' own types

end Go.Proofs.YtdnaddignhjihaaDoor.QU
