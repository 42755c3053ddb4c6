/- robotsReads_holds: a part of its proof (the texts QBasex4, GivP, PureP, PureR, PureS, PureT, RdA, MSpec, MO, QMBx0 without what this claim does not lean on). -/
import Derived.WalkKit
import Derived.Test.YtdnaddignhjihaaDoorProg
import Derived.Below
import Derived.Deep.Draws
import Derived.Deep.AppendLies
import Derived.Maps.AppendAt
import Derived.OwnWalk
import Derived.Laws.BytesArg
import Derived.Laws.MakeOwn
import Derived.Laws.OwnMore
import Derived.Deep.OwnRows
import Derived.Tactics
import Derived.Lib.ConvBytes
import Derived.Laws.Slices
import Derived.KernelRfl
import Derived.RowKit3
import Derived.Deep.LoopGhost
import Derived.Deep.QuietTactic
import Derived.BigQuiet
import Derived.WideLaws
import Derived.Deep.DeepCutAuto
import Derived.Deep.CutBlock
import Derived.Deep.RegionHeld3
import Derived.Laws.Rows
import Derived.Lib.AppendStr
import Derived.ArgAppend
import Derived.Laws.IdiomCopy
import Derived.OrdersHeld
import Derived.Laws.BitsLemmas
import Derived.RowKit
import Derived.Test.YtdnaddignhjihaaDoorZR4
namespace Go.Proofs.YtdnaddignhjihaaDoor.QBase
open Go.Proofs.YtdnaddignhjihaaDoor.Given
open Go.RowKit Go.Proofs.YtdnaddignhjihaaDoorW.PrintWords Go.Proofs.YtdnaddignhjihaaDoorW.PrintLast Go.Proofs.YtdnaddignhjihaaDoorW.PrintMore
attribute [local go_sem] max2_int min2_int max_two min_two max_three min_three max_four min_four   -- for this text's walks alone
set_option linter.unusedVariables false
set_option linter.unusedSimpArgs false
mutual
def decorumref09_Parse.j0 : Nat → ByteArray → Option ((List (S72)))
  | 0, _ => none
  | k + 1, x0 => if (x0.size : Int) ≥ 3 then (if 0 < (x0.size : Int) then (if (bt x0 0) = 239 then (if 1 < (x0.size : Int) then (if (bt x0 1) = 187 then (if 2 < (x0.size : Int) then (decorumref09_Parse.j1 k x0 ((bt x0 2) == 191)) else (none)) else (decorumref09_Parse.j1 k x0 false)) else (none)) else (decorumref09_Parse.j1 k x0 false)) else (none)) else (decorumref09_Parse.j1 k x0 false)
def decorumref09_Parse.j1 : Nat → ByteArray → Bool → Option ((List (S72)))
  | 0, _, _ => none
  | k + 1, x0, x30 => if x30 = true then (if 3 ≤ (x0.size : Int) then (decorumref09_Parse.j2 k (x0.extract 3 x0.size)) else (none)) else (decorumref09_Parse.j2 k x0)
def decorumref09_Parse.j2 : Nat → ByteArray → Option ((List (S72)))
  | 0, _ => none
  | k + 1, x0 => decorumref09_Parse.l0 k x0 (([] : List (S72))) 0 0
def decorumref09_Parse.l0 : Nat → ByteArray → List (S72) → Int → Int → Option ((List (S72)))
  | 0, _, _, _, _ => none
  | k + 1, x0, x3, x4, x5 => if x5 ≤ (x0.size : Int) then (if x5 = (x0.size : Int) then (decorumref09_Parse.j4 k x0 x3 x4 x5 true) else (if 0 ≤ x5 then (if x5 < (x0.size : Int) then (if (bt x0 x5) = 10 then (decorumref09_Parse.j4 k x0 x3 x4 x5 true) else (decorumref09_Parse.j4 k x0 x3 x4 x5 ((bt x0 x5) == 13))) else (none)) else (none))) else (some x3)
def decorumref09_Parse.j4 : Nat → ByteArray → List (S72) → Int → Int → Bool → Option ((List (S72)))
  | 0, _, _, _, _, _ => none
  | k + 1, x0, x3, x4, x5, x55 => if x55 = true then (if 0 ≤ x4 then (if x4 ≤ x5 then (if x5 ≤ (x0.size : Int) then ((decorumref09_say.f k (x0.extract (x4 : Int).toNat (x5 : Int).toNat)).bind fun bt119 => (if bt119.2.2 = true then (if x3.length < 4398046511104 then (decorumref09_Parse.l0 k x0 (x3 ++ [(⟨bt119.1, bt119.2.1⟩ : S72)]) (wrap64 (x5 + 1)) (wrap64 (x5 + 1))) else (none)) else (decorumref09_Parse.l0 k x0 x3 (wrap64 (x5 + 1)) (wrap64 (x5 + 1))))) else (none)) else (none)) else (none)) else (decorumref09_Parse.l0 k x0 x3 x4 (wrap64 (x5 + 1)))
end
def decorumref09_Parse.f (k : Nat) (a0 : ByteArray) : Option ((List (S72))) := if (a0.size : Int) > 4096 then (if 0 ≤ 4096 then (if 4096 ≤ (a0.size : Int) then (decorumref09_Parse.j0 k (a0.extract 0 4096)) else (none)) else (none)) else (decorumref09_Parse.j0 k a0)
set_option maxHeartbeats 8000000 in
set_option maxRecDepth 100000 in
theorem decorumref09_Parse.calls (k : Nat) (a0 : ByteArray) (r : List (S72)) (w : World) (h : decorumref09_Parse.f k a0 = some r) :
    Calls Tryd.prog 20 #[.string a0] w fun e w' => ∃ v0_ : Value, e = .returned (v0_) ∧ Kd.R k72 72 w' w.heap.size (fun _ => True) v0_ r ∧ Below w.heap.size w w' := by
  have hu72 := Tryd.underlying72
  have HB := Aside0.mk (Below.refl w.heap.size w)
  have H : (if (a0.size : Int) > 4096 then (if 0 ≤ 4096 then (if 4096 ≤ (a0.size : Int) then (decorumref09_Parse.j0 k (a0.extract 0 4096)) else (none)) else (none)) else (decorumref09_Parse.j0 k a0)) = some r := h
  clear h
  have HC2 := Aside0.mk H
  clear H
  go_enter Tryd.func20, Tryd.ntmps20
  go_upto_if 10 with (fail)
  go_cut [0] (fun v0 wc => ∃ (kq : Nat) (x0_1 : ByteArray), v0 = .string x0_1 ∧ Aside0 (decorumref09_Parse.j0 kq x0_1 = some r) ∧ Aside0 (kq ≤ k) ∧ Aside0 (Below w.heap.size w wc))
  case first =>
    have H := HC2.out
    clear HC2
    by_cases c3 : (a0.size : Int) > 4096
    · rw [if_pos c3] at H
      have c3b0 : decide (4096 < (a0.size : Int)) = true := decide_eq_true c3
      have c3b1 : decide (4096 < a0.size) = true := decide_eq_true (by omega)
      clear c3
      (first | rw [c3b0] | (simp only [i64_w, i32_w]; rw [c3b0]) | skip)
      by_cases c4 : 0 ≤ 4096
      · rw [if_pos c4] at H
        have c4b0 := eq_true c4
        have c4b1 : decide (0 ≤ 4096) = true := decide_eq_true c4
        clear c4
        by_cases c5 : 4096 ≤ (a0.size : Int)
        · rw [if_pos c5] at H
          have c5b0 := eq_true c5
          have c5b1 : decide (4096 ≤ (a0.size : Int)) = true := decide_eq_true c5
          clear c5
          have H' := Aside0.mk H
          clear H
          go_wp2
          go_meet
          case rel => exact ⟨_, (a0.extract 0 4096), (by first | rfl | (simp; done) | (simp [*]; done)), H', ⟨by first | omega | exact Nat.le_refl _⟩, ⟨by repeat (first | (with_reducible first | exact HB.out | apply below_alloc | apply pw_below_drewN | apply below_drew1) | exact HB.out)⟩⟩
        · rw [if_neg c5] at H
          exact absurd H (by simp)
      · rw [if_neg c4] at H
        exact absurd H (by simp)
    · rw [if_neg c3] at H
      have c3b0 : decide (4096 < (a0.size : Int)) = false := decide_eq_false c3
      have c3b1 : decide (4096 < a0.size) = false := decide_eq_false (by omega)
      clear c3
      (first | rw [c3b0] | (simp only [i64_w, i32_w]; rw [c3b0]) | skip)
      have H' := Aside0.mk H
      clear H
      go_wp2
      go_meet
      case rel => exact ⟨_, (a0), (by first | rfl | (simp; done) | (simp [*]; done)), H', ⟨by first | omega | exact Nat.le_refl _⟩, ⟨by repeat (first | (with_reducible first | exact HB.out | apply below_alloc | apply pw_below_drewN | apply below_drew1) | exact HB.out)⟩⟩
  case rest =>
    clear HC2
    try clear c2
    try clear p2
    try clear c3
    try clear c3b0
    try clear c3b1
    try clear c4
    try clear c4b0
    try clear c4b1
    try clear c5
    try clear c5b0
    try clear c5b1
    obtain ⟨kq, x0_1, rfl, HA, HJ1, HB⟩ := hcut
    cases kq with
    | zero => exact absurd HA.out (by simp [decorumref09_Parse.j0])
    | succ kj1 =>
      have H := HA.out
      clear HA
      simp only [decorumref09_Parse.j0] at H
      have HC6 := Aside0.mk H
      clear H
      go_upto_region 3 with (fail)
      go_cut [30] (fun v30 wc => ∃ (kq : Nat) (x30_5 : Bool), v30 = .bool x30_5 ∧ Aside0 (decorumref09_Parse.j1 kq x0_1 x30_5 = some r) ∧ Aside0 (kq ≤ kj1) ∧ Aside0 (Below w.heap.size w wc))
      case first =>
        have H := HC6.out
        clear HC6
        by_cases c7 : (x0_1.size : Int) ≥ 3
        · rw [if_pos c7] at H
          have c7b0 : decide (3 ≤ (x0_1.size : Int)) = true := decide_eq_true c7
          have c7b1 : decide (3 ≤ x0_1.size) = true := decide_eq_true (by omega)
          clear c7
          (first | rw [c7b0] | (simp only [i64_w, i32_w]; rw [c7b0]) | skip)
          by_cases c8 : 0 < (x0_1.size : Int)
          · rw [if_pos c8] at H
            have c8b0 : decide (0 < (x0_1.size : Int)) = true := decide_eq_true c8
            have c8b1 : decide (0 < x0_1.size) = true := decide_eq_true (by omega)
            clear c8
            by_cases c10 : (bt x0_1 0) = 239
            · rw [if_pos c10] at H
              have c10b0 : ((bt x0_1 0) == 239) = true := beq_iff_eq.mpr c10
              have c10b1 : ((bt x0_1 0) != 239) = false := bne_eq_false_iff_eq.mpr c10
              clear c10
              by_cases c11 : 1 < (x0_1.size : Int)
              · rw [if_pos c11] at H
                have c11b0 : decide (1 < (x0_1.size : Int)) = true := decide_eq_true c11
                have c11b1 : decide (1 < x0_1.size) = true := decide_eq_true (by omega)
                clear c11
                by_cases c13 : (bt x0_1 1) = 187
                · rw [if_pos c13] at H
                  have c13b0 : ((bt x0_1 1) == 187) = true := beq_iff_eq.mpr c13
                  have c13b1 : ((bt x0_1 1) != 187) = false := bne_eq_false_iff_eq.mpr c13
                  clear c13
                  by_cases c14 : 2 < (x0_1.size : Int)
                  · rw [if_pos c14] at H
                    have c14b0 : decide (2 < (x0_1.size : Int)) = true := decide_eq_true c14
                    have c14b1 : decide (2 < x0_1.size) = true := decide_eq_true (by omega)
                    clear c14
                    have H' := Aside0.mk H
                    clear H
                    have p9 : 0 ≤ (0 : Int) := (by omega)
                    have q9 : 0 < x0_1.size := (by have : (0 : Int) < (x0_1.size : Int) := of_decide_eq_true (by first | (with_reducible assumption) | assumption); omega)
                    have hx9 : ∀ h : 0 < x0_1.size, ((x0_1[0]'h).toNat : Int) = bt x0_1 0 := bt_at x0_1 0
                    clear p9
                    have qi9 : (0 < (x0_1.size : Int)) = True := eq_true (of_decide_eq_true (by first | (with_reducible assumption) | assumption))
                    replace q9 := eq_true q9
                    have p12 : 0 ≤ (1 : Int) := (by omega)
                    have q12 : 1 < x0_1.size := (by have : (1 : Int) < (x0_1.size : Int) := of_decide_eq_true (by first | (with_reducible assumption) | assumption); omega)
                    have hx12 : ∀ h : 1 < x0_1.size, ((x0_1[1]'h).toNat : Int) = bt x0_1 1 := bt_at x0_1 1
                    clear p12
                    have qi12 : (1 < (x0_1.size : Int)) = True := eq_true (of_decide_eq_true (by first | (with_reducible assumption) | assumption))
                    replace q12 := eq_true q12
                    have p15 : 0 ≤ (2 : Int) := (by omega)
                    have q15 : 2 < x0_1.size := (by have : (2 : Int) < (x0_1.size : Int) := of_decide_eq_true (by first | (with_reducible assumption) | assumption); omega)
                    have hx15 : ∀ h : 2 < x0_1.size, ((x0_1[2]'h).toNat : Int) = bt x0_1 2 := bt_at x0_1 2
                    clear p15
                    have qi15 : (2 < (x0_1.size : Int)) = True := eq_true (of_decide_eq_true (by first | (with_reducible assumption) | assumption))
                    replace q15 := eq_true q15
                    go_wp2
                    go_meet
                    case rel => exact ⟨_, (((bt x0_1 2) == 191)), (by first | rfl | (simp; done) | (simp [*]; done)), H', ⟨by have := HJ1.out; first | omega | exact Nat.le_refl _⟩, ⟨by repeat (first | (with_reducible first | exact HB.out | apply below_alloc | apply pw_below_drewN | apply below_drew1) | exact HB.out)⟩⟩
                  · rw [if_neg c14] at H
                    exact absurd H (by simp)
                · rw [if_neg c13] at H
                  have c13b0 : ((bt x0_1 1) == 187) = false := beq_eq_false_iff_ne.mpr c13
                  have c13b1 : ((bt x0_1 1) != 187) = true := bne_iff_ne.mpr c13
                  have H' := Aside0.mk H
                  clear H
                  have p9 : 0 ≤ (0 : Int) := (by omega)
                  have q9 : 0 < x0_1.size := (by have : (0 : Int) < (x0_1.size : Int) := of_decide_eq_true (by first | (with_reducible assumption) | assumption); omega)
                  have hx9 : ∀ h : 0 < x0_1.size, ((x0_1[0]'h).toNat : Int) = bt x0_1 0 := bt_at x0_1 0
                  clear p9
                  have qi9 : (0 < (x0_1.size : Int)) = True := eq_true (of_decide_eq_true (by first | (with_reducible assumption) | assumption))
                  replace q9 := eq_true q9
                  have p12 : 0 ≤ (1 : Int) := (by omega)
                  have q12 : 1 < x0_1.size := (by have : (1 : Int) < (x0_1.size : Int) := of_decide_eq_true (by first | (with_reducible assumption) | assumption); omega)
                  have hx12 : ∀ h : 1 < x0_1.size, ((x0_1[1]'h).toNat : Int) = bt x0_1 1 := bt_at x0_1 1
                  clear p12
                  have qi12 : (1 < (x0_1.size : Int)) = True := eq_true (of_decide_eq_true (by first | (with_reducible assumption) | assumption))
                  replace q12 := eq_true q12
                  go_wp2
                  go_meet
                  case rel => exact ⟨_, (false), (by first | rfl | (simp; done) | (simp [*]; done)), H', ⟨by have := HJ1.out; first | omega | exact Nat.le_refl _⟩, ⟨by repeat (first | (with_reducible first | exact HB.out | apply below_alloc | apply pw_below_drewN | apply below_drew1) | exact HB.out)⟩⟩
              · rw [if_neg c11] at H
                exact absurd H (by simp)
            · rw [if_neg c10] at H
              have c10b0 : ((bt x0_1 0) == 239) = false := beq_eq_false_iff_ne.mpr c10
              have c10b1 : ((bt x0_1 0) != 239) = true := bne_iff_ne.mpr c10
              have H' := Aside0.mk H
              clear H
              have p9 : 0 ≤ (0 : Int) := (by omega)
              have q9 : 0 < x0_1.size := (by have : (0 : Int) < (x0_1.size : Int) := of_decide_eq_true (by first | (with_reducible assumption) | assumption); omega)
              have hx9 : ∀ h : 0 < x0_1.size, ((x0_1[0]'h).toNat : Int) = bt x0_1 0 := bt_at x0_1 0
              clear p9
              have qi9 : (0 < (x0_1.size : Int)) = True := eq_true (of_decide_eq_true (by first | (with_reducible assumption) | assumption))
              replace q9 := eq_true q9
              go_wp2
              go_meet
              case rel => exact ⟨_, (false), (by first | rfl | (simp; done) | (simp [*]; done)), H', ⟨by have := HJ1.out; first | omega | exact Nat.le_refl _⟩, ⟨by repeat (first | (with_reducible first | exact HB.out | apply below_alloc | apply pw_below_drewN | apply below_drew1) | exact HB.out)⟩⟩
          · rw [if_neg c8] at H
            exact absurd H (by simp)
        · rw [if_neg c7] at H
          have c7b0 : decide (3 ≤ (x0_1.size : Int)) = false := decide_eq_false c7
          have c7b1 : decide (3 ≤ x0_1.size) = false := decide_eq_false (by omega)
          clear c7
          (first | rw [c7b0] | (simp only [i64_w, i32_w]; rw [c7b0]) | skip)
          have H' := Aside0.mk H
          clear H
          go_wp2
          go_meet
          case rel => exact ⟨_, (false), (by first | rfl | (simp; done) | (simp [*]; done)), H', ⟨by have := HJ1.out; first | omega | exact Nat.le_refl _⟩, ⟨by repeat (first | (with_reducible first | exact HB.out | apply below_alloc | apply pw_below_drewN | apply below_drew1) | exact HB.out)⟩⟩
      case rest =>
        clear HC6
        try clear c1
        try clear p1
        try clear q1
        try clear hx1
        try clear qi1
        try clear c2
        try clear p2
        try clear c3
        try clear c3b0
        try clear c3b1
        try clear c4
        try clear c4b0
        try clear c4b1
        try clear c5
        try clear c5b0
        try clear c5b1
        try clear c7
        try clear c7b0
        try clear c7b1
        try clear c8
        try clear c8b0
        try clear c8b1
        try clear p9
        try clear q9
        try clear hx9
        try clear qi9
        try clear c10
        try clear c10b0
        try clear c10b1
        try clear c11
        try clear c11b0
        try clear c11b1
        try clear p12
        try clear q12
        try clear hx12
        try clear qi12
        try clear c13
        try clear c13b0
        try clear c13b1
        try clear c14
        try clear c14b0
        try clear c14b1
        try clear p15
        try clear q15
        try clear hx15
        try clear qi15
        try clear p12
        try clear p15
        try clear p2
        try clear p9
        try clear q12
        try clear q15
        try clear q9
        obtain ⟨kq, x30_5, rfl, HA, HJ5, HB⟩ := hcut
        cases kq with
        | zero => exact absurd HA.out (by simp [decorumref09_Parse.j1])
        | succ kj5 =>
          have H := HA.out
          clear HA
          simp only [decorumref09_Parse.j1] at H
          have HC16 := Aside0.mk H
          clear H
          go_upto_if 30 with (fail)
          go_cut [0] (fun v0 wc => ∃ (kq : Nat) (x0_15 : ByteArray), v0 = .string x0_15 ∧ Aside0 (decorumref09_Parse.j2 kq x0_15 = some r) ∧ Aside0 (kq ≤ kj5) ∧ Aside0 (Below w.heap.size w wc))
          case first =>
            have H := HC16.out
            clear HC16
            by_cases c17 : x30_5 = true
            · subst c17
              have H1 : (if 3 ≤ (x0_1.size : Int) then (decorumref09_Parse.j2 kj5 (x0_1.extract 3 x0_1.size)) else (none)) = some r := by rw [if_pos rfl] at H; exact H
              clear H
              have H := H1
              clear H1
              by_cases c18 : 3 ≤ (x0_1.size : Int)
              · rw [if_pos c18] at H
                have c18b0 := eq_true c18
                have c18b1 : decide (3 ≤ (x0_1.size : Int)) = true := decide_eq_true c18
                clear c18
                have H' := Aside0.mk H
                clear H
                go_wp2
                go_meet
                case rel => exact ⟨_, (x0_1.extract 3 x0_1.size), (by first | rfl | (simp; done) | (simp [*]; done)), H', ⟨by have := HJ1.out; have := HJ5.out; first | omega | exact Nat.le_refl _⟩, ⟨by repeat (first | (with_reducible first | exact HB.out | apply below_alloc | apply pw_below_drewN | apply below_drew1) | exact HB.out)⟩⟩
              · rw [if_neg c18] at H
                exact absurd H (by simp)
            · replace c17 := Bool.eq_false_iff.mpr c17
              subst c17
              have H1 : (decorumref09_Parse.j2 kj5 x0_1) = some r := by rw [if_neg (show ¬ (false = true) by decide)] at H; exact H
              clear H
              have H := H1
              clear H1
              have H' := Aside0.mk H
              clear H
              go_wp2
              go_meet
              case rel => exact ⟨_, (x0_1), (by first | rfl | (simp; done) | (simp [*]; done)), H', ⟨by have := HJ1.out; have := HJ5.out; first | omega | exact Nat.le_refl _⟩, ⟨by repeat (first | (with_reducible first | exact HB.out | apply below_alloc | apply pw_below_drewN | apply below_drew1) | exact HB.out)⟩⟩
          case rest =>
            clear HC16
            try clear c1
            try clear p1
            try clear q1
            try clear hx1
            try clear qi1
            try clear c2
            try clear p2
            try clear c3
            try clear c3b0
            try clear c3b1
            try clear c4
            try clear c4b0
            try clear c4b1
            try clear c5
            try clear c5b0
            try clear c5b1
            try clear c7
            try clear c7b0
            try clear c7b1
            try clear c8
            try clear c8b0
            try clear c8b1
            try clear p9
            try clear q9
            try clear hx9
            try clear qi9
            try clear c10
            try clear c10b0
            try clear c10b1
            try clear c11
            try clear c11b0
            try clear c11b1
            try clear p12
            try clear q12
            try clear hx12
            try clear qi12
            try clear c13
            try clear c13b0
            try clear c13b1
            try clear c14
            try clear c14b0
            try clear c14b1
            try clear p15
            try clear q15
            try clear hx15
            try clear qi15
            try clear c17
            try clear c18
            try clear c18b0
            try clear c18b1
            try clear p1
            try clear p12
            try clear p15
            try clear p2
            try clear p9
            try clear q1
            try clear q12
            try clear q15
            try clear q9
            obtain ⟨kq, x0_15, rfl, HA, HJ15, HB⟩ := hcut
            cases kq with
            | zero => exact absurd HA.out (by simp [decorumref09_Parse.j2])
            | succ kj15 =>
              have H := HA.out
              clear HA
              simp only [decorumref09_Parse.j2] at H
              obtain ⟨y116, hy116⟩ : ∃ y_ : List (S72), y_ = (([] : List (S72))) := ⟨_, rfl⟩
              replace H : (decorumref09_Parse.l0 kj15 x0_15 y116 0 0) = some r := by first | (rw [hy116]; with_reducible exact H) | (have H2_ := (Option.bind_some _ _).symm.trans H; rw [hy116]; with_reducible exact H2_) | (have H2_ := (Option.bind_some _ _).symm.trans H; with_reducible exact H2_) | with_reducible exact H | (rw [hy116]; exact H) | exact H
              have Ny116 := Aside0.mk hy116
              clear hy116
              have H' := Aside0.mk H
              clear H
              go_wp2_with (first | ((with_reducible refine gate_dst (N := 33) rfl ?_); refine Kd.R_lit k72 _ 72 ?hg (N := 33) ?hd (xs := ([] : List (S72))) (inner := []) (ok := fun _ => True) (okp := fun _ => True) ?hr ?hp (fun _ hk => hk) trivial (Below.refl _ _) (Nat.le_refl _) (by simp) ?_; (case hd => rfl); (case hg => rfl); (case hr => first | (go_simp; done) | (go_simp; rfl)); (case hp => exact (Reps.none _ _)); intro v117 w19 ho20 hb hg_ hnew_; clear hg_ hnew_; (first | rw [← Ny116.out] at ho20 | (simp only [Int.reduceToNat] at ho20; rw [← Ny116.out] at ho20)); have n0_ := Aside0.mk (Kd.R_lower ho20 (below_size (by repeat (first | (with_reducible first | exact HB.out | apply below_alloc | apply pw_below_drewN | apply below_drew1) | exact HB.out)))); have n1_ := Aside0.mk (below_step (by repeat (first | (with_reducible first | exact HB.out | apply below_alloc | apply pw_below_drewN | apply below_drew1) | exact HB.out)) hb); clear HB; have HO118 := n0_; have HB := n1_; clear n0_ n1_; clear hb ho20))
              go_loopg [3, 4, 5] kj15 (fun kq v3 v4 v5 w' => ∃ (x3_4 : List (S72)) (x4_4 : Int) (x5_4 : Int), v4 = .int .i64 x4_4 ∧ v5 = .int .i64 x5_4 ∧ Aside0 (decorumref09_Parse.l0 kq x0_15 x3_4 x4_4 x5_4 = some r) ∧ Aside0 (kq ≤ kj15) ∧ Aside0 (Kd.R k72 72 w' w.heap.size (fun _ => True) v3 x3_4) ∧ Aside0 (Below w.heap.size w w'))
              case atStart => exact ⟨(y116), (0), (0), (by first | rfl | (simp; done) | (simp [*]; done)), (by first | rfl | (simp; done) | (simp [*]; done)), H', ⟨Nat.le_refl _⟩, ⟨by (with_reducible repeat (first | apply Kd.R_alloc | apply Kd.R_drewN | apply Kd.R_drew)); exact HO118.out⟩, ⟨by repeat (first | (with_reducible first | exact HB.out | apply below_alloc | apply pw_below_drewN | apply below_drew1) | exact HB.out)⟩⟩
              case round =>
                clear H'
                try clear c1
                try clear p1
                try clear q1
                try clear hx1
                try clear qi1
                try clear c2
                try clear p2
                try clear c3
                try clear c3b0
                try clear c3b1
                try clear c4
                try clear c4b0
                try clear c4b1
                try clear c5
                try clear c5b0
                try clear c5b1
                try clear c7
                try clear c7b0
                try clear c7b1
                try clear c8
                try clear c8b0
                try clear c8b1
                try clear p9
                try clear q9
                try clear hx9
                try clear qi9
                try clear c10
                try clear c10b0
                try clear c10b1
                try clear c11
                try clear c11b0
                try clear c11b1
                try clear p12
                try clear q12
                try clear hx12
                try clear qi12
                try clear c13
                try clear c13b0
                try clear c13b1
                try clear c14
                try clear c14b0
                try clear c14b1
                try clear p15
                try clear q15
                try clear hx15
                try clear qi15
                try clear c17
                try clear c18
                try clear c18b0
                try clear c18b1
                try clear c20
                try clear p1
                try clear p12
                try clear p15
                try clear p2
                try clear p9
                try clear q1
                try clear q12
                try clear q15
                try clear q9
                obtain ⟨x3_4, x4_4, x5_4, rfl, rfl, HA, HK4, HO_3, HB⟩ := hrel
                cases gk with
                | zero => exact absurd HA.out (by simp [decorumref09_Parse.l0])
                | succ k4 =>
                  have H := HA.out
                  clear HA
                  simp only [decorumref09_Parse.l0] at H
                  by_cases c21 : x5_4 ≤ (x0_15.size : Int)
                  · rw [if_pos c21] at H
                    have c21b0 : decide (x5_4 ≤ (x0_15.size : Int)) = true := decide_eq_true c21
                    clear c21
                    have HC22 := Aside0.mk H
                    clear H
                    go_upto_region 10 with (fail)
                    go_cut [55] (fun v55 wc => ∃ (kq : Nat) (x55_21 : Bool), v55 = .bool x55_21 ∧ Aside0 (decorumref09_Parse.j4 kq x0_15 x3_4 x4_4 x5_4 x55_21 = some r) ∧ Aside0 (kq ≤ k4) ∧ Aside0 (Kd.R k72 72 wc w.heap.size (fun _ => True) u3 x3_4) ∧ Aside0 (Below w.heap.size w wc))
                    case first =>
                      have H := HC22.out
                      clear HC22
                      by_cases c23 : x5_4 = (x0_15.size : Int)
                      · rw [if_pos c23] at H
                        have c23b0 : (x5_4 == (x0_15.size : Int)) = true := beq_iff_eq.mpr c23
                        have c23b1 : (x5_4 != (x0_15.size : Int)) = false := bne_eq_false_iff_eq.mpr c23
                        clear c23
                        (first | rw [c23b0] | (simp only [i64_w, i32_w]; rw [c23b0]) | skip)
                        have H' := Aside0.mk H
                        clear H
                        go_wp2
                        go_meet
                        case rel => exact ⟨_, (true), (by first | rfl | (simp; done) | (simp [*]; done)), H', ⟨by have := HJ1.out; have := HJ5.out; have := HJ15.out; have := HK4.out; first | omega | exact Nat.le_refl _⟩, ⟨by (with_reducible repeat (first | apply Kd.R_alloc | apply Kd.R_drewN | apply Kd.R_drew)); exact HO_3.out⟩, ⟨by repeat (first | (with_reducible first | exact HB.out | apply below_alloc | apply pw_below_drewN | apply below_drew1) | exact HB.out)⟩⟩
                      · rw [if_neg c23] at H
                        have c23b0 : (x5_4 == (x0_15.size : Int)) = false := beq_eq_false_iff_ne.mpr c23
                        have c23b1 : (x5_4 != (x0_15.size : Int)) = true := bne_iff_ne.mpr c23
                        (first | rw [c23b0] | (simp only [i64_w, i32_w]; rw [c23b0]) | skip)
                        by_cases c24 : 0 ≤ x5_4
                        · rw [if_pos c24] at H
                          have c24b0 : decide (0 ≤ x5_4) = true := decide_eq_true c24
                          clear c24
                          by_cases c25 : x5_4 < (x0_15.size : Int)
                          · rw [if_pos c25] at H
                            have c25b0 : decide (x5_4 < (x0_15.size : Int)) = true := decide_eq_true c25
                            clear c25
                            by_cases c27 : (bt x0_15 x5_4) = 10
                            · rw [if_pos c27] at H
                              have c27b0 : ((bt x0_15 x5_4) == 10) = true := beq_iff_eq.mpr c27
                              have c27b1 : ((bt x0_15 x5_4) != 10) = false := bne_eq_false_iff_eq.mpr c27
                              clear c27
                              have H' := Aside0.mk H
                              clear H
                              have p26 : 0 ≤ (x5_4 : Int) := of_decide_eq_true (by first | (with_reducible assumption) | assumption)
                              have q26 : x5_4 < (x0_15.size : Int) := of_decide_eq_true (by first | (with_reducible assumption) | assumption)
                              have hx26 := bt_at x0_15 x5_4
                              replace p26 := eq_true p26
                              replace q26 := eq_true q26
                              go_wp2
                              go_meet
                              case rel => exact ⟨_, (true), (by first | rfl | (simp; done) | (simp [*]; done)), H', ⟨by have := HJ1.out; have := HJ5.out; have := HJ15.out; have := HK4.out; first | omega | exact Nat.le_refl _⟩, ⟨by (with_reducible repeat (first | apply Kd.R_alloc | apply Kd.R_drewN | apply Kd.R_drew)); exact HO_3.out⟩, ⟨by repeat (first | (with_reducible first | exact HB.out | apply below_alloc | apply pw_below_drewN | apply below_drew1) | exact HB.out)⟩⟩
                            · rw [if_neg c27] at H
                              have c27b0 : ((bt x0_15 x5_4) == 10) = false := beq_eq_false_iff_ne.mpr c27
                              have c27b1 : ((bt x0_15 x5_4) != 10) = true := bne_iff_ne.mpr c27
                              have H' := Aside0.mk H
                              clear H
                              have p26 : 0 ≤ (x5_4 : Int) := of_decide_eq_true (by first | (with_reducible assumption) | assumption)
                              have q26 : x5_4 < (x0_15.size : Int) := of_decide_eq_true (by first | (with_reducible assumption) | assumption)
                              have hx26 := bt_at x0_15 x5_4
                              replace p26 := eq_true p26
                              replace q26 := eq_true q26
                              have p28 : 0 ≤ (x5_4 : Int) := of_decide_eq_true (by first | (with_reducible assumption) | assumption)
                              have q28 : x5_4 < (x0_15.size : Int) := of_decide_eq_true (by first | (with_reducible assumption) | assumption)
                              have hx28 := bt_at x0_15 x5_4
                              replace p28 := eq_true p28
                              replace q28 := eq_true q28
                              go_wp2
                              go_meet
                              case rel => exact ⟨_, (((bt x0_15 x5_4) == 13)), (by first | rfl | (simp; done) | (simp [*]; done)), H', ⟨by have := HJ1.out; have := HJ5.out; have := HJ15.out; have := HK4.out; first | omega | exact Nat.le_refl _⟩, ⟨by (with_reducible repeat (first | apply Kd.R_alloc | apply Kd.R_drewN | apply Kd.R_drew)); exact HO_3.out⟩, ⟨by repeat (first | (with_reducible first | exact HB.out | apply below_alloc | apply pw_below_drewN | apply below_drew1) | exact HB.out)⟩⟩
                          · rw [if_neg c25] at H
                            exact absurd H (by simp)
                        · rw [if_neg c24] at H
                          exact absurd H (by simp)
                    case rest =>
                      clear HC22
                      try clear c1
                      try clear p1
                      try clear q1
                      try clear hx1
                      try clear qi1
                      try clear c2
                      try clear p2
                      try clear q2
                      try clear hx2
                      try clear c3
                      try clear c3b0
                      try clear c3b1
                      try clear c4
                      try clear c4b0
                      try clear c4b1
                      try clear c5
                      try clear c5b0
                      try clear c5b1
                      try clear c7
                      try clear c7b0
                      try clear c7b1
                      try clear c8
                      try clear c8b0
                      try clear c8b1
                      try clear p9
                      try clear q9
                      try clear hx9
                      try clear qi9
                      try clear c10
                      try clear c10b0
                      try clear c10b1
                      try clear c11
                      try clear c11b0
                      try clear c11b1
                      try clear p12
                      try clear q12
                      try clear hx12
                      try clear qi12
                      try clear c13
                      try clear c13b0
                      try clear c13b1
                      try clear c14
                      try clear c14b0
                      try clear c14b1
                      try clear p15
                      try clear q15
                      try clear hx15
                      try clear qi15
                      try clear c17
                      try clear c18
                      try clear c18b0
                      try clear c18b1
                      try clear c20
                      try clear c21
                      try clear c21b0
                      try clear c23
                      try clear c23b0
                      try clear c23b1
                      try clear c24
                      try clear c24b0
                      try clear c25
                      try clear c25b0
                      try clear p26
                      try clear q26
                      try clear hx26
                      try clear c27
                      try clear c27b0
                      try clear c27b1
                      try clear p28
                      try clear q28
                      try clear hx28
                      try clear p1
                      try clear p12
                      try clear p15
                      try clear p2
                      try clear p26
                      try clear p28
                      try clear p9
                      try clear q1
                      try clear q12
                      try clear q15
                      try clear q26
                      try clear q28
                      try clear q9
                      obtain ⟨kq, x55_21, rfl, HA, HJ21, HO_3, HB⟩ := hcut
                      cases kq with
                      | zero => exact absurd HA.out (by simp [decorumref09_Parse.j4])
                      | succ kj21 =>
                        have H := HA.out
                        clear HA
                        simp only [decorumref09_Parse.j4] at H
                        by_cases c29 : x55_21 = true
                        · subst c29
                          have H1 : (if 0 ≤ x4_4 then (if x4_4 ≤ x5_4 then (if x5_4 ≤ (x0_15.size : Int) then ((decorumref09_say.f kj21 (x0_15.extract (x4_4 : Int).toNat (x5_4 : Int).toNat)).bind fun bt119 => (if bt119.2.2 = true then (if x3_4.length < 4398046511104 then (decorumref09_Parse.l0 kj21 x0_15 (x3_4 ++ [(⟨bt119.1, bt119.2.1⟩ : S72)]) (wrap64 (x5_4 + 1)) (wrap64 (x5_4 + 1))) else (none)) else (decorumref09_Parse.l0 kj21 x0_15 x3_4 (wrap64 (x5_4 + 1)) (wrap64 (x5_4 + 1))))) else (none)) else (none)) else (none)) = some r := by rw [if_pos rfl] at H; exact H
                          clear H
                          have H := H1
                          clear H1
                          by_cases c30 : 0 ≤ x4_4
                          · rw [if_pos c30] at H
                            have c30b0 := eq_true c30
                            have c30b1 : decide (0 ≤ x4_4) = true := decide_eq_true c30
                            clear c30
                            by_cases c31 : x4_4 ≤ x5_4
                            · rw [if_pos c31] at H
                              have c31b0 := eq_true c31
                              have c31b1 : decide (x4_4 ≤ x5_4) = true := decide_eq_true c31
                              clear c31
                              by_cases c32 : x5_4 ≤ (x0_15.size : Int)
                              · rw [if_pos c32] at H
                                have c32b0 := eq_true c32
                                have c32b1 : decide (x5_4 ≤ (x0_15.size : Int)) = true := decide_eq_true c32
                                clear c32
                                replace H := Option.bind_eq_some_iff.mp H
                                obtain ⟨⟨t119, t120, t121⟩, A330, H⟩ := H
                                replace H : (if t121 = true then (if x3_4.length < 4398046511104 then (decorumref09_Parse.l0 kj21 x0_15 (x3_4 ++ [(⟨t119, t120⟩ : S72)]) (wrap64 (x5_4 + 1)) (wrap64 (x5_4 + 1))) else (none)) else (decorumref09_Parse.l0 kj21 x0_15 x3_4 (wrap64 (x5_4 + 1)) (wrap64 (x5_4 + 1)))) = some r := H
                                have A33 := Aside0.mk A330
                                clear A330
                                by_cases c34 : t121 = true
                                · subst c34
                                  have H1 : (if x3_4.length < 4398046511104 then (decorumref09_Parse.l0 kj21 x0_15 (x3_4 ++ [(⟨t119, t120⟩ : S72)]) (wrap64 (x5_4 + 1)) (wrap64 (x5_4 + 1))) else (none)) = some r := by rw [if_pos rfl] at H; exact H
                                  clear H
                                  have H := H1
                                  clear H1
                                  by_cases c35 : x3_4.length < 4398046511104
                                  · rw [if_pos c35] at H
                                    have LMc35 := Aside0.mk c35
                                    clear c35
                                    obtain ⟨y123, hy123⟩ : ∃ y_ : List (S72), y_ = (x3_4 ++ [(⟨t119, t120⟩ : S72)]) := ⟨_, rfl⟩
                                    replace H : (decorumref09_Parse.l0 kj21 x0_15 y123 (wrap64 (x5_4 + 1)) (wrap64 (x5_4 + 1))) = some r := by first | (rw [hy123]; with_reducible exact H) | (have H2_ := (Option.bind_some _ _).symm.trans H; rw [hy123]; with_reducible exact H2_) | (have H2_ := (Option.bind_some _ _).symm.trans H; with_reducible exact H2_) | with_reducible exact H | (rw [hy123]; exact H) | exact H
                                    have Ny123 := Aside0.mk hy123
                                    clear hy123
                                    have H' := Aside0.mk H
                                    clear H
                                    go_wp2_with (first | ((with_reducible refine gate_callee (f := 34) rfl ?_); refine goesL_ (some 61) rfl rfl Tryd.func34 (by kernel_rfl) rfl #[.string (x0_15.extract (x4_4 : Int).toNat (x5_4 : Int).toNat)] rfl (by (try simp only [List.map_toArray, List.map_cons, List.map_nil]); first | done | rfl | (simp only [List.length_drop, List.length_take]; rfl)) ?_; (with_reducible refine (decorumref09_say.calls kj21 (x0_15.extract (x4_4 : Int).toNat (x5_4 : Int).toNat) t119 t120 true _ A33.out).mono ?_); rintro e w36 ⟨rfl, hb⟩; refine ⟨_, rfl, ?_⟩; have n0_ := Aside0.mk (Kd.R_below (by (with_reducible repeat (first | apply Kd.R_alloc | apply Kd.R_drewN | apply Kd.R_drew)); exact HO_3.out) hb); have n1_ := Aside0.mk (below_step (by repeat (first | (with_reducible first | exact HB.out | apply below_alloc | apply pw_below_drewN | apply below_drew1) | exact HB.out)) hb); clear HO_3; clear HB; have HO_3 := n0_; have HB := n1_; clear n0_ n1_; (try clear hb); (try clear hb2); (try clear hk); (try clear hi)) | ((with_reducible refine gate_dst (N := 6) rfl ?_); refine box_event ?hg (N := 6) ?hd (cs := #[.string (⟨#[]⟩ : ByteArray), .string (⟨#[]⟩ : ByteArray)]) (t := 72) ?hr ?_; (case hd => rfl); (case hg => rfl); (case hr => first | (go_simp; done) | (go_simp; rfl)); intro gb122 hg w37 hbox hb; have n0_ := Aside0.mk (Kd.R_below (Kd.R_elderB (by (with_reducible repeat (first | apply Kd.R_alloc | apply Kd.R_drewN | apply Kd.R_drew)); exact HO_3.out) gb122 (Nat.le_of_eq hg.symm)) hb); have n1_ := Aside0.mk (below_step (by repeat (first | (with_reducible first | exact HB.out | apply below_alloc | apply pw_below_drewN | apply below_drew1) | exact HB.out)) hb); have n2_ := Aside0.mk (hbox); have n3_ := Aside0.mk ((by rw [hg]; exact (below_size (by repeat (first | (with_reducible first | exact HB.out | apply below_alloc | apply pw_below_drewN | apply below_drew1) | exact HB.out))) : w.heap.size ≤ gb122)); have n4_ := Aside0.mk ((by rw [hg]; exact (below_size (by repeat (first | (with_reducible first | exact HB.out | apply below_alloc | apply pw_below_drewN | apply below_drew1) | exact HB.out))) : w.heap.size ≤ gb122)); clear HO_3; clear HB; have HO_3 := n0_; have HB := n1_; have BK122 := n2_; have GW122 := n3_; have GE122 := n4_; clear n0_ n1_ n2_ n3_ n4_; clear hb hbox hg; have hcz38_0 : w37.cell? ⟨gb122, 0, none⟩ = some (.string (⟨#[]⟩ : ByteArray)) := (blk_cell BK122.out 0).trans rfl; have hcz38_1 : w37.cell? ⟨gb122, 1, none⟩ = some (.string (⟨#[]⟩ : ByteArray)) := (blk_cell BK122.out 1).trans rfl; have hfz38_0 := blk_frozen BK122.out 0; have hfz38_1 := blk_frozen BK122.out 1) | ((with_reducible refine gate_builtin (b := .append) (xs := #[.tmp 65, .tmp 67]) rfl ?_); at_builtin; refine Kd.R_append k72 (w0 := w) w.heap.size rfl (.tmp 65) (.tmp 67) 45 72 (.agg #[(.string ⟨#[]⟩), (.string ⟨#[]⟩)]) 32 rfl Tryd.underlying45 info72 rfl (by decide) (by omega) u3 x3_4 (⟨t119, t120⟩ : S72) [.string t119, .string t120] (fun k_ => k_ ≠ gb122) (fun _ => False) rfl (by first | (go_simp; done) | (go_simp; rfl)) ?aP (fun _ hk => hk.elim) ?aF ?aO ?aB ?aS ?aL ?_; (case aP => exact k72_mkM _ _ _ (⟨t119, t120⟩ : S72)); (case aB => exact (by repeat (first | (with_reducible first | exact HB.out | apply below_alloc | apply pw_below_drewN | apply below_drew1 | refine below_set ?_ GE122.out) | exact HB.out))); (case aF => exact (fun k_ hk => Kd.freshB (g := gb122) (o := .cells #[.string t119, .string t120] 72 (0, 0)) (by (with_reducible repeat (first | refine blk_drewN ?_ _ | refine blk_drew ?_ | refine blk_alloc ?_ _)); refine blk_put (cs := #[.string t119, .string (⟨#[]⟩ : ByteArray)]) ?_ 1 _ rfl; (with_reducible repeat (first | refine blk_drewN ?_ _ | refine blk_drew ?_ | refine blk_alloc ?_ _)); refine blk_put (cs := #[.string (⟨#[]⟩ : ByteArray), .string (⟨#[]⟩ : ByteArray)]) ?_ 0 _ rfl; (with_reducible repeat (first | refine blk_drewN ?_ _ | refine blk_drew ?_ | refine blk_alloc ?_ _)); exact BK122.out) k_ hk)); (case aO => exact (by (with_reducible repeat (first | apply Kd.R_alloc | apply Kd.R_drewN | apply Kd.R_drew)); exact Kd.R_mono (Kd.R_far (p := ⟨gb122, 1, none⟩) (Kd.R_far (p := ⟨gb122, 0, none⟩) (Kd.R_mono HO_3.out (fun k_ hk => (⟨hk, hk.2⟩ : _ ∧ k_ ≠ gb122))) (fun _ hk => hk.2) (.string t119)) (fun _ hk => hk.2) (.string t120)) (fun _ hk => hk.1.2))); (case aS => exact (below_size (by repeat (first | (with_reducible first | exact HB.out | apply below_alloc | apply pw_below_drewN | apply below_drew1 | refine below_set ?_ GE122.out) | exact HB.out)))); (case aL => have := LMc35.out; omega); intro v124 w39 ho hb hg hat; rw [← Ny123.out] at ho; have n0_ := Aside0.mk (blk_grown (g := gb122) (o := .cells #[.string t119, .string t120] 72 (0, 0)) (by (with_reducible repeat (first | refine blk_drewN ?_ _ | refine blk_drew ?_ | refine blk_alloc ?_ _)); refine blk_put (cs := #[.string t119, .string (⟨#[]⟩ : ByteArray)]) ?_ 1 _ rfl; (with_reducible repeat (first | refine blk_drewN ?_ _ | refine blk_drew ?_ | refine blk_alloc ?_ _)); refine blk_put (cs := #[.string (⟨#[]⟩ : ByteArray), .string (⟨#[]⟩ : ByteArray)]) ?_ 0 _ rfl; (with_reducible repeat (first | refine blk_drewN ?_ _ | refine blk_drew ?_ | refine blk_alloc ?_ _)); exact BK122.out) hg (Kd.R_away HO_3.out (fun _ hk => hk.2))); have n1_ := Aside0.mk (hb); have n2_ := Aside0.mk (ho); clear BK122; clear HB; clear HO_3; have BK122 := n0_; have HB := n1_; have HO125 := n2_; clear n0_ n1_ n2_; clear ho hb hg hat))
                                    go_roundg kj21
                                    case measure => have := HJ1.out; have := HJ5.out; have := HJ15.out; have := HK4.out; have := HJ21.out; omega
                                    case rel => exact ⟨(y123), (wrap64 (x5_4 + 1)), (wrap64 (x5_4 + 1)), (by first | rfl | (simp; done) | (simp [*]; done)), (by first | rfl | (simp; done) | (simp [*]; done)), H', ⟨by have := HJ1.out; have := HJ5.out; have := HJ15.out; have := HK4.out; have := HJ21.out; omega⟩, ⟨by (with_reducible repeat (first | apply Kd.R_alloc | apply Kd.R_drewN | apply Kd.R_drew)); exact Kd.R_mono HO125.out (fun _ hk => trivial)⟩, ⟨by repeat (first | (with_reducible first | exact HB.out | apply below_alloc | apply pw_below_drewN | apply below_drew1 | refine below_set ?_ GE122.out) | exact HB.out)⟩⟩
                                  · rw [if_neg c35] at H
                                    exact absurd H (by simp)
                                · replace c34 := Bool.eq_false_iff.mpr c34
                                  subst c34
                                  have H1 : (decorumref09_Parse.l0 kj21 x0_15 x3_4 (wrap64 (x5_4 + 1)) (wrap64 (x5_4 + 1))) = some r := by rw [if_neg (show ¬ (false = true) by decide)] at H; exact H
                                  clear H
                                  have H := H1
                                  clear H1
                                  have H' := Aside0.mk H
                                  clear H
                                  go_wp2_with (first | ((with_reducible refine gate_callee (f := 34) rfl ?_); refine goesL_ (some 61) rfl rfl Tryd.func34 (by kernel_rfl) rfl #[.string (x0_15.extract (x4_4 : Int).toNat (x5_4 : Int).toNat)] rfl (by (try simp only [List.map_toArray, List.map_cons, List.map_nil]); first | done | rfl | (simp only [List.length_drop, List.length_take]; rfl)) ?_; (with_reducible refine (decorumref09_say.calls kj21 (x0_15.extract (x4_4 : Int).toNat (x5_4 : Int).toNat) t119 t120 false _ A33.out).mono ?_); rintro e w40 ⟨rfl, hb⟩; refine ⟨_, rfl, ?_⟩; have n0_ := Aside0.mk (Kd.R_below (by (with_reducible repeat (first | apply Kd.R_alloc | apply Kd.R_drewN | apply Kd.R_drew)); exact HO_3.out) hb); have n1_ := Aside0.mk (below_step (by repeat (first | (with_reducible first | exact HB.out | apply below_alloc | apply pw_below_drewN | apply below_drew1) | exact HB.out)) hb); clear HO_3; clear HB; have HO_3 := n0_; have HB := n1_; clear n0_ n1_; (try clear hb); (try clear hb2); (try clear hk); (try clear hi)) | ((with_reducible refine gate_dst (N := 6) rfl ?_); refine box_event ?hg (N := 6) ?hd (cs := #[.string (⟨#[]⟩ : ByteArray), .string (⟨#[]⟩ : ByteArray)]) (t := 72) ?hr ?_; (case hd => rfl); (case hg => rfl); (case hr => first | (go_simp; done) | (go_simp; rfl)); intro gb122 hg w41 hbox hb; have n0_ := Aside0.mk (Kd.R_below (Kd.R_elderB (by (with_reducible repeat (first | apply Kd.R_alloc | apply Kd.R_drewN | apply Kd.R_drew)); exact HO_3.out) gb122 (Nat.le_of_eq hg.symm)) hb); have n1_ := Aside0.mk (below_step (by repeat (first | (with_reducible first | exact HB.out | apply below_alloc | apply pw_below_drewN | apply below_drew1) | exact HB.out)) hb); have n2_ := Aside0.mk (hbox); have n3_ := Aside0.mk ((by rw [hg]; exact (below_size (by repeat (first | (with_reducible first | exact HB.out | apply below_alloc | apply pw_below_drewN | apply below_drew1) | exact HB.out))) : w.heap.size ≤ gb122)); have n4_ := Aside0.mk ((by rw [hg]; exact (below_size (by repeat (first | (with_reducible first | exact HB.out | apply below_alloc | apply pw_below_drewN | apply below_drew1) | exact HB.out))) : w.heap.size ≤ gb122)); clear HO_3; clear HB; have HO_3 := n0_; have HB := n1_; have BK122 := n2_; have GW122 := n3_; have GE122 := n4_; clear n0_ n1_ n2_ n3_ n4_; clear hb hbox hg; have hcz42_0 : w41.cell? ⟨gb122, 0, none⟩ = some (.string (⟨#[]⟩ : ByteArray)) := (blk_cell BK122.out 0).trans rfl; have hcz42_1 : w41.cell? ⟨gb122, 1, none⟩ = some (.string (⟨#[]⟩ : ByteArray)) := (blk_cell BK122.out 1).trans rfl; have hfz42_0 := blk_frozen BK122.out 0; have hfz42_1 := blk_frozen BK122.out 1))
                                  go_roundg kj21
                                  case measure => have := HJ1.out; have := HJ5.out; have := HJ15.out; have := HK4.out; have := HJ21.out; omega
                                  case rel => exact ⟨(x3_4), (wrap64 (x5_4 + 1)), (wrap64 (x5_4 + 1)), (by first | rfl | (simp; done) | (simp [*]; done)), (by first | rfl | (simp; done) | (simp [*]; done)), H', ⟨by have := HJ1.out; have := HJ5.out; have := HJ15.out; have := HK4.out; have := HJ21.out; omega⟩, ⟨by (with_reducible repeat (first | apply Kd.R_alloc | apply Kd.R_drewN | apply Kd.R_drew)); exact Kd.R_mono (Kd.R_far (p := ⟨gb122, 1, none⟩) (Kd.R_far (p := ⟨gb122, 0, none⟩) (Kd.R_mono HO_3.out (fun k_ hk => (⟨hk, hk.2⟩ : _ ∧ k_ ≠ gb122))) (fun _ hk => hk.2) (.string t119)) (fun _ hk => hk.2) (.string t120)) (fun _ hk => trivial)⟩, ⟨by repeat (first | (with_reducible first | exact HB.out | apply below_alloc | apply pw_below_drewN | apply below_drew1 | refine below_set ?_ GE122.out) | exact HB.out)⟩⟩
                              · rw [if_neg c32] at H
                                exact absurd H (by simp)
                            · rw [if_neg c31] at H
                              exact absurd H (by simp)
                          · rw [if_neg c30] at H
                            exact absurd H (by simp)
                        · replace c29 := Bool.eq_false_iff.mpr c29
                          subst c29
                          have H1 : (decorumref09_Parse.l0 kj21 x0_15 x3_4 x4_4 (wrap64 (x5_4 + 1))) = some r := by rw [if_neg (show ¬ (false = true) by decide)] at H; exact H
                          clear H
                          have H := H1
                          clear H1
                          have H' := Aside0.mk H
                          clear H
                          go_wp2
                          go_roundg kj21
                          case measure => have := HJ1.out; have := HJ5.out; have := HJ15.out; have := HK4.out; have := HJ21.out; omega
                          case rel => exact ⟨(x3_4), (x4_4), (wrap64 (x5_4 + 1)), (by first | rfl | (simp; done) | (simp [*]; done)), (by first | rfl | (simp; done) | (simp [*]; done)), H', ⟨by have := HJ1.out; have := HJ5.out; have := HJ15.out; have := HK4.out; have := HJ21.out; omega⟩, ⟨by (with_reducible repeat (first | apply Kd.R_alloc | apply Kd.R_drewN | apply Kd.R_drew)); exact HO_3.out⟩, ⟨by repeat (first | (with_reducible first | exact HB.out | apply below_alloc | apply pw_below_drewN | apply below_drew1) | exact HB.out)⟩⟩
                  · rw [if_neg c21] at H
                    have c21b0 : decide (x5_4 ≤ (x0_15.size : Int)) = false := decide_eq_false c21
                    clear c21
                    obtain rfl := Option.some.inj H
                    go_wp2
                    go_ret
                    exact ⟨_, by first | rfl | (simp [errW_none, errW_some] <;> rfl) | (simp [*, errW_none, errW_some] <;> rfl) | (simp [wrap64]; done) | (simp [errW_none, errW_some] <;> exact empty_bne _), by (with_reducible repeat (first | apply Kd.R_alloc | apply Kd.R_drewN | apply Kd.R_drew)); exact HO_3.out, by repeat (first | (with_reducible first | exact HB.out | apply below_alloc | apply pw_below_drewN | apply below_drew1) | exact HB.out)⟩

end Go.Proofs.YtdnaddignhjihaaDoor.QBase
namespace Go.Proofs.YtdnaddignhjihaaDoor.Given
open Go.RowKit Go.Proofs.YtdnaddignhjihaaDoor.QBase Go.Proofs.YtdnaddignhjihaaDoorW.PrintWords Go.Proofs.YtdnaddignhjihaaDoorW.PrintLast
set_option linter.unusedVariables false
theorem info35 : (Tryd.prog.info? 35).map (fun i => (i.zero, i.size, i.bytes)) = some (some (.agg #[(.string ⟨#[]⟩), (.string ⟨#[]⟩)]), 2, 32) := by kernel_rfl
/-- An end of a line. -/
def isNL (r : Nat) : Bool := r == 13 || r == 10
set_option maxHeartbeats 4000000 in
set_option maxRecDepth 1000000 in
theorem nl_calls (x : Nat) (hx : x ≤ 1114111) (w : World) : Calls Tryd.prog 25 #[.int .i32 (x : Int)] w fun e w' => e = .returned (.bool (isNL x)) ∧ ∃ q, w' = w.drewN q := by
  by_cases h : x = 13
  · have h1 : (((x : Nat) : Int) == 13) = true := by simp; omega
    go_enter Tryd.func25, Tryd.ntmps25
    go_wp2
    go_ret
    exact ⟨by simp [isNL, h], 0, rfl⟩
  · have h1 : (((x : Nat) : Int) == 13) = false := by simp; omega
    by_cases h' : x = 10
    · have h2 : (((x : Nat) : Int) == 10) = true := by simp; omega
      go_enter Tryd.func25, Tryd.ntmps25
      go_wp2
      go_ret
      exact ⟨by simp [isNL, h'], 0, rfl⟩
    · have h2 : (((x : Nat) : Int) == 10) = false := by simp; omega
      go_enter Tryd.func25, Tryd.ntmps25
      go_wp2
      go_ret
      exact ⟨by simp [isNL, h, h'], 0, rfl⟩

/-- What the pieces of a text say. -/
def parseL : List ByteArray → Option (List S35)
  | [] => some []
  | p :: ps => (lines_line.f p).bind fun t => (parseL ps).map fun r => if t.2.2 = true then ⟨t.1, t.2.1⟩ :: r else r
def cut4096 (a : ByteArray) : ByteArray := ⟨(Lib.trimPrefix (a.extract 0 (min a.size 4096)).data.toList [239, 187, 191]).toArray⟩
def lines_Parse.f (a0 : ByteArray) : Option (List S35) :=
  if a0.size ≤ 140737488351232 ∧ (Lib.goFieldsP isNL (cut4096 a0)).length < 1000000 then parseL (Lib.goFieldsP isNL (cut4096 a0)) else none

set_option maxHeartbeats 4000000 in
set_option maxRecDepth 1000000 in
theorem lines_Parse.calls (a0 : ByteArray) (r : List S35) (w : World) (h : lines_Parse.f a0 = some r) (hS_ : Shp w) :
    Calls Tryd.prog 13 #[.string a0] w fun e w' => ∃ v0_ : Value, e = .returned v0_ ∧ Kd.R k35 35 w' w.heap.size (fun _ => True) v0_ r ∧ Below w.heap.size w w' := by
  unfold lines_Parse.f at h
  split at h
  case isFalse => cases h
  rename_i hc
  obtain ⟨hs, hl⟩ := hc
  have HS := Aside0.mk hS_
  have HT : Aside0 (strings_TrimPrefix.f (a0.extract 0 (min a0.size 4096)) ⟨#[239, 187, 191]⟩ = some (cut4096 a0)) := ⟨rfl⟩
  have hcs : (cut4096 a0).size ≤ 4294967296 := by
    have : (cut4096 a0).data.toList.length ≤ (a0.extract 0 (min a0.size 4096)).data.toList.length := by
      show (Lib.trimPrefix _ _).length ≤ _
      unfold Lib.trimPrefix
      split
      · simp
      · omega
    simp at this
    omega
  generalize cut4096 a0 = T at *
  generalize hP : Lib.goFieldsP isNL T = P at *
  have HF : ∀ W : World, Calls Tryd.prog 24 #[.string T, .func (.func 25) #[] #[]] W fun e w' => ∃ A, e = .returned (.slice (some ⟨A, 0, none⟩) P.length P.length) ∧ W.heap.size ≤ A ∧
      w'.ownsRow W.heap.size 9 1 (.slice (some ⟨A, 0, none⟩) P.length P.length) P.length (P.map Value.string) ∧ Below W.heap.size W w' := by
    intro W
    rw [← hP]
    exact Tryd.strings_FieldsFunc_runes 25 #[] (fun args w => enters_ Tryd.func25 (by kernel_rfl) rfl args w) isNL T W hcs (fun W' x hx _ => nl_calls x hx W')
  have HF := Aside0.mk HF
  have HH := Aside0.mk h
  clear h hS_ hP
  have hmin : min (a0.size : Int) 4096 = ((min a0.size 4096 : Nat) : Int) := by omega
  go_enter Tryd.func13, Tryd.ntmps13
  go_wp2_with (first
    | (go_at_call 23; (with_reducible refine (strings_TrimPrefix.calls (a0.extract 0 (min a0.size 4096)) ⟨#[239, 187, 191]⟩ T _ HT.out).mono ?_); rintro e w' ⟨rfl, ⟨nd, rfl⟩⟩)
    | (go_at_call 24; refine (HF.out _).mono ?_; rintro e w1 ⟨A, rfl, hA, hown, hb⟩))
  have HBw : Hid (Below w.heap.size w w1) := below_step (pw_below_drewN (Below.refl _ w) nd) hb
  have HS1 := Aside0.mk (Shp.below HS.out HBw.out)
  have hcells : ∀ i (hi : i < P.length), w1.cell? ⟨A, i, none⟩ = some (.string (P[i])) := by
    intro i hi
    have := hown.cells (g := A) rfl i (.string (P[i])) (by simp [hi])
    have e : (⟨A, 0, none⟩ : Addr).add i = ⟨A, i, none⟩ := by unfold Addr.add; split <;> simp_all
    rwa [e] at this
  clear hown hb HF HT HS
  go_loopw [18, 3] (fun v18 v3 wr => ∃ (i : Nat) (acc : List S35) (rest : List S35), v18 = .int .i64 i ∧ i ≤ P.length ∧ Hid (acc.length ≤ i) ∧ Aside0 (parseL (P.drop i) = some rest) ∧ Aside0 (acc ++ rest = r) ∧ Aside0 (Kd.R k35 35 wr w1.heap.size (fun _ => True) v3 acc) ∧ Aside0 (Below w1.heap.size w1 wr)) (fun v18 v3 wr => P.length - (intOf v18).toNat)
  case atStart => exact ⟨0, [], r, rfl, by omega, Nat.zero_le _, ⟨HH.out⟩, ⟨rfl⟩, ⟨Kd.R_nil _ _ _ _ _⟩, ⟨Below.refl _ _⟩⟩
  case round =>
    clear HH
    obtain ⟨i, acc, rest, rfl, hi, hlen, HP, HR, HO_3, HB⟩ := hrel
    by_cases hlt : i < P.length
    · have hlt' : ((i : Int) < (P.length : Int)) = True := eq_true (by omega)
      have hcell := hcells i hlt
      have hdr : P.drop i = P[i] :: P.drop (i + 1) := List.drop_eq_getElem_cons hlt
      have hp2 := HP.out
      rw [hdr, parseL] at hp2
      obtain ⟨t, ht, hp2⟩ := Option.bind_eq_some_iff.mp hp2
      obtain ⟨r2, hr2, hr3⟩ := Option.map_eq_some_iff.mp hp2
      obtain ⟨p, hp⟩ : ∃ p, p = P[i] := ⟨_, rfl⟩
      rw [← hp] at hcell ht
      obtain ⟨kk, vv, ok⟩ := t
      have HL := Aside0.mk ht
      have HP2 := Aside0.mk hr2
      have hcell := (HB.out.cell (World.block_lt_of_cell? w1 _ hcell)).trans hcell
      have hl2 : Hid (acc.length ≤ 1000000) := Nat.le_trans hlen.out (by omega)
      cases ok with
      | true =>
        simp only [if_true] at hr3
        have HR2 : Aside0 ((acc ++ [⟨kk, vv⟩]) ++ r2 = r) := ⟨by rw [← HR.out, ← hr3]; simp⟩
        have hlen2 : Hid ((acc ++ [(⟨kk, vv⟩ : S35)]).length ≤ i + 1) := by have := hlen.out; show _ ≤ _; simp; omega
        have hlen := hl2
        clear hp2 hr2 hr3 ht HP hdr hp HR hcells hl2
        go_wp2_with (first | ((with_reducible refine gate_callee (f := 26) rfl ?_); refine goesL_ (some 24) rfl rfl Tryd.func26 (by kernel_rfl) rfl #[.string p] rfl (by (try simp only [List.map_toArray, List.map_cons, List.map_nil]); first | done | rfl) ?_; (with_reducible refine (lines_line.calls p kk vv true _ HL.out (Shp.below HS1.out (by repeat (first | (with_reducible first | exact HB.out | apply below_alloc | apply pw_below_drewN | apply below_drew1) | exact HB.out)))).mono ?_); rintro e w36 ⟨rfl, hb⟩; refine ⟨_, rfl, ?_⟩; have n0_ := Aside0.mk (Kd.R_below (by (with_reducible repeat (first | apply Kd.R_alloc | apply Kd.R_drewN | apply Kd.R_drew)); exact HO_3.out) hb); have n1_ := Aside0.mk (below_step (by repeat (first | (with_reducible first | exact HB.out | apply below_alloc | apply pw_below_drewN | apply below_drew1) | exact HB.out)) hb); clear HO_3; clear HB; have HO_3 := n0_; have HB := n1_; clear n0_ n1_; (try clear hb)) | ((with_reducible refine gate_dst (N := 6) rfl ?_); refine box_event ?hg (N := 6) ?hd (cs := #[.string (⟨#[]⟩ : ByteArray), .string (⟨#[]⟩ : ByteArray)]) (t := 35) ?hr ?_; (case hd => rfl); (case hg => rfl); (case hr => first | (go_simp; done) | (go_simp; rfl)); intro gb125 hg w37 hbox hb; have n0_ := Aside0.mk (Kd.R_below (Kd.R_elderB (by (with_reducible repeat (first | apply Kd.R_alloc | apply Kd.R_drewN | apply Kd.R_drew)); exact HO_3.out) gb125 (Nat.le_of_eq hg.symm)) hb); have n1_ := Aside0.mk (below_step (by repeat (first | (with_reducible first | exact HB.out | apply below_alloc | apply pw_below_drewN | apply below_drew1) | exact HB.out)) hb); have n2_ := Aside0.mk (hbox); have n4_ := Aside0.mk ((by rw [hg]; exact (below_size (by repeat (first | (with_reducible first | exact HB.out | apply below_alloc | apply pw_below_drewN | apply below_drew1) | exact HB.out))) : w1.heap.size ≤ gb125)); clear HO_3; clear HB; have HO_3 := n0_; have HB := n1_; have BK125 := n2_; have GE125 := n4_; clear n0_ n1_ n2_ n4_; clear hb hbox hg; have hcz38_0 : w37.cell? ⟨gb125, 0, none⟩ = some (.string (⟨#[]⟩ : ByteArray)) := (blk_cell BK125.out 0).trans rfl; have hcz38_1 : w37.cell? ⟨gb125, 1, none⟩ = some (.string (⟨#[]⟩ : ByteArray)) := (blk_cell BK125.out 1).trans rfl; have hfz38_0 := blk_frozen BK125.out 0; have hfz38_1 := blk_frozen BK125.out 1) | ((with_reducible refine gate_builtin (b := .append) (xs := #[.tmp 28, .tmp 30]) rfl ?_); at_builtin; refine Kd.R_append k35 (w0 := w1) w1.heap.size rfl (.tmp 28) (.tmp 30) 32 35 (.agg #[(.string ⟨#[]⟩), (.string ⟨#[]⟩)]) 32 rfl Tryd.underlying32 info35 rfl (by decide) (by omega) u3 acc (⟨kk, vv⟩ : S35) [.string kk, .string vv] (fun k_ => k_ ≠ gb125) (fun _ => False) rfl (by first | (go_simp; done) | (go_simp; rfl)) ?aP (fun _ hk => hk.elim) ?aF ?aO ?aB ?aS ?aL ?_; (case aP => exact k35_mkM _ _ _ (⟨kk, vv⟩ : S35)); (case aB => exact (by repeat (first | (with_reducible first | exact HB.out | apply below_alloc | apply pw_below_drewN | apply below_drew1 | refine below_set ?_ GE125.out) | exact HB.out))); (case aF => exact (fun k_ hk => Kd.freshB (g := gb125) (o := .cells #[.string kk, .string vv] 35 (0, 0)) (by (with_reducible repeat (first | refine blk_drewN ?_ _ | refine blk_drew ?_ | refine blk_alloc ?_ _)); refine blk_put (cs := #[.string kk, .string (⟨#[]⟩ : ByteArray)]) ?_ 1 _ rfl; (with_reducible repeat (first | refine blk_drewN ?_ _ | refine blk_drew ?_ | refine blk_alloc ?_ _)); refine blk_put (cs := #[.string (⟨#[]⟩ : ByteArray), .string (⟨#[]⟩ : ByteArray)]) ?_ 0 _ rfl; (with_reducible repeat (first | refine blk_drewN ?_ _ | refine blk_drew ?_ | refine blk_alloc ?_ _)); exact BK125.out) k_ hk)); (case aO => exact (by (with_reducible repeat (first | apply Kd.R_alloc | apply Kd.R_drewN | apply Kd.R_drew)); exact Kd.R_mono (Kd.R_far (p := ⟨gb125, 1, none⟩) (Kd.R_far (p := ⟨gb125, 0, none⟩) (Kd.R_mono HO_3.out (fun k_ hk => (⟨hk, hk.2⟩ : _ ∧ k_ ≠ gb125))) (fun _ hk => hk.2) (.string kk)) (fun _ hk => hk.2) (.string vv)) (fun _ hk => hk.1.2))); (case aS => exact (below_size (by repeat (first | (with_reducible first | exact HB.out | apply below_alloc | apply pw_below_drewN | apply below_drew1 | refine below_set ?_ GE125.out) | exact HB.out)))); (case aL => have := hlen.out; omega); intro v127 w39 ho hb hg hat; have n1_ := Aside0.mk (hb); have n2_ := Aside0.mk (ho); clear BK125; clear HB; clear HO_3; have HB := n1_; have HO128 := n2_; clear n1_ n2_; clear ho hb hg hat))
        go_roundw
        case rel => exact ⟨i + 1, _, r2, by go_num, by omega, hlen2, HP2, HR2, ⟨Kd.R_mono HO128.out (fun _ hk => trivial)⟩, ⟨(by repeat (first | (with_reducible first | exact HB.out | apply below_alloc | apply pw_below_drewN | apply below_drew1 | refine below_set ?_ GE125.out) | exact HB.out))⟩⟩
        case measure => simp [intOf]; omega
      | false =>
        simp only [Bool.false_eq_true, if_false] at hr3
        have HR2 : Aside0 (acc ++ r2 = r) := ⟨by rw [← HR.out, ← hr3]⟩
        have hlen2 : Hid (acc.length ≤ i + 1) := by have := hlen.out; show _ ≤ _; omega
        clear hp2 hr2 hr3 ht HP hdr hp HR hcells hl2 hlen
        go_wp2_with (first | ((with_reducible refine gate_callee (f := 26) rfl ?_); refine goesL_ (some 24) rfl rfl Tryd.func26 (by kernel_rfl) rfl #[.string p] rfl (by (try simp only [List.map_toArray, List.map_cons, List.map_nil]); first | done | rfl) ?_; (with_reducible refine (lines_line.calls p kk vv false _ HL.out (Shp.below HS1.out (by repeat (first | (with_reducible first | exact HB.out | apply below_alloc | apply pw_below_drewN | apply below_drew1) | exact HB.out)))).mono ?_); rintro e w36 ⟨rfl, hb⟩; refine ⟨_, rfl, ?_⟩; have n0_ := Aside0.mk (Kd.R_below (by (with_reducible repeat (first | apply Kd.R_alloc | apply Kd.R_drewN | apply Kd.R_drew)); exact HO_3.out) hb); have n1_ := Aside0.mk (below_step (by repeat (first | (with_reducible first | exact HB.out | apply below_alloc | apply pw_below_drewN | apply below_drew1) | exact HB.out)) hb); clear HO_3; clear HB; have HO_3 := n0_; have HB := n1_; clear n0_ n1_; (try clear hb)) | ((with_reducible refine gate_dst (N := 6) rfl ?_); refine box_event ?hg (N := 6) ?hd (cs := #[.string (⟨#[]⟩ : ByteArray), .string (⟨#[]⟩ : ByteArray)]) (t := 35) ?hr ?_; (case hd => rfl); (case hg => rfl); (case hr => first | (go_simp; done) | (go_simp; rfl)); intro gb125 hg w37 hbox hb; have n0_ := Aside0.mk (Kd.R_below (Kd.R_elderB (by (with_reducible repeat (first | apply Kd.R_alloc | apply Kd.R_drewN | apply Kd.R_drew)); exact HO_3.out) gb125 (Nat.le_of_eq hg.symm)) hb); have n1_ := Aside0.mk (below_step (by repeat (first | (with_reducible first | exact HB.out | apply below_alloc | apply pw_below_drewN | apply below_drew1) | exact HB.out)) hb); have n2_ := Aside0.mk (hbox); have n4_ := Aside0.mk ((by rw [hg]; exact (below_size (by repeat (first | (with_reducible first | exact HB.out | apply below_alloc | apply pw_below_drewN | apply below_drew1) | exact HB.out))) : w1.heap.size ≤ gb125)); clear HO_3; clear HB; have HO_3 := n0_; have HB := n1_; have BK125 := n2_; have GE125 := n4_; clear n0_ n1_ n2_ n4_; clear hb hbox hg; have hcz38_0 : w37.cell? ⟨gb125, 0, none⟩ = some (.string (⟨#[]⟩ : ByteArray)) := (blk_cell BK125.out 0).trans rfl; have hcz38_1 : w37.cell? ⟨gb125, 1, none⟩ = some (.string (⟨#[]⟩ : ByteArray)) := (blk_cell BK125.out 1).trans rfl; have hfz38_0 := blk_frozen BK125.out 0; have hfz38_1 := blk_frozen BK125.out 1))
        go_roundw
        case rel => exact ⟨i + 1, _, r2, by go_num, by omega, hlen2, HP2, HR2, ⟨by (with_reducible repeat (first | apply Kd.R_alloc | apply Kd.R_drewN | apply Kd.R_drew)); exact Kd.R_mono (Kd.R_far (p := ⟨gb125, 1, none⟩) (Kd.R_far (p := ⟨gb125, 0, none⟩) HO_3.out (fun _ hk => hk.2) _) (fun _ hk => hk.2) _) (fun _ hk => trivial)⟩, ⟨(by repeat (first | (with_reducible first | exact HB.out | apply below_alloc | apply pw_below_drewN | apply below_drew1 | refine below_set ?_ GE125.out) | exact HB.out))⟩⟩
        case measure => simp [intOf]; omega
    · have hlt' : ((i : Int) < (P.length : Int)) = False := eq_false (by omega)
      obtain rfl : i = P.length := by omega
      have hr : acc = r := by
        have h1 := HP.out
        rw [List.drop_length, parseL] at h1
        obtain rfl := Option.some.inj h1
        have := HR.out
        simpa using this
      subst hr
      clear hcells
      go_wp2
      go_ret
      exact ⟨_, rfl, Kd.R_lower HO_3.out HBw.out.size, below_step HBw.out HB.out⟩
end Go.Proofs.YtdnaddignhjihaaDoor.Given
namespace Go.Proofs.YtdnaddignhjihaaDoor.Pure
open Go Go.RowKit Go.Proofs.YtdnaddignhjihaaDoor.QBase Go.Proofs.YtdnaddignhjihaaDoor.Given Go.Proofs.YtdnaddignhjihaaDoorW.PrintWords Go.Proofs.YtdnaddignhjihaaDoorW.PrintLast
set_option linter.unusedVariables false
set_option linter.unusedSimpArgs false
def nlB (c : UInt8) : Bool := c == 13 || c == 10
/-- The pieces of a text at its lines' ends. -/
def spl : List UInt8 → List UInt8 → List (List UInt8)
  | cur, [] => [cur]
  | cur, c :: t => if nlB c = true then cur :: spl [] t else spl (cur ++ [c]) t
theorem spl_no : ∀ (u cur r : List UInt8), (∀ c ∈ u, nlB c = false) → spl cur (u ++ r) = spl (cur ++ u) r
  | [], cur, r, _ => by simp
  | c :: u, cur, r, h => by
    rw [List.cons_append, spl, if_neg (by rw [h c (by simp)]; decide), spl_no u (cur ++ [c]) r (fun d hd => h d (by simp [hd]))]
    simp
theorem spl_len : ∀ (u cur : List UInt8), (spl cur u).length ≤ u.length + 1
  | [], cur => by simp [spl]
  | c :: u, cur => by
    rw [spl]
    split
    · have := spl_len u []; simp; omega
    · have := spl_len u (cur ++ [c]); simp; omega
theorem spl_in : ∀ (u cur : List UInt8), ∀ p ∈ spl cur u, p.length ≤ cur.length + u.length
  | [], cur, p, h => by simp [spl] at h; subst h; simp
  | c :: u, cur, p, h => by
    rw [spl] at h
    split at h
    · rcases List.mem_cons.mp h with rfl | h
      · simp
      · have := spl_in u [] p h; simp at this ⊢; omega
    · have := spl_in u (cur ++ [c]) p h; simp at this ⊢; omega

def mk (p : List UInt8) : ByteArray := ⟨p.toArray⟩
theorem ext_mk (s : ByteArray) (a b : Nat) : s.extract a b = mk ((s.data.toList.drop a).take (b - a)) := by
  have h := Lib.extract_data s a b
  unfold mk
  rw [← h]
theorem isNL_nlB (c : UInt8) : isNL c.toNat = nlB c := by
  unfold isNL nlB
  have h : ∀ x : UInt8, (c.toNat == x.toNat) = (c == x) := by
    intro x
    by_cases e : c = x
    · rw [e, beq_self_eq_true, beq_self_eq_true]
    · have : c.toNat ≠ x.toNat := fun h => e (UInt8.toNat_inj.mp h)
      rw [beq_eq_false_iff_ne.mpr this, beq_eq_false_iff_ne.mpr e]
  rw [← h 13, ← h 10]
  rfl
theorem take_add (l : List UInt8) (a p n : Nat) (h : a ≤ p) : (l.drop a).take (p + n - a) = (l.drop a).take (p - a) ++ (l.drop p).take n := by
  rw [show p + n - a = (p - a) + n by omega, List.take_add, List.drop_drop, show a + (p - a) = p by omega]

def keep (p : List UInt8) : Bool := !p.isEmpty
theorem spans (s : ByteArray) : ∀ (f pos : Nat) (st : Option Nat) (acc : List (Nat × Nat)) (cur : List UInt8), pos ≤ s.size → s.size - pos ≤ f →
    (st = none ∧ cur = [] ∨ ∃ a, st = some a ∧ a < pos ∧ (s.data.toList.drop a).take (pos - a) = cur) →
    (Lib.closeSpans s (Lib.spansFromP isNL s f pos st acc)).map (fun x => s.extract x.1 x.2) = acc.map (fun x => s.extract x.1 x.2) ++ ((spl cur (s.data.toList.drop pos)).filter keep).map mk := by
  intro f
  induction f with
  | zero =>
    intro pos st acc cur hp hf hst
    obtain rfl : pos = s.size := by omega
    rw [Lib.spansFromP_end isNL s 0 s.size st acc (by omega), show s.data.toList.drop s.size = [] from List.drop_eq_nil_of_le (by rw [← Lib.size_eq]; omega), spl]
    rcases hst with ⟨rfl, rfl⟩ | ⟨a, rfl, ha, rfl⟩
    · simp [Lib.closeSpans, keep]
    · have hk : keep ((s.data.toList.drop a).take (s.size - a)) = true := by
        have hl : ((s.data.toList.drop a).take (s.size - a)).length = s.size - a := by
          rw [List.length_take, List.length_drop, ← Lib.size_eq]; omega
        cases hq : (s.data.toList.drop a).take (s.size - a) with
        | nil => rw [hq] at hl; simp at hl; omega
        | cons _ _ => rfl
      simp only [Lib.closeSpans, List.map_append, List.map_cons, List.map_nil, List.filter_cons, hk, List.filter_nil, if_true, ext_mk]
  | succ f ih =>
    intro pos st acc cur hp hf hst
    by_cases hlt : pos < s.size
    · have hl : pos < s.data.toList.length := by rw [← Lib.size_eq]; exact hlt
      obtain ⟨n1, n2, n3⟩ := dec_in s pos hlt
      have hcur : st.isSome = true → keep cur = true := by
        intro h
        rcases hst with ⟨rfl, rfl⟩ | ⟨a, rfl, ha, rfl⟩
        · cases h
        · have hl2 : ((s.data.toList.drop a).take (pos - a)).length = pos - a := by
            rw [List.length_take, List.length_drop]; omega
          cases hq : (s.data.toList.drop a).take (pos - a) with
          | nil => rw [hq] at hl2; simp at hl2; omega
          | cons _ _ => rfl
      -- what is no line's end
      have go : isNL (Utf8.decode s pos).1 = false → (∀ c ∈ (s.data.toList.drop pos).take (Utf8.decode s pos).2, nlB c = false) →
          (Lib.closeSpans s (Lib.spansFromP isNL s (f + 1) pos st acc)).map (fun x => s.extract x.1 x.2) = acc.map (fun x => s.extract x.1 x.2) ++ ((spl cur (s.data.toList.drop pos)).filter keep).map mk := by
        intro hnl hall
        generalize hn : (Utf8.decode s pos).2 = n at *
        have hsp : spl cur (s.data.toList.drop pos) = spl (cur ++ (s.data.toList.drop pos).take n) (s.data.toList.drop (pos + n)) := by
          rw [← spl_no _ cur _ hall, ← List.drop_drop, List.take_append_drop]
        rw [hsp]
        rcases hst with ⟨rfl, rfl⟩ | ⟨a, rfl, ha, rfl⟩
        all_goals rw [Lib.spansFromP, if_pos hlt, hnl, if_neg (by decide), hn]
        · exact ih (pos + n) (some pos) acc _ (by omega) (by omega) (.inr ⟨pos, rfl, by omega, by rw [Nat.add_sub_cancel_left]; rfl⟩)
        · exact ih (pos + n) (some a) acc _ (by omega) (by omega) (.inr ⟨a, rfl, by omega, take_add _ _ _ _ (by omega)⟩)
      by_cases hb : 128 ≤ (s.get! pos).toNat
      · have hd := dec_big s pos hb
        refine go ?_ ?_
        · unfold isNL
          rw [show ((Utf8.decode s pos).1 == 13) = false from beq_eq_false_iff_ne.mpr (by omega), show ((Utf8.decode s pos).1 == 10) = false from beq_eq_false_iff_ne.mpr (by omega)]
          rfl
        · intro c hc
          obtain ⟨i, hi, rfl⟩ := List.getElem_of_mem hc
          rw [List.length_take] at hi
          have h1 := n3 hb i (by omega)
          rw [get_list s (pos + i) (by omega)] at h1
          rw [List.getElem_take, List.getElem_drop, ← isNL_nlB]
          unfold isNL
          rw [beq_eq_false_iff_ne.mpr (by omega : _ ≠ 13), beq_eq_false_iff_ne.mpr (by omega : _ ≠ 10)]
          rfl
      · have hg := get_list s pos hlt
        have hg2 : s[pos]'hlt = s.get! pos := by rw [hg]; rfl
        have e := decode_ascii s pos hlt (by rw [hg2]; omega)
        rw [hg2] at e
        obtain ⟨c, hc⟩ : ∃ c, c = s.get! pos := ⟨_, rfl⟩
        have hdc : s.data.toList.drop pos = c :: s.data.toList.drop (pos + 1) := by rw [List.drop_eq_getElem_cons hl, hc, hg]
        cases hn : nlB c with
        | false =>
          refine go (by rw [e, ← hc]; exact (isNL_nlB c).trans hn) ?_
          intro d hd
          rw [e, hdc] at hd
          simp at hd
          rw [hd]; exact hn
        | true =>
          have hnl : isNL (s.get! pos).toNat = true := by rw [← hc]; exact (isNL_nlB c).trans hn
          rw [hdc, spl, if_pos hn]
          rcases hst with ⟨rfl, rfl⟩ | ⟨a, rfl, ha, rfl⟩
          all_goals rw [Lib.spansFromP, if_pos hlt, e]; simp only [hnl, if_true]
          · have := ih (pos + 1) none acc [] (by omega) (by omega) (.inl ⟨rfl, rfl⟩)
            simp only [this, List.filter_cons, show keep [] = false from rfl, Bool.false_eq_true, if_false]
          · have := ih (pos + 1) none (acc ++ [(a, pos)]) [] (by omega) (by omega) (.inl ⟨rfl, rfl⟩)
            simp only [ext_mk] at this ⊢
            simp only [this, List.filter_cons, hcur rfl, if_true, List.map_cons, List.map_append, List.map_nil, List.append_assoc, List.cons_append, List.nil_append]
    · obtain rfl : pos = s.size := by omega
      have := ih s.size st acc cur hp (by omega) hst
      rw [Lib.spansFromP_end isNL s f s.size st acc (by omega)] at this
      rw [Lib.spansFromP_end isNL s (f + 1) s.size st acc (by omega)]
      exact this
theorem pieces (s : ByteArray) : Lib.goFieldsP isNL s = ((spl [] s.data.toList).filter keep).map mk := by
  have := spans s s.size 0 none [] [] (Nat.zero_le _) (by omega) (.inl ⟨rfl, rfl⟩)
  unfold Lib.goFieldsP Lib.spansOfP
  simpa using this

/-- What a line says, in bytes: its name, what it tells, whether it says something. -/
def sayK (p : List UInt8) : List UInt8 := lowL (Lib.trimS (Lib.cut (Lib.cut p [35]).1 [58]).1 [32, 9])
def sayV (p : List UInt8) : List UInt8 := Lib.trimS (Lib.cut (Lib.cut p [35]).1 [58]).2.1 [32, 9]
def sayB (p : List UInt8) : Bool := (Lib.cut (Lib.cut p [35]).1 [58]).2.2 && (sayK p != [])
def sayL (p : List UInt8) : Option S35 := if sayB p = true then some ⟨mk (sayK p), mk (sayV p)⟩ else none
def parseV (l : List UInt8) : List S35 := (spl [] l).filterMap sayL
theorem mk_size (p : List UInt8) : (mk p).size = p.length := by rw [Lib.size_eq]; rfl
theorem mk_toList (p : List UInt8) : (mk p).toList = p := by simp [mk]
theorem trimS_len (l cs : List UInt8) : (Lib.trimS l cs).length ≤ l.length := by
  unfold Lib.trimS Lib.trimLeftS Lib.trimRightS
  refine Nat.le_trans ((List.dropWhile_sublist _).length_le) ?_
  rw [List.length_reverse]
  refine Nat.le_trans ((List.dropWhile_sublist _).length_le) ?_
  rw [List.length_reverse]
  exact Nat.le_refl _
theorem line_f (p : List UInt8) (hp : p.length < 4294967281) : lines_line.f (mk p) = some (mk (sayK p), mk (sayV p), sayB p) := by
  have h1 := cut_room p [35]
  have h2 := cut_room (Lib.cut p [35]).1 [58]
  have hk := trimS_len (Lib.cut (Lib.cut p [35]).1 [58]).1 [32, 9]
  have hv := trimS_len (Lib.cut (Lib.cut p [35]).1 [58]).2.1 [32, 9]
  unfold lines_line.f strings_Cut.f strings_Trim.f lines_lower.f
  have e1 : (mk p).data.toList = p := rfl
  rw [e1, if_pos (by rw [mk_size]; exact hp)]
  simp only [Option.bind_some]
  rw [show (ByteArray.mk (Lib.cut p [35]).1.toArray) = mk (Lib.cut p [35]).1 from rfl, if_pos (by rw [mk_size]; omega)]
  simp only [Option.bind_some]
  have e2 : ∀ q : List UInt8, (ByteArray.mk q.toArray) = mk q := fun _ => rfl
  have e3 : ∀ q : List UInt8, (mk q).data.toList = q := fun _ => rfl
  have hset : (((⟨#[32, 9]⟩ : ByteArray).data.toList.all fun b => decide (b.toNat < 128)) = true) := rfl
  have hs9 : (⟨#[32, 9]⟩ : ByteArray).size < 1000 := by decide
  have hd : (⟨#[32, 9]⟩ : ByteArray).data.toList = [32, 9] := rfl
  have hd2 : (⟨#[35]⟩ : ByteArray).data.toList = [35] := rfl
  have hd3 : (⟨#[58]⟩ : ByteArray).data.toList = [58] := rfl
  simp only [e2, e3, hd, hd2, hd3]
  rw [if_pos ⟨by rw [mk_size]; omega, hs9, by rfl⟩]
  simp only [Option.bind_some, e3]
  rw [if_pos (by rw [mk_size]; omega)]
  simp only [Option.bind_some]
  rw [if_pos ⟨by rw [mk_size]; omega, hs9, by rfl⟩]
  simp only [Option.bind_some, mk_toList]
  unfold sayB sayK sayV
  cases (Lib.cut (Lib.cut p [35]).1 [58]).2.2 with
  | true => rw [if_pos rfl, Bool.true_and]
  | false => rw [if_neg (by decide), Bool.false_and]
theorem parse_l : ∀ ps : List (List UInt8), (∀ p ∈ ps, p.length < 4294967281) → parseL ((ps.filter keep).map mk) = some (ps.filterMap sayL)
  | [], _ => rfl
  | p :: ps, h => by
    have ih := parse_l ps (fun q hq => h q (by simp [hq]))
    cases p with
    | nil =>
      have : sayL [] = none := by decide
      rw [List.filterMap_cons, this]
      simpa [keep] using ih
    | cons c t =>
      rw [show ((c :: t) :: ps).filter keep = (c :: t) :: ps.filter keep from rfl, List.map_cons, parseL, line_f _ (h _ (by simp)), ih]
      simp only [Option.bind_some, Option.map_some, List.filterMap_cons]
      unfold sayL
      cases sayB (c :: t) <;> simp
theorem parse_f (a : ByteArray) (ha : a.size ≤ 140737488351232) : lines_Parse.f a = some (parseV (cut4096 a).data.toList) := by
  have hlen : (cut4096 a).data.toList.length ≤ 4096 := by
    have h1 : (a.extract 0 (min a.size 4096)).data.toList.length ≤ 4096 := by
      rw [Lib.extract_data, List.length_take]; omega
    show (Lib.trimPrefix (a.extract 0 (min a.size 4096)).data.toList [239, 187, 191]).length ≤ 4096
    unfold Lib.trimPrefix
    split
    · rw [List.length_drop]; omega
    · exact h1
  unfold lines_Parse.f
  rw [pieces]
  have h2 := spl_len (cut4096 a).data.toList []
  have h3 := List.length_filter_le keep (spl [] (cut4096 a).data.toList)
  rw [if_pos ⟨ha, by rw [List.length_map]; omega⟩, parse_l]
  · rfl
  · intro p hp
    have := spl_in _ _ p hp
    simp at this
    simp at hlen
    omega
end Go.Proofs.YtdnaddignhjihaaDoor.Pure
namespace Go.Proofs.YtdnaddignhjihaaDoor.Pure
open Go Go.RowKit Go.Proofs.YtdnaddignhjihaaDoor.QBase Go.Proofs.YtdnaddignhjihaaDoor.Given Go.Proofs.YtdnaddignhjihaaDoorW.PrintWords Go.Proofs.YtdnaddignhjihaaDoorW.PrintLast
set_option linter.unusedVariables false
set_option linter.unusedSimpArgs false
def blank (c : UInt8) : Bool := ([32, 9] : List UInt8).contains c
theorem blank_iff (c : UInt8) : blank c = true ↔ (c.toNat : Int) = 32 ∨ (c.toNat : Int) = 9 := by
  have h : ∀ x : UInt8, (c = x) ↔ c.toNat = x.toNat := fun x => ⟨fun e => by rw [e], fun e => UInt8.toNat_inj.mp e⟩
  unfold blank
  simp only [List.contains_cons, List.contains_nil, Bool.or_false, Bool.or_eq_true, beq_iff_eq, h]
  rw [show (32 : UInt8).toNat = 32 from rfl, show (9 : UInt8).toNat = 9 from rfl]
  omega
theorem bt_mk (u : List UInt8) (c : UInt8) (r : List UInt8) : bt (mk (u ++ c :: r)) (u.length : Int) = (c.toNat : Int) :=
  (bt_drop (s := mk (u ++ c :: r)) (i := u.length) (by show (u ++ c :: r).drop u.length = c :: r; simp)).2.1
theorem ext_l (l : List UInt8) (a b : Nat) : (mk l).extract a b = mk ((l.drop a).take (b - a)) := ext_mk (mk l) a b

theorem dw_nil (p : UInt8 → Bool) : ∀ l : List UInt8, l.dropWhile p = [] ↔ ∀ x ∈ l, p x = true
  | [] => by simp
  | c :: t => by
    rw [List.dropWhile_cons]
    by_cases h : p c = true
    · rw [if_pos h, dw_nil p t]; simp [h]
    · rw [if_neg h]; simp [h]
theorem right_snoc (t : List UInt8) (c : UInt8) : Lib.trimRightS (t ++ [c]) [32, 9] = if blank c = true then Lib.trimRightS t [32, 9] else t ++ [c] := by
  unfold Lib.trimRightS
  rw [List.reverse_append, List.reverse_singleton, List.singleton_append, List.dropWhile_cons]
  change List.reverse (if blank c = true then _ else _) = _
  split
  · rfl
  · simp
theorem trim_l1 : ∀ (n : Nat) (l : List UInt8) (k : Nat), l.length = n → n < 140737488351232 → n + 1 ≤ k → decorumref07_Trim.l1 k (mk l) = some (mk (Lib.trimRightS l [32, 9])) := by
  intro n
  induction n with
  | zero =>
    intro l k h _ hk
    obtain ⟨k, rfl⟩ : ∃ k', k = k' + 1 := ⟨k - 1, by omega⟩
    obtain rfl := List.length_eq_zero_iff.mp h
    rw [decorumref07_Trim.l1, if_neg (by rw [mk_size]; simp)]
    rfl
  | succ n ih =>
    intro l k h hn hk
    obtain ⟨k, rfl⟩ : ∃ k', k = k' + 1 := ⟨k - 1, by omega⟩
    have hne : l ≠ [] := fun e => by rw [e] at h; simp at h
    obtain ⟨t, c, rfl⟩ : ∃ t c, l = t ++ [c] := ⟨l.dropLast, l.getLast hne, (List.dropLast_concat_getLast hne).symm⟩
    have ht : t.length = n := by simpa using h
    have hs : ((mk (t ++ [c])).size : Int) = ((t.length + 1 : Nat) : Int) := by rw [mk_size, List.length_append]; rfl
    have hw : Aside0 (wrap64 (((t.length + 1 : Nat) : Int) - 1) = (t.length : Int)) := ⟨by simp only [wrap64]; omega⟩
    have hb : bt (mk (t ++ [c])) (t.length : Int) = (c.toNat : Int) := bt_mk t c []
    have he : (mk (t ++ [c])).extract 0 t.length = mk t := by rw [ext_l]; simp
    rw [decorumref07_Trim.l1, hs, if_pos (by omega), hw.out, if_pos (by omega), if_pos (by omega), hb, right_snoc]
    have hr := ih t k ht (by omega) (by omega)
    by_cases h32 : (c.toNat : Int) = 32
    · rw [if_pos h32, if_pos (by omega), Int.toNat_natCast, he, hr, if_pos ((blank_iff c).mpr (.inl h32))]
    · rw [if_neg h32]
      by_cases h9 : (c.toNat : Int) = 9
      · rw [if_pos h9, if_pos (by omega), Int.toNat_natCast, he, hr, if_pos ((blank_iff c).mpr (.inr h9))]
      · rw [if_neg h9, if_neg (fun h => ((blank_iff c).mp h).elim h32 h9)]
theorem trim_l0 : ∀ (l : List UInt8) (k : Nat), l.length < 140737488351232 → 2 * l.length + 3 ≤ k → decorumref07_Trim.l0 k (mk l) = some (mk (Lib.trimRightS (Lib.trimLeftS l [32, 9]) [32, 9]))
  | [], k, hn, hk => by
    obtain ⟨k, rfl⟩ : ∃ k', k = k' + 3 := ⟨k - 3, by simp at hk; omega⟩
    rw [decorumref07_Trim.l0, if_neg (by rw [mk_size]; simp), decorumref07_Trim.j1, trim_l1 0 [] (k + 1) rfl (by omega) (by omega)]
    rfl
  | c :: t, k, hn, hk => by
    rw [List.length_cons] at hn hk
    obtain ⟨k, rfl⟩ : ∃ k', k = k' + 2 := ⟨k - 2, by omega⟩
    have hs : ((mk (c :: t)).size : Int) = ((t.length + 1 : Nat) : Int) := by rw [mk_size, List.length_cons]
    have hs2 : (mk (c :: t)).size = t.length + 1 := by rw [mk_size, List.length_cons]
    have hb : bt (mk (c :: t)) 0 = (c.toNat : Int) := bt_mk [] c t
    have he : (mk (c :: t)).extract 1 (t.length + 1) = mk t := by rw [ext_l]; simp
    have hl : Lib.trimLeftS (c :: t) [32, 9] = if blank c = true then Lib.trimLeftS t [32, 9] else c :: t := by
      unfold Lib.trimLeftS
      rw [List.dropWhile_cons]
      rfl
    rw [decorumref07_Trim.l0, hs, hs2, if_pos (by omega), if_pos (by omega), hb, he, hl]
    have hr := trim_l0 t (k + 1) (by omega) (by omega)
    by_cases h32 : (c.toNat : Int) = 32
    · rw [if_pos h32, if_pos (by omega), hr, if_pos ((blank_iff c).mpr (.inl h32))]
    · rw [if_neg h32]
      by_cases h9 : (c.toNat : Int) = 9
      · rw [if_pos h9, if_pos (by omega), hr, if_pos ((blank_iff c).mpr (.inr h9))]
      · rw [if_neg h9, if_neg (fun h => ((blank_iff c).mp h).elim h32 h9), decorumref07_Trim.j1, trim_l1 (t.length + 1) (c :: t) k (by simp) (by omega) (by omega)]
theorem right_cons (c : UInt8) (t : List UInt8) : Lib.trimRightS (c :: t) [32, 9] = if t.all blank = true then (if blank c = true then [] else [c]) else c :: Lib.trimRightS t [32, 9] := by
  have gen : ∀ (l : List UInt8), (Lib.trimRightS l [32, 9] = [] ↔ l.all blank = true) := by
    intro l
    unfold Lib.trimRightS
    rw [List.reverse_eq_nil_iff, dw_nil, List.all_eq_true]
    simp [blank]
  have happ : ∀ (l : List UInt8), Lib.trimRightS (c :: l) [32, 9] = if (l.reverse.dropWhile (([32, 9] : List UInt8).contains ·)).isEmpty = true then (if blank c = true then [] else [c]) else c :: Lib.trimRightS l [32, 9] := by
    intro l
    unfold Lib.trimRightS
    rw [List.reverse_cons, List.dropWhile_append]
    split
    · rw [List.dropWhile_cons]
      change List.reverse (if blank c = true then _ else _) = _
      split <;> rfl
    · simp
  rw [happ t]
  have h2 : ((t.reverse.dropWhile (([32, 9] : List UInt8).contains ·)).isEmpty = true) ↔ t.all blank = true := by
    rw [← gen t]
    unfold Lib.trimRightS
    rw [List.reverse_eq_nil_iff, List.isEmpty_iff]
  by_cases h : t.all blank = true
  · rw [if_pos h, if_pos (h2.mpr h)]
  · rw [if_neg h, if_neg (fun e => h (h2.mp e))]
theorem trim_both : ∀ l : List UInt8, Lib.trimRightS (Lib.trimLeftS l [32, 9]) [32, 9] = Lib.trimS l [32, 9]
  | [] => rfl
  | c :: t => by
    have ih := trim_both t
    unfold Lib.trimS at ih ⊢
    have hl : ∀ r, Lib.trimLeftS (c :: r) [32, 9] = if blank c = true then Lib.trimLeftS r [32, 9] else c :: r := by
      intro r
      unfold Lib.trimLeftS
      rw [List.dropWhile_cons]
      rfl
    rw [hl]
    by_cases hc : blank c = true
    · rw [if_pos hc, ih, right_cons]
      by_cases ha : t.all blank = true
      · rw [if_pos ha, if_pos hc]
        have : Lib.trimRightS t [32, 9] = [] := by
          unfold Lib.trimRightS
          rw [List.reverse_eq_nil_iff, dw_nil]
          intro x hx
          exact List.all_eq_true.mp ha x (by simpa using hx)
        rw [this]
      · rw [if_neg ha, hl, if_pos hc]
    · rw [if_neg hc, right_cons]
      by_cases ha : t.all blank = true
      · rw [if_pos ha, if_neg hc, hl, if_neg hc]
      · rw [if_neg ha, hl, if_neg hc]
theorem trim_f (l : List UInt8) (k : Nat) (hn : l.length < 140737488351232) (hk : 2 * l.length + 3 ≤ k) : decorumref07_Trim.f k (mk l) = some (mk (Lib.trimS l [32, 9])) := by
  rw [decorumref07_Trim.f, trim_l0 l k hn hk, trim_both]

theorem cut_no (x : UInt8) : ∀ (u l : List UInt8), (∀ c ∈ u, c ≠ x) → Lib.cut (u ++ l) [x] = (u ++ (Lib.cut l [x]).1, (Lib.cut l [x]).2.1, (Lib.cut l [x]).2.2)
  | [], l, _ => rfl
  | c :: u, l, h => by
    rw [List.cons_append, cut_miss x c _ (h c (by simp)), cut_no x u l (fun d hd => h d (by simp [hd]))]
    rfl
/-- What is known of the signs gone by. -/
def Seen (u : List UInt8) (x5 : Int) : Prop := (x5 = -1 ∧ ∀ c ∈ u, c ≠ 58) ∨ ∃ A B, u = A ++ 58 :: B ∧ x5 = (A.length : Int) ∧ ∀ c ∈ A, c ≠ 58
theorem say_j1 (p u r : List UInt8) (hp : p = u ++ r) (x5 : Int) (hn : p.length < 140737488351232) (hx : Seen u x5) (hu : (Lib.cut p [35]).1 = u) (k : Nat) (hk : 2 * p.length + 4 ≤ k) :
    ∃ K V, decorumref09_say.j1 k (mk p) (u.length : Int) x5 = some (K, V, sayB p) ∧ (sayB p = true → K = mk (sayK p) ∧ V = mk (sayV p)) := by
  obtain ⟨k, rfl⟩ : ∃ k', k = k' + 1 := ⟨k - 1, by omega⟩
  have hul : u.length ≤ p.length := by rw [hp]; simp
  rcases hx with ⟨rfl, hno⟩ | ⟨A, B, hAB, rfl, hno⟩
  · have hc : Lib.cut (Lib.cut p [35]).1 [58] = (u, [], false) := by
      rw [hu]
      have := cut_no 58 u [] hno
      rw [List.append_nil, cut_nil, List.append_nil] at this
      exact this
    have hB : sayB p = false := by unfold sayB; rw [hc]; rfl
    rw [hB, decorumref09_say.j1, if_pos (by decide)]
    exact ⟨_, _, rfl, fun h => by cases h⟩
  · have hc : Lib.cut (Lib.cut p [35]).1 [58] = (A, B, true) := by
      rw [hu, hAB, cut_no 58 A _ hno, cut_hit]
      simp
    have hlen : A.length + 1 + B.length = u.length := by rw [hAB]; simp; omega
    have e1 : (mk p).extract 0 A.length = mk A := by rw [ext_l, hp, hAB]; simp
    have e2 : (mk p).extract (A.length + 1) u.length = mk B := by
      rw [ext_l, hp]
      congr 1
      rw [← hlen, Nat.add_sub_cancel_left, hAB]
      simp [List.drop_append, List.take_append]
    have hw : Aside0 (wrap64 ((A.length : Int) + 1) = ((A.length + 1 : Nat) : Int)) := ⟨by simp only [wrap64]; omega⟩
    have hs : (mk p).size = p.length := mk_size p
    have hK : sayK p = lowL (Lib.trimS A [32, 9]) := by unfold sayK; rw [hc]
    have hV : sayV p = Lib.trimS B [32, 9] := by unfold sayV; rw [hc]
    have hB : sayB p = (lowL (Lib.trimS A [32, 9]) != []) := by unfold sayB; rw [hc, hK]; rfl
    have hT := trimS_len A [32, 9]
    have hlow : decorumref09_Lower.f (mk (Lib.trimS A [32, 9])) = some (mk (lowL (Lib.trimS A [32, 9]))) := by
      rw [decorumref09_Lower.f, if_pos (by rw [mk_size]; omega)]
      rfl
    rw [decorumref09_say.j1, if_neg (by omega), if_pos (by omega), hs, if_pos (by omega), Int.toNat_natCast, e1, trim_f A k (by omega) (by omega), Option.bind_some, hlow, Option.bind_some, hw.out,
      if_pos (by omega), if_pos (by omega), if_pos (by omega), Int.toNat_natCast, Int.toNat_natCast, e2, trim_f B k (by omega) (by omega), Option.bind_some, mk_toList]
    exact ⟨_, _, by rw [hB], fun _ => ⟨by rw [hK], by rw [hV]⟩⟩
theorem u8_n (c x : UInt8) : ((c.toNat : Int) = (x.toNat : Int)) ↔ c = x := by
  constructor
  · intro h
    exact UInt8.toNat_inj.mp (by omega)
  · rintro rfl; rfl
theorem say_l0 (p : List UInt8) (hn : p.length < 140737488351232) : ∀ (l u : List UInt8) (x5 : Int) (k : Nat), p = u ++ l → (∀ c ∈ u, c ≠ 35) → Seen u x5 → 2 * p.length + 5 + l.length ≤ k →
    ∃ K V, decorumref09_say.l0 k (mk p) (p.length : Int) x5 (u.length : Int) = some (K, V, sayB p) ∧ (sayB p = true → K = mk (sayK p) ∧ V = mk (sayV p)) := by
  intro l
  induction l with
  | nil =>
    intro u x5 k hp hu hx hk
    obtain ⟨k, rfl⟩ : ∃ k', k = k' + 1 := ⟨k - 1, by omega⟩
    have hpu : p = u := by rw [hp]; simp
    have hc : (Lib.cut p [35]).1 = u := by
      have := cut_no 35 u [] hu
      rw [hp, this, cut_nil]; simp
    rw [decorumref09_say.l0, mk_size, if_neg (by rw [hpu]; omega)]
    have := say_j1 p u [] hp x5 hn hx hc k (by simp at hk; omega)
    rw [← hpu] at this
    exact this
  | cons c t ih =>
    intro u x5 k hp hu hx hk
    rw [List.length_cons] at hk
    obtain ⟨k, rfl⟩ : ∃ k', k = k' + 1 := ⟨k - 1, by omega⟩
    have hl : p.length = u.length + (t.length + 1) := by rw [hp]; simp
    have hb : bt (mk p) (u.length : Int) = (c.toNat : Int) := by rw [hp]; exact bt_mk u c t
    have hw : Aside0 (wrap64 ((u.length : Int) + 1) = ((u.length + 1 : Nat) : Int)) := ⟨by simp only [wrap64]; omega⟩
    rw [decorumref09_say.l0, mk_size, if_pos (by omega), if_pos (by omega), hb, hw.out]
    by_cases h35 : c = 35
    · subst h35
      have hc : (Lib.cut p [35]).1 = u := by rw [hp, cut_no 35 u _ hu, cut_hit]; simp
      rw [if_pos (by rfl)]
      exact say_j1 p u (35 :: t) hp x5 hn hx hc k (by omega)
    · rw [if_neg (show ¬ ((c.toNat : Int) = 35) from fun h => h35 ((u8_n c 35).mp h))]
      have hp2 : p = (u ++ [c]) ++ t := by rw [hp]; simp
      have hu2 : ∀ d ∈ u ++ [c], d ≠ 35 := by
        intro d hd
        rcases List.mem_append.mp hd with hd | hd
        · exact hu d hd
        · rw [List.mem_singleton.mp hd]; exact h35
      have hlen : ((u.length + 1 : Nat) : Int) = ((u ++ [c]).length : Int) := by simp
      rw [hlen]
      by_cases h58 : c = 58
      · subst h58
        rw [if_pos (by rfl)]
        rcases hx with ⟨rfl, hno⟩ | ⟨A, B, hAB, rfl, hno⟩
        · rw [if_pos (by decide)]
          exact ih (u ++ [58]) _ k hp2 hu2 (.inr ⟨u, [], rfl, rfl, hno⟩) (by omega)
        · rw [if_neg (by omega)]
          exact ih (u ++ [58]) _ k hp2 hu2 (.inr ⟨A, B ++ [58], by rw [hAB]; simp, rfl, hno⟩) (by omega)
      · rw [if_neg (show ¬ ((c.toNat : Int) = 58) from fun h => h58 ((u8_n c 58).mp h))]
        refine ih (u ++ [c]) _ k hp2 hu2 ?_ (by omega)
        rcases hx with ⟨rfl, hno⟩ | ⟨A, B, hAB, rfl, hno⟩
        · refine .inl ⟨rfl, ?_⟩
          intro d hd
          rcases List.mem_append.mp hd with hd | hd
          · exact hno d hd
          · rw [List.mem_singleton.mp hd]; exact h58
        · exact .inr ⟨A, B ++ [c], by rw [hAB]; simp, rfl, hno⟩
theorem say_f (p : List UInt8) (hn : p.length < 140737488351232) (k : Nat) (hk : 3 * p.length + 5 ≤ k) :
    ∃ K V, decorumref09_say.f k (mk p) = some (K, V, sayB p) ∧ (sayB p = true → K = mk (sayK p) ∧ V = mk (sayV p)) := by
  have := say_l0 p hn p [] (-1) k (by simp) (by simp) (.inl ⟨rfl, by simp⟩) (by omega)
  rw [decorumref09_say.f, mk_size]
  exact this
end Go.Proofs.YtdnaddignhjihaaDoor.Pure
namespace Go.Proofs.YtdnaddignhjihaaDoor.Pure
open Go Go.RowKit Go.Proofs.YtdnaddignhjihaaDoor.QBase Go.Proofs.YtdnaddignhjihaaDoor.Given Go.Proofs.YtdnaddignhjihaaDoorW.PrintWords Go.Proofs.YtdnaddignhjihaaDoorW.PrintLast
set_option linter.unusedVariables false
set_option linter.unusedSimpArgs false
def conv (x : S35) : S72 := ⟨x.f0, x.f1⟩
def sayR (p : List UInt8) : Option S72 := (sayL p).map conv
theorem i1 (i : Nat) (h : i < 140737488351232) : Aside0 (wrap64 ((i : Int) + 1) = ((i + 1 : Nat) : Int)) := ⟨by simp only [wrap64]; omega⟩
theorem ext_cur (u cur l : List UInt8) : (mk (u ++ cur ++ l)).extract u.length (u ++ cur).length = mk cur := by
  rw [ext_l]
  congr 1
  rw [List.append_assoc, List.drop_left, List.length_append, Nat.add_sub_cancel_left, List.take_left]
theorem ref_j4 (u cur l : List UInt8) (acc : List S72) (k : Nat) (hn : (u ++ cur ++ l).length < 140737488351232) (ha : acc.length < 4398046511104) (hk : 3 * cur.length + 5 ≤ k) :
    decorumref09_Parse.j4 (k + 1) (mk (u ++ cur ++ l)) acc (u.length : Int) ((u ++ cur).length : Int) true =
      decorumref09_Parse.l0 k (mk (u ++ cur ++ l)) (acc ++ (sayR cur).toList) (((u ++ cur).length + 1 : Nat) : Int) (((u ++ cur).length + 1 : Nat) : Int) := by
  have hl : (u ++ cur).length = u.length + cur.length := List.length_append
  have hl2 : (u ++ cur ++ l).length = (u ++ cur).length + l.length := List.length_append
  obtain ⟨K, V, hf, hKV⟩ := say_f cur (by omega) k hk
  have hw := i1 (u ++ cur).length (by omega)
  have he := ext_cur u cur l
  have hsz : (mk (u ++ cur ++ l)).size = (u ++ cur).length + l.length := by rw [mk_size, hl2]
  rw [decorumref09_Parse.j4, if_pos rfl, if_pos (by omega), if_pos (by omega), hsz, if_pos (by omega), Int.toNat_natCast, Int.toNat_natCast, he, hf, Option.bind_some, hw.out]
  unfold sayR sayL
  cases hB : sayB cur with
  | true =>
    obtain ⟨rfl, rfl⟩ := hKV hB
    rw [if_pos rfl, if_pos ha]
    rfl
  | false =>
    rw [if_neg (fun h => by cases h), if_neg (by decide)]
    simp
theorem ref_l0 : ∀ (l u cur : List UInt8) (acc : List S72) (k : Nat), (u ++ cur ++ l).length < 100000 → acc.length + l.length < 1000000 → 3 * (u ++ cur ++ l).length + 2 * l.length + 10 ≤ k →
    decorumref09_Parse.l0 k (mk (u ++ cur ++ l)) acc (u.length : Int) ((u ++ cur).length : Int) = some (acc ++ (spl cur l).filterMap sayR)
  | [], u, cur, acc, k, hn, ha, hk => by
    obtain ⟨k, rfl⟩ : ∃ k', k = k' + 3 := ⟨k - 3, by omega⟩
    have hl : (u ++ cur).length = u.length + cur.length := List.length_append
    have hl2 : (u ++ cur ++ []).length = (u ++ cur).length := by simp
    have hsz : (mk (u ++ cur ++ [])).size = (u ++ cur).length := by rw [mk_size, hl2]
    rw [decorumref09_Parse.l0, hsz, if_pos (by omega), if_pos rfl, ref_j4 u cur [] acc (k + 1) (by omega) (by omega) (by omega), decorumref09_Parse.l0, hsz, if_neg (by omega), spl]
    cases hq : sayR cur <;> simp [hq]
  | c :: t, u, cur, acc, k, hn, ha, hk => by
    rw [List.length_cons] at ha
    obtain ⟨k, rfl⟩ : ∃ k', k = k' + 2 := ⟨k - 2, by omega⟩
    have hl : (u ++ cur).length = u.length + cur.length := List.length_append
    have hl2 : (u ++ cur ++ c :: t).length = (u ++ cur).length + (t.length + 1) := List.length_append
    have hsz : (mk (u ++ cur ++ c :: t)).size = (u ++ cur).length + (t.length + 1) := by rw [mk_size, hl2]
    have hb : bt (mk (u ++ cur ++ c :: t)) ((u ++ cur).length : Int) = (c.toNat : Int) := bt_mk (u ++ cur) c t
    have hw := i1 (u ++ cur).length (by omega)
    rw [List.length_cons] at hk
    rw [decorumref09_Parse.l0, hsz, if_pos (by omega), if_neg (by omega), if_pos (by omega), if_pos (by omega), hb]
    have yes : nlB c = true → decorumref09_Parse.j4 (k + 1) (mk (u ++ cur ++ c :: t)) acc (u.length : Int) ((u ++ cur).length : Int) true = some (acc ++ (spl cur (c :: t)).filterMap sayR) := by
      intro h
      have e : u ++ cur ++ c :: t = (u ++ cur ++ [c]) ++ [] ++ t := by simp
      have e2 : (((u ++ cur).length + 1 : Nat) : Int) = ((u ++ cur ++ [c]).length : Int) := by simp; omega
      have e3 : ((u ++ cur ++ [c]).length : Int) = ((u ++ cur ++ [c] ++ []).length : Int) := by simp
      have e4 : (u ++ cur ++ [c] ++ [] ++ t).length = (u ++ cur).length + (t.length + 1) := by rw [← e, hl2]
      have hacc : (acc ++ (sayR cur).toList).length ≤ acc.length + 1 := by
        rw [List.length_append]
        cases sayR cur <;> simp
      have hr := ref_l0 t (u ++ cur ++ [c]) [] (acc ++ (sayR cur).toList) k (by omega) (by omega) (by omega)
      rw [ref_j4 u cur (c :: t) acc k (by omega) (by omega) (by omega), spl, if_pos h, e2]
      rw [← e, ← e3] at hr
      rw [hr]
      cases hq : sayR cur <;> simp [hq]
    by_cases h10 : c = 10
    · rw [if_pos (show (c.toNat : Int) = 10 by rw [h10]; rfl)]
      exact yes (by rw [h10]; rfl)
    · rw [if_neg (show ¬ ((c.toNat : Int) = 10) from fun h => h10 ((u8_n c 10).mp h))]
      by_cases h13 : c = 13
      · rw [show (((c.toNat : Int)) == 13) = true by rw [h13]; rfl]
        exact yes (by rw [h13]; rfl)
      · rw [show (((c.toNat : Int)) == 13) = false from beq_eq_false_iff_ne.mpr (fun h => h13 ((u8_n c 13).mp h)), decorumref09_Parse.j4, if_neg (by decide), hw.out, spl, if_neg (by simp [nlB, h10, h13])]
        have e : u ++ cur ++ c :: t = u ++ (cur ++ [c]) ++ t := by simp
        have e2 : (((u ++ cur).length + 1 : Nat) : Int) = ((u ++ (cur ++ [c])).length : Int) := by simp; omega
        have e4 : (u ++ (cur ++ [c]) ++ t).length = (u ++ cur).length + (t.length + 1) := by rw [← e, hl2]
        have hr := ref_l0 t u (cur ++ [c]) acc k (by omega) (by omega) (by omega)
        rw [← e] at hr
        rw [e2]
        exact hr
def tpR (l : List UInt8) : List UInt8 := Lib.trimPrefix l [239, 187, 191]
theorem ref_j2 (l : List UInt8) (k : Nat) (hn : l.length < 100000) (hk : 5 * l.length + 11 ≤ k) : decorumref09_Parse.j2 k (mk l) = some ((spl [] l).filterMap sayR) := by
  obtain ⟨k, rfl⟩ : ∃ k', k = k' + 1 := ⟨k - 1, by omega⟩
  have := ref_l0 l [] [] [] k (by simpa using hn) (by simp; omega) (by simp; omega)
  rw [decorumref09_Parse.j2]
  simpa using this
theorem ref_j0 (l : List UInt8) (k : Nat) (hn : l.length < 100000) (hk : 5 * l.length + 13 ≤ k) : decorumref09_Parse.j0 k (mk l) = some ((spl [] (tpR l)).filterMap sayR) := by
  obtain ⟨k, rfl⟩ : ∃ k', k = k' + 2 := ⟨k - 2, by omega⟩
  have no : decorumref09_Parse.j1 (k + 1) (mk l) false = some ((spl [] l).filterMap sayR) := by
    rw [decorumref09_Parse.j1, if_neg (by decide), ref_j2 l k hn (by omega)]
  rw [decorumref09_Parse.j0, mk_size]
  have short : l.length < 3 → tpR l = l := by
    intro h
    have : Lib.hasPrefix l [239, 187, 191] = false := by
      unfold Lib.hasPrefix
      match l, h with
      | [], _ => rfl
      | [a], _ => simp [List.isPrefixOf]
      | [a, b], _ => simp [List.isPrefixOf]
    unfold tpR Lib.trimPrefix
    rw [this]
    rfl
  by_cases h3 : l.length < 3
  · rw [if_neg (by omega), no, short h3]
  · rw [if_pos (by omega), if_pos (by omega)]
    match l, h3 with
    | [], h3 => exact absurd (by decide) h3
    | [a], h3 => exact absurd (by simp) h3
    | [a, b], h3 => exact absurd (by simp) h3
    | a :: b :: c :: r, _ =>
      have b0 : bt (mk (a :: b :: c :: r)) 0 = (a.toNat : Int) := bt_mk [] a (b :: c :: r)
      have b1 : bt (mk (a :: b :: c :: r)) 1 = (b.toNat : Int) := bt_mk [a] b (c :: r)
      have b2 : bt (mk (a :: b :: c :: r)) 2 = (c.toNat : Int) := bt_mk [a, b] c r
      have ht : tpR (a :: b :: c :: r) = if a = 239 ∧ b = 187 ∧ c = 191 then r else a :: b :: c :: r := by
        unfold tpR Lib.trimPrefix Lib.hasPrefix
        by_cases hh : a = 239 ∧ b = 187 ∧ c = 191
        · obtain ⟨rfl, rfl, rfl⟩ := hh
          simp [List.isPrefixOf]
        · rw [if_neg hh]
          have : ([239, 187, 191] : List UInt8).isPrefixOf (a :: b :: c :: r) = false := by
            simp [List.isPrefixOf]
            intro h1 h2 h3
            exact hh ⟨h1.symm, h2.symm, h3.symm⟩
          rw [this]
          rfl
      rw [b0, ht]
      by_cases ha : a = 239
      · rw [if_pos (show (a.toNat : Int) = 239 by rw [ha]; rfl), if_pos (by simp; omega), b1]
        by_cases hb : b = 187
        · rw [if_pos (show (b.toNat : Int) = 187 by rw [hb]; rfl), if_pos (by simp; omega), b2]
          by_cases hc : c = 191
          · have he : (mk (a :: b :: c :: r)).extract 3 (mk (a :: b :: c :: r)).size = mk r := by rw [ext_l, mk_size]; simp
            rw [show (((c.toNat : Int)) == 191) = true by rw [hc]; rfl, decorumref09_Parse.j1, if_pos rfl, if_pos (by rw [mk_size]; simp; omega), he, if_pos ⟨ha, hb, hc⟩]
            simp only [List.length_cons] at hn hk
            exact ref_j2 r k (by omega) (by omega)
          · rw [show (((c.toNat : Int)) == 191) = false from beq_eq_false_iff_ne.mpr (fun h => hc ((u8_n c 191).mp h)), no, if_neg (fun h => hc h.2.2)]
        · rw [if_neg (show ¬ ((b.toNat : Int) = 187) from fun h => hb ((u8_n b 187).mp h)), no, if_neg (fun h => hb h.2.1)]
      · rw [if_neg (show ¬ ((a.toNat : Int) = 239) from fun h => ha ((u8_n a 239).mp h)), no, if_neg (fun h => ha h.1)]
theorem sayR_map (ps : List (List UInt8)) : ps.filterMap sayR = (ps.filterMap sayL).map conv := by
  rw [List.map_filterMap]
  rfl
theorem ref_parse (a : ByteArray) (k : Nat) (hk : 30000 ≤ k) : decorumref09_Parse.f k a = some ((parseV (cut4096 a).data.toList).map conv) := by
  have hgo : ∀ b : ByteArray, b.size ≤ 4096 → decorumref09_Parse.j0 k b = some ((parseV (tpR b.data.toList)).map conv) := by
    intro b hb
    have e : b = mk b.data.toList := by unfold mk; rfl
    rw [Lib.size_eq] at hb
    rw [e, ref_j0 _ _ (by omega) (by omega), sayR_map]
    rfl
  have hcut : (cut4096 a).data.toList = tpR (a.extract 0 (min a.size 4096)).data.toList := rfl
  unfold decorumref09_Parse.f
  rw [hcut]
  by_cases h : (a.size : Int) > 4096
  · rw [if_pos h, if_pos (by omega), if_pos (by omega), hgo _ (by simp only [ByteArray.size_extract]; omega), show min a.size 4096 = 4096 by omega]
  · have : a.extract 0 (min a.size 4096) = a := by
      rw [ext_mk, List.drop_zero, Nat.sub_zero, List.take_of_length_le (by rw [← Lib.size_eq]; omega)]
      rfl
    rw [if_neg h, hgo a (by omega), this]
end Go.Proofs.YtdnaddignhjihaaDoor.Pure
namespace Go.Proofs.YtdnaddignhjihaaDoor.Pure
open Go Go.RowKit Go.Proofs.YtdnaddignhjihaaDoor.QBase Go.Proofs.YtdnaddignhjihaaDoor.Given Go.Proofs.YtdnaddignhjihaaDoorW.PrintWords Go.Proofs.YtdnaddignhjihaaDoorW.PrintLast
set_option linter.unusedVariables false
set_option linter.unusedSimpArgs false
def c57 (x : S86) : S71 := ⟨x.f0, x.f1, x.f2⟩
theorem last_c (gs : List S86) : lastR (gs.map c57) = c57 (lastG gs) := by
  unfold lastR lastG
  rw [List.length_map, List.getD_eq_getElem?_getD, List.getD_eq_getElem?_getD, List.getElem?_map]
  cases gs[gs.length - 1]? <;> rfl
theorem set_c (gs : List S86) (x : S86) : setR (gs.map c57) (c57 x) = (setG gs x).map c57 := by
  unfold setR setG
  rw [List.length_map, List.map_set]
theorem set_same (gs : List S86) : setG gs (lastG gs) = gs := by
  unfold setG lastG
  by_cases h : gs = []
  · subst h; rfl
  · have hl : gs.length - 1 < gs.length := by have := List.length_pos_iff.mpr h; omega
    rw [List.getD_eq_getElem?_getD, List.getElem?_eq_getElem hl, Option.getD_some, List.set_getElem_self]
theorem agent_c (gs : List S86) (op : Bool) (nm : ByteArray) : agentR (gs.map c57) (!op) nm = (agentG gs op nm).map c57 := by
  unfold agentR agentG
  have e : (if (!op) = true then gs.map c57 ++ [z71] else gs.map c57) = (if op = true then gs else gs ++ [z86]).map c57 := by
    cases op with
    | true => rfl
    | false => simp; rfl
  rw [e, last_c, ← set_c]
  rfl
theorem step_c (gs : List S86) (op : Bool) (l : S35) : stepR (gs.map c57, !op) (conv l) = ((Given.stepG (gs, op) l).1.map c57, !(Given.stepG (gs, op) l).2) := by
  unfold stepR Given.stepG conv
  simp only
  by_cases hk : (l.f0.toList == sAgent) = true
  · rw [if_pos hk, if_pos hk, agent_c]
    rfl
  rw [if_neg hk, if_neg hk]
  unfold addG
  by_cases h0 : gs = []
  · rw [if_pos (by rw [h0]; rfl), if_pos h0]
  rw [if_neg (by simpa using h0), if_neg h0]
  by_cases hA : (l.f0.toList == sAllow) = true ∨ (l.f0.toList == sDis) = true
  · rw [if_pos hA, if_pos hA, last_c]
    by_cases hv : l.f1.toList.isEmpty = false ∧ (lastG gs).f1.length < 64
    · rw [if_pos hv, if_pos (show _ ∧ (c57 (lastG gs)).f1.length < 64 from hv), ← set_c]
      rfl
    · rw [if_neg hv, if_neg (show ¬ (_ ∧ (c57 (lastG gs)).f1.length < 64) from hv)]
      rfl
  rw [if_neg hA, if_neg hA]
  by_cases hC : (l.f0.toList == sDelay) = true
  · rw [if_pos hC, if_pos hC, last_c]
    obtain ⟨d1, d2, _⟩ := delay_one l.f1.data.toList
    have e1 : (Given.refD l.f1).2 = (delayV l.f1.data.toList).2 := d1
    cases hok : (delayV l.f1.data.toList).2 with
    | false =>
      rw [if_neg (fun h => by rw [e1, hok] at h; cases h.1), if_neg (by decide)]
      rfl
    | true =>
      have e2 : (Given.refD l.f1).1 = (delayV l.f1.data.toList).1 := d2 hok
      rw [e1, e2, hok, if_pos rfl]
      by_cases hgt : (lastG gs).f2 < ((delayV l.f1.data.toList).1 : Int)
      · rw [if_pos ⟨rfl, hgt⟩, show max (lastG gs).f2 ((delayV l.f1.data.toList).1 : Int) = ((delayV l.f1.data.toList).1 : Int) by omega, ← set_c]
        rfl
      · rw [if_neg (fun h => hgt h.2), show max (lastG gs).f2 ((delayV l.f1.data.toList).1 : Int) = (lastG gs).f2 by omega]
        have : setG gs { lastG gs with f2 := (lastG gs).f2 } = gs := set_same gs
        rw [this]
        rfl
  · rw [if_neg hC, if_neg hC]
theorem fold_c : ∀ (X : List S35) (gs : List S86) (op : Bool), ((X.map conv).foldl stepR (gs.map c57, !op)).1 = ((X.foldl Given.stepG (gs, op)).1).map c57
  | [], gs, op => rfl
  | l :: X, gs, op => by
    rw [List.map_cons, List.foldl_cons, List.foldl_cons, step_c]
    exact fold_c X (Given.stepG (gs, op) l).1 (Given.stepG (gs, op) l).2

/-- No group has more than 64 rules. -/
def Few (gs : List S86) : Prop := ∀ x ∈ gs, x.f1.length ≤ 64
theorem last_few {gs : List S86} (h : Few gs) : (lastG gs).f1.length ≤ 64 := by
  unfold lastG
  rw [List.getD_eq_getElem?_getD]
  by_cases hl : gs.length - 1 < gs.length
  · rw [List.getElem?_eq_getElem hl]
    exact h _ (List.getElem_mem hl)
  · rw [List.getElem?_eq_none (by omega)]
    exact Nat.zero_le _
theorem set_few {gs : List S86} (h : Few gs) (x : S86) (hx : x.f1.length ≤ 64) : Few (setG gs x) := by
  intro y hy
  rcases mem_setG hy with rfl | hy
  · exact hx
  · exact h y hy
theorem step_few (gs : List S86) (op : Bool) (l : S35) (h : Few gs) : Few (Given.stepG (gs, op) l).1 := by
  unfold Given.stepG
  simp only
  split
  · unfold agentG
    have h2 : Few (if op = true then gs else gs ++ [z86]) := by
      split
      · exact h
      · intro x hx
        rcases List.mem_append.mp hx with hx | hx
        · exact h x hx
        · obtain rfl := List.mem_singleton.mp hx; exact Nat.zero_le _
    exact set_few h2 _ (last_few h2)
  · unfold addG
    split
    · exact h
    split
    · simp only
      split
      · rename_i hh
        refine set_few h _ ?_
        have := hh.2
        simp
        omega
      · exact h
    split
    · simp only
      split
      · exact set_few h _ (last_few h)
      · exact h
    · exact h
theorem step_inv {i : Nat} {st : List S86 × Bool} (h : InvG i st) (l : S35) : InvG (i + 1) (Given.stepG st l) := by
  unfold Given.stepG
  split
  · exact InvG.agent h l.f1
  · exact InvG.add h l
theorem fold_inv : ∀ (X : List S35) (st : List S86 × Bool) (i : Nat), InvG i st → Few st.1 → InvG (i + X.length) (X.foldl Given.stepG st) ∧ Few (X.foldl Given.stepG st).1
  | [], st, i, h1, h2 => ⟨h1, h2⟩
  | l :: X, st, i, h1, h2 => by
    have := fold_inv X (Given.stepG st l) (i + 1) (step_inv h1 l) (step_few st.1 st.2 l h2)
    rw [List.foldl_cons, List.length_cons, show i + (X.length + 1) = i + 1 + X.length by omega]
    exact this
def groupsV (X : List S35) : List S86 := (X.foldl Given.stepG ([], false)).1
theorem groups_small (X : List S35) (hX : X.length < 1000000) : (groupsV X).length < 1000000 ∧ ∀ x ∈ groupsV X, x.f0.length < 1000000 ∧ x.f1.length < 1000000 := by
  obtain ⟨h1, h2⟩ := fold_inv X ([], false) 0 ⟨Nat.le_refl _, by simp, by simp⟩ (fun x hx => by cases hx)
  have hl := h1.len
  rw [Nat.zero_add] at hl
  refine ⟨by unfold groupsV; omega, fun x hx => ?_⟩
  have h3 := h1.ags x hx
  have h4 := h2 x hx
  rw [Nat.zero_add] at h3
  exact ⟨by omega, by omega⟩
theorem groups_f (X : List S35) (hX : X.length < 1000000) (hv : ∀ l ∈ X, l.f1.size < 4294967281) : lines_Groups.f X = some (groupsV X) := by
  rw [lines_Groups.f, if_pos ⟨hX, hv⟩]
  rfl
theorem refgroups_f (X : List S35) (hX : X.length < 1000000) (hv : ∀ l ∈ X, l.f1.size < 4294967281) : decorumref09_Groups.f (X.map conv) = some ((groupsV X).map c57) := by
  have hc : (X.map conv).length < 1000000 ∧ (∀ l ∈ X.map conv, l.f1.size < 140737488351232) := by
    refine ⟨by rw [List.length_map]; exact hX, fun l hl => ?_⟩
    obtain ⟨x, hx, rfl⟩ := List.mem_map.mp hl
    have := hv x hx
    show x.f1.size < _
    omega
  rw [decorumref09_Groups.f, if_pos hc]
  exact congrArg some (fold_c X [] false)

theorem parse_small (l : List UInt8) (hl : l.length ≤ 4096) : (parseV l).length < 1000000 ∧ ∀ x ∈ parseV l, x.f1.size < 4294967281 := by
  unfold parseV
  have h1 := List.length_filterMap_le sayL (spl [] l)
  have h2 := spl_len l []
  refine ⟨by omega, fun x hx => ?_⟩
  obtain ⟨p, hp, he⟩ := List.mem_filterMap.mp hx
  have h3 := spl_in l [] p hp
  simp only [List.length_nil, Nat.zero_add] at h3
  unfold sayL at he
  split at he
  · obtain rfl := Option.some.inj he
    show (mk (sayV p)).size < _
    rw [mk_size]
    unfold sayV
    have a := trimS_len (Lib.cut (Lib.cut p [35]).1 [58]).2.1 [32, 9]
    have b := cut_room (Lib.cut p [35]).1 [58]
    have c := cut_room p [35]
    omega
  · cases he
theorem cut_4096 (a : ByteArray) : (cut4096 a).data.toList.length ≤ 4096 := by
  show (Lib.trimPrefix (a.extract 0 (min a.size 4096)).data.toList [239, 187, 191]).length ≤ 4096
  have h1 : (a.extract 0 (min a.size 4096)).data.toList.length ≤ 4096 := by
    rw [Lib.extract_data, List.length_take]; omega
  unfold Lib.trimPrefix
  split
  · rw [List.length_drop]; omega
  · exact h1
end Go.Proofs.YtdnaddignhjihaaDoor.Pure
namespace Go.Proofs.YtdnaddignhjihaaDoor.Given
open Go.RowKit Go.Proofs.YtdnaddignhjihaaDoor.QBase Go.Proofs.YtdnaddignhjihaaDoorW.PrintWords Go.Proofs.YtdnaddignhjihaaDoorW.PrintLast Go.Proofs.YtdnaddignhjihaaDoorW.PrintMore
set_option linter.unusedVariables false
/-- The names that a group has are short. -/
def Short (gs : List S86) : Prop := ∀ x ∈ gs, ∀ s ∈ x.f0, s.size ≤ 4294967281
theorem short_last {gs : List S86} (h : Short gs) : ∀ s ∈ (lastG gs).f0, s.size ≤ 4294967281 := by
  unfold lastG
  rw [List.getD_eq_getElem?_getD]
  by_cases hl : gs.length - 1 < gs.length
  · rw [List.getElem?_eq_getElem hl]
    exact h _ (List.getElem_mem hl)
  · rw [List.getElem?_eq_none (by omega)]
    intro s hs; cases hs
theorem short_set {gs : List S86} (h : Short gs) (x : S86) (hx : ∀ s ∈ x.f0, s.size ≤ 4294967281) : Short (setG gs x) := by
  intro y hy
  rcases mem_setG hy with rfl | hy
  · exact hx
  · exact h y hy
theorem short_step {gs : List S86} {op : Bool} (h : Short gs) (l : S35) (hl : l.f1.size < 4294967281) : Short (stepG (gs, op) l).1 := by
  unfold stepG
  split
  · show Short (agentG gs op l.f1)
    have h2 : Short (if op then gs else gs ++ [z86]) := by
      split
      · exact h
      · intro x hx
        rcases List.mem_append.mp hx with hx | hx
        · exact h x hx
        · obtain rfl := List.mem_singleton.mp hx
          intro s hs; cases hs
    refine short_set h2 _ ?_
    intro s hs
    rcases List.mem_append.mp hs with hs | hs
    · exact short_last h2 s hs
    · obtain rfl := List.mem_singleton.mp hs
      show (lowL l.f1.data.toList).toArray.size ≤ _
      have : (lowL l.f1.data.toList).length = l.f1.data.toList.length := by simp [lowL]
      have h3 : l.f1.data.toList.length = l.f1.size := by simp
      simp; omega
  · show Short (addG gs op l).1
    unfold addG
    split
    · exact h
    split
    · simp only
      split
      · exact short_set h _ (short_last h)
      · exact h
    split
    · simp only
      split
      · exact short_set h _ (short_last h)
      · exact h
    · exact h
theorem short_fold : ∀ (X : List S35) (st : List S86 × Bool), Short st.1 → (∀ l ∈ X, l.f1.size < 4294967281) → Short (X.foldl stepG st).1
  | [], st, h, _ => h
  | l :: X, st, h, hv => by
    rw [List.foldl_cons]
    exact short_fold X _ (short_step (gs := st.1) (op := st.2) h l (hv l (List.mem_cons_self ..))) (fun y hy => hv y (List.mem_cons_of_mem _ hy))
/-- The groups of a text. -/
def groupsOf (b : ByteArray) : List S86 := Pure.groupsV (Pure.parseV (cut4096 b).data.toList)
theorem groupsOf_ok (b : ByteArray) : ofOk (groupsOf b) := by
  obtain ⟨s1, s2⟩ := Pure.parse_small _ (Pure.cut_4096 b)
  have h1 := Pure.groups_small _ s1
  have h2 := short_fold (Pure.parseV (cut4096 b).data.toList) ([], false) (fun x hx => by cases hx) s2
  refine ⟨h1.1, fun g hg => ⟨?_, (h1.2 g hg).1, fun s hs => ?_⟩⟩
  · have := (h1.2 g hg).2; omega
  · have := h2 g hg s hs; omega
/-- What an answer says. -/
def readV (st : Int) (b ag : ByteArray) : Bool × Bool × List S30 × Int :=
  if 200 ≤ st ∧ st < 300 then (false, false, pickV (groupsOf b) ag)
  else if 400 ≤ st ∧ st < 500 ∧ st ≠ 429 then (true, false, [], 0) else (false, true, [], 0)

set_option maxHeartbeats 8000000 in
set_option maxRecDepth 1000000 in
theorem read_calls (st : Int) (b ag : ByteArray) (w : World) (hb : b.size ≤ 140737488351232) (ha : ag.size ≤ 140737488351232) (hS : Shp w) :
    Calls Tryd.prog 9 #[.int .i64 st, .string b, .string ag] w fun e w' => ∃ (A : Option Addr) (c : Nat) (rs : List S30),
      e = .returned (.agg #[.bool (readV st b ag).1, .bool (readV st b ag).2.1, .slice A rs.length c, .int .i64 (readV st b ag).2.2.2]) ∧ rs = (readV st b ag).2.2.1 ∧ Rls w.heap.size w' A c rs ∧ Below w.heap.size w w' := by
  have b1 := blk_new w (Obj.cells #[.bool false, .bool false, .slice none 0 0, .int .i64 0] 26)
  have HI : Aside0 (PkI w (w.alloc (Obj.cells #[.bool false, .bool false, .slice none 0 0, .int .i64 0] 26))) := ⟨⟨b1, below_alloc (Below.refl _ _) _⟩⟩
  have HS := Aside0.mk hS
  clear b1 hS
  by_cases h1 : 200 ≤ st ∧ st < 300
  · have hv : Aside0 (readV st b ag = (false, false, pickV (groupsOf b) ag)) := ⟨by rw [readV, if_pos h1]⟩
    have g1 : (200 ≤ st) = True := eq_true h1.1
    have g2 : (st < 300) = True := eq_true h1.2
    obtain ⟨s1, s2⟩ := Pure.parse_small _ (Pure.cut_4096 b)
    have hp := Aside0.mk (Pure.parse_f b hb)
    have hg := Aside0.mk (Pure.groups_f _ s1 s2)
    have hgo : Aside0 (Pure.groupsV (Pure.parseV (cut4096 b).data.toList) = groupsOf b) := ⟨rfl⟩
    have hok := Aside0.mk (groupsOf_ok b)
    clear h1 s1 s2
    go_enter Tryd.func9, Tryd.ntmps9
    go_wp2_with (first
      | (go_at_call 13; refine (lines_Parse.calls b _ _ hp.out (Shp.below HS.out HI.out.below)).mono ?_; rintro e w1 ⟨v1, rfl, hR1, b1⟩; have HI1 := Aside0.mk (HI.out.step b1); obtain ⟨A1, c1, hv1⟩ := Kd.R_slice hR1; subst hv1; have hC1 := Aside0.mk (Kd.R_reads' hR1).2; clear HI b1 hR1)
      | (go_at_call 17; refine (lines_Groups.calls A1 c1 _ _ _ hC1.out.2 hC1.out.1 hg.out (Shp.below HS.out HI1.out.below)).mono ?_; rintro e w2 ⟨v2, rfl, hR2, b2⟩; have HI2 := Aside0.mk (HI1.out.step b2); obtain ⟨A2, c2, hv2⟩ := Kd.S_slice hR2; subst hv2; have hC2 := Aside0.mk (Kd.S_reads' hR2).2; clear HI1 b2 hR2 hC1)
      | (go_at_call 16; refine (pick_calls A2 c2 (Pure.groupsV (Pure.parseV (cut4096 b).data.toList)) ag _ hC2.out.2 hok.out ha).mono ?_; rintro e w4 ⟨A, c, rs, rfl, hrs0, hR0, b3⟩; have HI4 := Aside0.mk (HI2.out.step b3); have hrs := Aside0.mk hrs0; have hR4 := Aside0.mk (hR0.lower HI2.out.below.size); have n0 := blk_cell HI4.out.res 0; have n1 := blk_cell HI4.out.res 1; have n2 := blk_cell HI4.out.res 2; have n3 := blk_cell HI4.out.res 3; have f0 := blk_frozen HI4.out.res 0; have f1 := blk_frozen HI4.out.res 1; have f2 := blk_frozen HI4.out.res 2; have f3 := blk_frozen HI4.out.res 3; simp only [List.getElem?_toArray, List.getElem?_cons_zero, List.getElem?_cons_succ] at n0 n1 n2 n3; clear HI2 b3 hR0 hrs0 hC2))
    have b0 := blk_put HI4.out.res 0 (.bool false) (cs' := #[.bool false, .bool false, .slice none 0 0, .int .i64 0]) rfl
    have b1 := blk_put b0 1 (.bool false) (cs' := #[.bool false, .bool false, .slice none 0 0, .int .i64 0]) rfl
    have b2 := blk_put b1 2 (.slice A rs.length c) (cs' := #[.bool false, .bool false, .slice A rs.length c, .int .i64 0]) rfl
    have b3 := blk_put b2 3 (.int .i64 (pickV (Pure.groupsV (Pure.parseV (cut4096 b).data.toList)) ag).2) (cs' := #[.bool false, .bool false, .slice A rs.length c, .int .i64 (pickV (Pure.groupsV (Pure.parseV (cut4096 b).data.toList)) ag).2]) rfl
    have hR5 := (((hR4.out.set HI4.out.res 0 (.bool false)).set b0 1 (.bool false)).set b1 2 (.slice A rs.length c)).set b2 3 (.int .i64 (pickV (Pure.groupsV (Pure.parseV (cut4096 b).data.toList)) ag).2)
    have hB := below_set (below_set (below_set (below_set HI4.out.below (Nat.le_refl _) (j := 0) (v := .bool false)) (Nat.le_refl _) (j := 1) (v := .bool false)) (Nat.le_refl _) (j := 2) (v := .slice A rs.length c)) (Nat.le_refl _) (j := 3) (v := .int .i64 (pickV (Pure.groupsV (Pure.parseV (cut4096 b).data.toList)) ag).2)
    refine bodyPost_ret (results_cell_row rfl _ _ w.heap.size 26 #[.bool false, .bool false, .slice A rs.length c, .int .i64 (pickV (Pure.groupsV (Pure.parseV (cut4096 b).data.toList)) ag).2] (0, 0) _ rfl b3 Tryd.underlying26 rfl (by kernel_rfl)) rfl ?_
    rw [hv.out]
    exact ⟨A, c, rs, rfl, hrs.out, hR5, hB⟩
  · clear HI HS
    by_cases h2 : 400 ≤ st ∧ st < 500 ∧ st ≠ 429
    · have hv : Aside0 (readV st b ag = (true, false, [], 0)) := ⟨by rw [readV, if_neg h1, if_pos h2]⟩
      have g1 : (200 ≤ st) = True := eq_true (by omega)
      have g2 : (st < 300) = False := eq_false (by omega)
      have g3 : (400 ≤ st) = True := eq_true (by omega)
      have g4 : (st < 500) = True := eq_true (by omega)
      have g5 : (st != 429) = true := by simp; omega
      clear h1 h2
      go_enter Tryd.func9, Tryd.ntmps9
      go_wp2
      refine bodyPost_ret (results_cell_row rfl _ _ w.heap.size 26 #[.bool true, .bool false, .slice none 0 0, .int .i64 0] (0, 0) _ rfl (blk_new _ _) Tryd.underlying26 rfl (by kernel_rfl)) rfl ?_
      rw [hv.out]
      exact ⟨none, 0, [], rfl, rfl, ⟨Nat.le_refl _, 0, Kd.R_nil _ _ _ _ _⟩, below_alloc (Below.refl _ _) _⟩
    · have hv : Aside0 (readV st b ag = (false, true, [], 0)) := ⟨by rw [readV, if_neg h1, if_neg h2]⟩
      have hcs : st < 200 ∨ (300 ≤ st ∧ st < 400) ∨ st = 429 ∨ 500 ≤ st := by omega
      clear h1 h2
      rcases hcs with h | h | h | h
      · have g0 : (200 ≤ st) = False := eq_false (by omega)
        have g1 : (400 ≤ st) = False := eq_false (by omega)
        clear h
        go_enter Tryd.func9, Tryd.ntmps9
        go_wp2
        refine bodyPost_ret (results_cell_row rfl _ _ w.heap.size 26 #[.bool false, .bool true, .slice none 0 0, .int .i64 0] (0, 0) _ rfl (blk_new _ _) Tryd.underlying26 rfl (by kernel_rfl)) rfl ?_
        rw [hv.out]
        exact ⟨none, 0, [], rfl, rfl, ⟨Nat.le_refl _, 0, Kd.R_nil _ _ _ _ _⟩, below_alloc (Below.refl _ _) _⟩
      · have g0 : (200 ≤ st) = True := eq_true (by omega)
        have g1 : (st < 300) = False := eq_false (by omega)
        have g2 : (400 ≤ st) = False := eq_false (by omega)
        clear h
        go_enter Tryd.func9, Tryd.ntmps9
        go_wp2
        refine bodyPost_ret (results_cell_row rfl _ _ w.heap.size 26 #[.bool false, .bool true, .slice none 0 0, .int .i64 0] (0, 0) _ rfl (blk_new _ _) Tryd.underlying26 rfl (by kernel_rfl)) rfl ?_
        rw [hv.out]
        exact ⟨none, 0, [], rfl, rfl, ⟨Nat.le_refl _, 0, Kd.R_nil _ _ _ _ _⟩, below_alloc (Below.refl _ _) _⟩
      · have g0 : (200 ≤ st) = True := eq_true (by omega)
        have g1 : (st < 300) = False := eq_false (by omega)
        have g2 : (400 ≤ st) = True := eq_true (by omega)
        have g3 : (st < 500) = True := eq_true (by omega)
        have g4 : (st != 429) = false := by simp; omega
        clear h
        go_enter Tryd.func9, Tryd.ntmps9
        go_wp2
        refine bodyPost_ret (results_cell_row rfl _ _ w.heap.size 26 #[.bool false, .bool true, .slice none 0 0, .int .i64 0] (0, 0) _ rfl (blk_new _ _) Tryd.underlying26 rfl (by kernel_rfl)) rfl ?_
        rw [hv.out]
        exact ⟨none, 0, [], rfl, rfl, ⟨Nat.le_refl _, 0, Kd.R_nil _ _ _ _ _⟩, below_alloc (Below.refl _ _) _⟩
      · have g0 : (200 ≤ st) = True := eq_true (by omega)
        have g1 : (st < 300) = False := eq_false (by omega)
        have g2 : (400 ≤ st) = True := eq_true (by omega)
        have g3 : (st < 500) = False := eq_false (by omega)
        clear h
        go_enter Tryd.func9, Tryd.ntmps9
        go_wp2
        refine bodyPost_ret (results_cell_row rfl _ _ w.heap.size 26 #[.bool false, .bool true, .slice none 0 0, .int .i64 0] (0, 0) _ rfl (blk_new _ _) Tryd.underlying26 rfl (by kernel_rfl)) rfl ?_
        rw [hv.out]
        exact ⟨none, 0, [], rfl, rfl, ⟨Nat.le_refl _, 0, Kd.R_nil _ _ _ _ _⟩, below_alloc (Below.refl _ _) _⟩
end Go.Proofs.YtdnaddignhjihaaDoor.Given
namespace Go.Proofs.YtdnaddignhjihaaDoor.GivenM
/-- The value of a sign as a digit of base 16. -/
def hexv (c : Nat) : Option Nat :=
  if 48 ≤ c ∧ c ≤ 57 then some (c - 48) else if 97 ≤ c ∧ c ≤ 102 then some (c - 87) else if 65 ≤ c ∧ c ≤ 70 then some (c - 55) else none
def dig (n : Nat) : UInt8 := if n < 10 then UInt8.ofNat (48 + n) else UInt8.ofNat (55 + n)
/-- A byte with a percent ahead. -/
def codeB (c : UInt8) : List UInt8 := [37, dig (c.toNat / 16), dig (c.toNat % 16)]
/-- A letter, a digit, or one of -._~ -/
def freeN (c : Nat) : Bool :=
  (decide (97 ≤ c) && decide (c ≤ 122)) || (decide (65 ≤ c) && decide (c ≤ 90)) || (decide (48 ≤ c) && decide (c ≤ 57)) || c == 45 || c == 46 || c == 95 || c == 126
def otherN (c : Nat) : Bool := ([33, 36, 38, 39, 40, 41, 42, 43, 44, 59, 61, 58, 64, 47, 63, 91, 93] : List Nat).contains c
def outB (c : UInt8) : List UInt8 := if freeN c.toNat then [c] else codeB c
def out1 (c : UInt8) : List UInt8 := if freeN c.toNat || otherN c.toNat then [c] else codeB c
/-- Norm, on bytes; none: a percent is wrong. -/
def normB : List UInt8 → Option (List UInt8)
  | [] => some []
  | c :: t => if c = 37 then
      match t with
      | h :: l :: u => match hexv h.toNat, hexv l.toNat with
        | some x, some y => (normB u).map (outB (UInt8.ofNat (16 * x + y)) ++ ·)
        | _, _ => none
      | _ => none
    else (normB t).map (out1 c ++ ·)
/-- What stands at a percent: the list begins with the percent. -/
def tripB : List UInt8 → Option UInt8
  | _ :: h :: l :: _ => match hexv h.toNat, hexv l.toNat with
    | some x, some y => some (UInt8.ofNat (16 * x + y))
    | _, _ => none
  | _ => none

theorem normB_nil : normB [] = some [] := by rw [normB]
theorem normB_one (c : UInt8) (t : List UInt8) (h : c ≠ 37) : normB (c :: t) = (normB t).map (out1 c ++ ·) := by
  rw [normB.eq_def]; simp only [if_neg h]
theorem normB_pct (c : UInt8) (t : List UInt8) (h : c = 37) : normB (c :: t) = (tripB (c :: t)).bind fun b => (normB (t.drop 2)).map (outB b ++ ·) := by
  subst h
  rw [normB.eq_def]
  match t with
  | [] => simp [tripB]
  | [_] => simp [tripB]
  | h :: l :: u =>
    simp only [tripB, if_true]
    cases hexv h.toNat <;> cases hexv l.toNat <;> simp

theorem hexv_lt {c x : Nat} (h : hexv c = some x) : x < 16 := by
  unfold hexv at h
  split at h <;> (try split at h) <;> (try split at h) <;> simp at h <;> omega
theorem hexv_ascii {c x : Nat} (h : hexv c = some x) : c < 128 := by
  unfold hexv at h
  split at h <;> (try split at h) <;> (try split at h) <;> simp at h <;> omega
theorem tripB_ascii {a h l : UInt8} {u : List UInt8} {b : UInt8} (e : tripB (a :: h :: l :: u) = some b) : h.toNat < 128 ∧ l.toNat < 128 := by
  simp only [tripB] at e
  split at e
  · rename_i x y hx hy
    exact ⟨hexv_ascii hx, hexv_ascii hy⟩
  · cases e
theorem tripB_len {t : List UInt8} {b : UInt8} (e : tripB t = some b) : 3 ≤ t.length := by
  match t with
  | [] => simp [tripB] at e
  | [_] => simp [tripB] at e
  | [_, _] => simp [tripB] at e
  | _ :: _ :: _ :: _ => simp

theorem codeB_length (c : UInt8) : (codeB c).length = 3 := rfl
theorem outB_length (c : UInt8) : (outB c).length ≤ 3 := by unfold outB; split <;> simp [codeB]
theorem out1_length (c : UInt8) : (out1 c).length ≤ 3 := by unfold out1; split <;> simp [codeB]
theorem freeN_lt {c : Nat} (h : freeN c = true) : c < 128 := by
  simp [freeN] at h; omega
theorem otherN_lt {c : Nat} (h : otherN c = true) : c < 128 := by
  simp [otherN] at h; omega
theorem out1_high (c : UInt8) (h : 128 ≤ c.toNat) : out1 c = codeB c := by
  unfold out1
  rw [if_neg]
  intro hh
  rcases (Bool.or_eq_true _ _).mp hh with h1 | h1
  · have := freeN_lt h1; omega
  · have := otherN_lt h1; omega

end Go.Proofs.YtdnaddignhjihaaDoor.GivenM
namespace Go.Proofs.YtdnaddignhjihaaDoor.GivenM
open Go.RowKit Go.Proofs.YtdnaddignhjihaaDoorW.PrintWords
def strings_ContainsRune.f (a0 : ByteArray) (a1 : Int) : Option Bool :=
  if 0 ≤ a1 ∧ a1 < 128 then some (decide (0 ≤ Lib.indexByte a0.data.toList a1.toNat.toUInt8)) else none
theorem strings_ContainsRune.calls (a0 : ByteArray) (a1 : Int) (r : Bool) (w : World) (h : strings_ContainsRune.f a0 a1 = some r) :
    Calls Tryd.prog 72 #[.string a0, .int .i32 a1] w fun e w' => e = .returned (.bool r) ∧ Drawn0 w w' := by
  unfold strings_ContainsRune.f at h
  split at h
  · rename_i hc
    obtain rfl := Option.some.inj h
    exact (Tryd.strings_ContainsRune_ascii a0 a1 w hc.1 hc.2).mono fun e w' ⟨h1, h2⟩ => ⟨h1, h2 ▸ Drawn0.refl w⟩
  · cases h
end Go.Proofs.YtdnaddignhjihaaDoor.GivenM
namespace Go.Proofs.YtdnaddignhjihaaDoor.QMB
open Go.Proofs.YtdnaddignhjihaaDoor.GivenM
open Go.RowKit Go.Proofs.YtdnaddignhjihaaDoorW.PrintWords Go.Proofs.YtdnaddignhjihaaDoorW.PrintLast Go.Proofs.YtdnaddignhjihaaDoorW.PrintMore
attribute [local go_sem] max2_int min2_int max_two min_two max_three min_three max_four min_four   -- for this text's walks alone
set_option linter.unusedVariables false
set_option linter.unusedSimpArgs false
def errW : Option Int → Value
  | none => .nilIface
  | some c => .iface 0 (.int .i64 c)
theorem errW_none : errW none = .nilIface := rfl
theorem errW_some (c : Int) : errW (some c) = .iface 0 (.int .i64 c) := rfl

end Go.Proofs.YtdnaddignhjihaaDoor.QMB
