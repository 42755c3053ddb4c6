/- robotsMay_holds: a part of its proof (the texts QMMx3, QMMx4, MS, MM without what this claim does not lean on). -/
import Derived.BigCall
import Derived.Lib.IndexMore
import Derived.Test.YtdnaddignhjihaaDoorZM3
namespace Go.Proofs.YtdnaddignhjihaaDoor.QMM
open Go.Proofs.YtdnaddignhjihaaDoor.GivenM Go.Proofs.YtdnaddignhjihaaDoor.QMB Go.Proofs.YtdnaddignhjihaaDoor.QBase
open Go.RowKit Go.Proofs.YtdnaddignhjihaaDoorW.PrintWords Go.Proofs.YtdnaddignhjihaaDoorW.PrintLast Go.Proofs.YtdnaddignhjihaaDoorW.PrintMore
attribute [local go_sem] max2_int min2_int max_two min_two max_three min_three max_four min_four   -- for this text's walks alone
set_option linter.unusedVariables false
set_option linter.unusedSimpArgs false
mutual
def decorumref09_glob.l0 : Nat → ByteArray → ByteArray → Bool → List Bool → Int → Option (Bool)
  | 0, _, _, _, _, _ => none
  | k + 1, x0, x1, x2, x7, x8 => if x8 < (x0.size : Int) then (if 0 ≤ (wrap64 ((x1.size : Int) + 1)) then (if (wrap64 ((x1.size : Int) + 1) : Int).toNat ≤ 281474976710656 then (decorumref09_glob.l1 k x0 x1 x2 x7 x8 (List.replicate (wrap64 ((x1.size : Int) + 1) : Int).toNat false) 0) else (none)) else (none)) else (if x2 = true then (if 0 ≤ (x1.size : Int) then (if (x1.size : Int) < (x7.length : Int) then (some (rdOf false x7 (x1.size : Int))) else (none)) else (none)) else (decorumref09_glob.l2 k x1 x7 0))
def decorumref09_glob.l1 : Nat → ByteArray → ByteArray → Bool → List Bool → Int → List Bool → Int → Option (Bool)
  | 0, _, _, _, _, _, _, _ => none
  | k + 1, x0, x1, x2, x7, x8, x9, x10 => if x10 ≤ (x1.size : Int) then (if 0 ≤ x8 then (if x8 < (x0.size : Int) then (if (bt x0 x8) = 42 then (if 0 ≤ x10 then (if x10 < (x7.length : Int) then (if rdOf false x7 x10 = true then (if x10 < (x9.length : Int) then (decorumref09_glob.l1 k x0 x1 x2 x7 x8 (x9.set (x10 : Int).toNat true) (wrap64 (x10 + 1))) else (none)) else (if x10 > 0 then (if 0 ≤ (wrap64 (x10 - 1)) then (if (wrap64 (x10 - 1)) < (x9.length : Int) then (if x10 < (x9.length : Int) then (decorumref09_glob.l1 k x0 x1 x2 x7 x8 (x9.set (x10 : Int).toNat (rdOf false x9 (wrap64 (x10 - 1)))) (wrap64 (x10 + 1))) else (none)) else (none)) else (none)) else (if x10 < (x9.length : Int) then (decorumref09_glob.l1 k x0 x1 x2 x7 x8 (x9.set (x10 : Int).toNat false) (wrap64 (x10 + 1))) else (none)))) else (none)) else (none)) else (if x10 > 0 then (if 0 ≤ (wrap64 (x10 - 1)) then (if (wrap64 (x10 - 1)) < (x7.length : Int) then (if rdOf false x7 (wrap64 (x10 - 1)) = true then (if (wrap64 (x10 - 1)) < (x1.size : Int) then (if (bt x1 (wrap64 (x10 - 1))) = (bt x0 x8) then (if 0 ≤ x10 then (if x10 < (x9.length : Int) then (decorumref09_glob.l1 k x0 x1 x2 x7 x8 (x9.set (x10 : Int).toNat true) (wrap64 (x10 + 1))) else (none)) else (none)) else (decorumref09_glob.l1 k x0 x1 x2 x7 x8 x9 (wrap64 (x10 + 1)))) else (none)) else (decorumref09_glob.l1 k x0 x1 x2 x7 x8 x9 (wrap64 (x10 + 1)))) else (none)) else (none)) else (decorumref09_glob.l1 k x0 x1 x2 x7 x8 x9 (wrap64 (x10 + 1))))) else (none)) else (none)) else (decorumref09_glob.l0 k x0 x1 x2 x9 (wrap64 (x8 + 1)))
def decorumref09_glob.l2 : Nat → ByteArray → List Bool → Int → Option (Bool)
  | 0, _, _, _ => none
  | k + 1, x1, x7, x11 => if x11 ≤ (x1.size : Int) then (if 0 ≤ x11 then (if x11 < (x7.length : Int) then (if rdOf false x7 x11 = true then (some true) else (decorumref09_glob.l2 k x1 x7 (wrap64 (x11 + 1)))) else (none)) else (none)) else (some false)
end
def decorumref09_glob.f (k : Nat) (a0 : ByteArray) (a1 : ByteArray) (a2 : Bool) : Option (Bool) := if 0 ≤ (wrap64 ((a1.size : Int) + 1)) then (if (wrap64 ((a1.size : Int) + 1) : Int).toNat ≤ 281474976710656 then ((some (List.replicate (wrap64 ((a1.size : Int) + 1) : Int).toNat false : List Bool)).bind fun y136 => (if 0 < (y136.length : Int) then (decorumref09_glob.l0 k a0 a1 a2 (y136.set (0 : Int).toNat true) 0) else (none))) else (none)) else (none)
set_option maxHeartbeats 8000000 in
set_option maxRecDepth 100000 in
theorem decorumref09_glob.calls (k : Nat) (a0 : ByteArray) (a1 : ByteArray) (a2 : Bool) (r : Bool) (w : World) (h : decorumref09_glob.f k a0 a1 a2 = some r) :
    Calls Tryd.prog 53 #[.string a0, .string a1, .bool a2] w fun e w' => e = .returned (.bool r) ∧ Below w.heap.size w w' := by
  have HB := Aside0.mk (Below.refl w.heap.size w)
  have H : (if 0 ≤ (wrap64 ((a1.size : Int) + 1)) then (if (wrap64 ((a1.size : Int) + 1) : Int).toNat ≤ 281474976710656 then ((some (List.replicate (wrap64 ((a1.size : Int) + 1) : Int).toNat false : List Bool)).bind fun y136 => (if 0 < (y136.length : Int) then (decorumref09_glob.l0 k a0 a1 a2 (y136.set (0 : Int).toNat true) 0) else (none))) else (none)) else (none)) = some r := h
  clear h
  obtain ⟨ji4, hji4⟩ : ∃ j_ : Int, (wrap64 ((a1.size : Int) + 1)) = j_ := ⟨_, rfl⟩
  replace H : (if 0 ≤ (ji4) then (if (ji4 : Int).toNat ≤ 281474976710656 then ((some (List.replicate (ji4 : Int).toNat false : List Bool)).bind fun y136 => (if 0 < (y136.length : Int) then (decorumref09_glob.l0 k a0 a1 a2 (y136.set (0 : Int).toNat true) 0) else (none))) else (none)) else (none)) = some r := by first | (rw [hji4] at H; exact H) | (simp only [hji4] at H ⊢; exact H)
  have hji4w : (IntKind.i64.wrap ((a1.size : Int) + 1)) = ji4 := (i64_w _).trans hji4
  by_cases c5 : 0 ≤ (ji4)
  · rw [if_pos c5] at H
    have c5b0 := eq_true c5
    have c5b1 : decide (0 ≤ (ji4)) = true := decide_eq_true c5
    clear c5
    by_cases c6 : (ji4 : Int).toNat ≤ 281474976710656
    · rw [if_pos c6] at H
      have c6b0 := eq_true c6
      have c6b1 : decide ((ji4 : Int).toNat ≤ 281474976710656) = true := decide_eq_true c6
      clear c6
      obtain ⟨y136, hy136⟩ : ∃ y_ : List Bool, y_ = (List.replicate (ji4 : Int).toNat false) := ⟨_, rfl⟩
      replace H : (if 0 < (y136.length : Int) then (decorumref09_glob.l0 k a0 a1 a2 (y136.set (0 : Int).toNat true) 0) else (none)) = some r := by first | (rw [hy136]; with_reducible exact H) | (have H2_ := (Option.bind_some _ _).symm.trans H; rw [hy136]; with_reducible exact H2_) | (have H2_ := (Option.bind_some _ _).symm.trans H; with_reducible exact H2_) | with_reducible exact H | (rw [hy136]; exact H) | exact H
      have Ny136 := Aside0.mk hy136
      clear hy136
      by_cases c7 : 0 < (y136.length : Int)
      · rw [if_pos c7] at H
        have c7b0 : decide (0 < (y136.length : Int)) = true := decide_eq_true c7
        have c7b1 : decide (0 < y136.length) = true := decide_eq_true (by omega)
        clear c7
        obtain ⟨y139, hy139⟩ : ∃ y_ : List Bool, y_ = (y136.set (0 : Int).toNat true) := ⟨_, rfl⟩
        replace H : (decorumref09_glob.l0 k a0 a1 a2 y139 0) = some r := by first | (rw [hy139]; with_reducible exact H) | (have H2_ := (Option.bind_some _ _).symm.trans H; rw [hy139]; with_reducible exact H2_) | (have H2_ := (Option.bind_some _ _).symm.trans H; with_reducible exact H2_) | with_reducible exact H | (rw [hy139]; exact H) | exact H
        have Ny139 := Aside0.mk hy139
        clear hy139
        have H' := Aside0.mk H
        clear H
        go_enter Tryd.func53, Tryd.ntmps53
        go_wp2_with (first | ((with_reducible refine gate_dst (N := 15) rfl ?_); refine Kd.R_make Kd.bool _ 4 rfl (N := 15) rfl 114 _ _ rfl ji4 rfl rfl Tryd.underlying114 (.bool false) 1 info4 rfl (by decide) (by omega) false (ok := fun _ => True) (okp := fun _ => True) rfl (fun _ hk => hk) trivial (of_decide_eq_true (by first | (with_reducible assumption) | assumption)) (Nat.le_trans (Nat.mul_le_mul_right _ (of_decide_eq_true (by first | (with_reducible assumption) | assumption) : ji4.toNat ≤ 281474976710656)) (by omega)) (Below.refl _ _) (Nat.le_refl _) ?_; intro v137 w9 ho10 hb hg_ hnew_; clear hg_ hnew_; (first | rw [← Ny136.out] at ho10 | (simp only [Int.reduceToNat] at ho10; rw [← Ny136.out] at ho10)); have n0_ := Aside0.mk (Kd.R_lower ho10 (below_size (by repeat (first | (with_reducible first | exact HB.out | apply below_alloc | apply pw_below_drewN | apply below_drew1) | exact HB.out)))); have n1_ := Aside0.mk (below_step (by repeat (first | (with_reducible first | exact HB.out | apply below_alloc | apply pw_below_drewN | apply below_drew1) | exact HB.out)) hb); clear HB; have HO138 := n0_; have HB := n1_; clear n0_ n1_; clear hb ho10; have p8 : 0 ≤ (0 : Int) := (by omega); have q8 : (0 : Int) < ((y136.length : Int) : Int) := of_decide_eq_true (by first | (with_reducible assumption) | assumption); have qi8 : (0 < y136.length) = True := eq_true (by omega); obtain ⟨go8, co8, eo8, gb8, gl8, cl8, HG8⟩ := Kd.R_form HO138.out (by omega); (first | cases eo8 | (injection eo8 with ea_ en_ ec_; (first | subst ea_ | (injection ea_ with ea_; subst ea_)); subst ec_; clear en_)); have GB8 := Aside0.mk gb8; have GG8 := Aside0.mk HG8; clear gb8 gl8 HG8; obtain ⟨hx8_0, hf8_0⟩ := Kd.R_celln false HO138.out (0 : Int) p8 q8; (try rw [show ((0 : Int)).toNat = 0 from rfl] at hx8_0); (try simp only [Nat.reduceMul, Nat.zero_mul, Nat.zero_add, Nat.reduceAdd] at hx8_0); (try rw [show ((0 : Int)).toNat = 0 from rfl] at hf8_0); (try simp only [Nat.reduceMul, Nat.zero_mul, Nat.zero_add, Nat.reduceAdd] at hf8_0); replace p8 := eq_true p8; replace q8 := eq_true q8; obtain ⟨hy11_, hz11_⟩ := Kd.R_celln false HO138.out (0 : Int) (by omega) (of_decide_eq_true (by first | (with_reducible assumption) | assumption)); (try simp only [Int.reduceToNat, Int.toNat_zero, Int.toNat_ofNat, Nat.reduceMul, Nat.zero_mul, Nat.zero_add] at hy11_ hz11_); (try rw [show ((0 : Int)).toNat = 0 from rfl] at hy11_); (try rw [show ((0 : Int)).toNat = 0 from rfl] at hz11_); have HP11 := Kd.R_putg HO138.out (0 : Int) true) | ((with_reducible refine gate_store (t := 4) (p := 17) rfl ?_); (try (rw [drewN_self w9]; generalize hq_ : World.drewN w9 _ = w9; have n0_ := Aside0.mk (Kd.R_at hq_ HO138.out); have n1_ := Aside0.mk (below_at hq_ HB.out); clear hq_ HO138 HB; have HO138 := n0_; have HB := n1_; clear n0_ n1_; (try (obtain ⟨hy11_, hz11_⟩ := Kd.R_celln false HO138.out (0 : Int) (by omega) (of_decide_eq_true (by first | (with_reducible assumption) | assumption)))); (try (try simp only [Int.reduceToNat, Int.toNat_zero, Int.toNat_ofNat, Nat.reduceMul, Nat.zero_mul, Nat.zero_add] at hy11_ hz11_)); (try (try rw [show ((0 : Int)).toNat = 0 from rfl] at hy11_)); (try (try rw [show ((0 : Int)).toNat = 0 from rfl] at hz11_)); (try (have HP11 := Kd.R_putg HO138.out (0 : Int) true)))); refine store_event (t := 4) (p := 17) (v := ?vo_w12) (w1 := (w9.setCell ⟨go8, (0 : Int).toNat, none⟩ (.bool true))) ?hg ?ho ?hn ?hr ?_; (case ho => rfl); (case hg => rfl); (case hn => rfl); (case hr => first | (go_simp; done) | (go_simp; rfl)); intro w12 hw; have hg : w9.grownBy w12 (some go8) := (by rw [hw]; exact HP11.2); have hp_ : Kd.R Kd.bool 4 w12 w.heap.size (fun _ => True) (.slice (some ⟨go8, 0, none⟩) y136.length co8) y139 := (by rw [hw, Ny139.out]; exact HP11.1); clear HP11; have n0_ := Aside0.mk (hp_); have n1_ := Aside0.mk ((by rw [hw]; exact below_set (HB.out) GB8.out : Below w.heap.size w w12)); clear HO138; clear HB; have HO138 := n0_; have HB := n1_; clear n0_ n1_; clear hg hw hp_))
        repeat (go_quiet (first | ((with_reducible refine gate_dst (N := 15) rfl ?_); refine Kd.R_make Kd.bool _ 4 rfl (N := 15) rfl 114 _ _ rfl ji4 rfl rfl Tryd.underlying114 (.bool false) 1 info4 rfl (by decide) (by omega) false (ok := fun _ => True) (okp := fun _ => True) rfl (fun _ hk => hk) trivial (of_decide_eq_true (by first | (with_reducible assumption) | assumption)) (Nat.le_trans (Nat.mul_le_mul_right _ (of_decide_eq_true (by first | (with_reducible assumption) | assumption) : ji4.toNat ≤ 281474976710656)) (by omega)) (Below.refl _ _) (Nat.le_refl _) ?_; intro v137 w9 ho10 hb hg_ hnew_; clear hg_ hnew_; (first | rw [← Ny136.out] at ho10 | (simp only [Int.reduceToNat] at ho10; rw [← Ny136.out] at ho10)); have n0_ := Aside0.mk (Kd.R_lower ho10 (below_size (by repeat (first | (with_reducible first | exact HB.out | apply below_alloc | apply pw_below_drewN | apply below_drew1) | exact HB.out)))); have n1_ := Aside0.mk (below_step (by repeat (first | (with_reducible first | exact HB.out | apply below_alloc | apply pw_below_drewN | apply below_drew1) | exact HB.out)) hb); clear HB; have HO138 := n0_; have HB := n1_; clear n0_ n1_; clear hb ho10; have p8 : 0 ≤ (0 : Int) := (by omega); have q8 : (0 : Int) < ((y136.length : Int) : Int) := of_decide_eq_true (by first | (with_reducible assumption) | assumption); have qi8 : (0 < y136.length) = True := eq_true (by omega); obtain ⟨go8, co8, eo8, gb8, gl8, cl8, HG8⟩ := Kd.R_form HO138.out (by omega); (first | cases eo8 | (injection eo8 with ea_ en_ ec_; (first | subst ea_ | (injection ea_ with ea_; subst ea_)); subst ec_; clear en_)); have GB8 := Aside0.mk gb8; have GG8 := Aside0.mk HG8; clear gb8 gl8 HG8; obtain ⟨hx8_0, hf8_0⟩ := Kd.R_celln false HO138.out (0 : Int) p8 q8; (try rw [show ((0 : Int)).toNat = 0 from rfl] at hx8_0); (try simp only [Nat.reduceMul, Nat.zero_mul, Nat.zero_add, Nat.reduceAdd] at hx8_0); (try rw [show ((0 : Int)).toNat = 0 from rfl] at hf8_0); (try simp only [Nat.reduceMul, Nat.zero_mul, Nat.zero_add, Nat.reduceAdd] at hf8_0); replace p8 := eq_true p8; replace q8 := eq_true q8; obtain ⟨hy11_, hz11_⟩ := Kd.R_celln false HO138.out (0 : Int) (by omega) (of_decide_eq_true (by first | (with_reducible assumption) | assumption)); (try simp only [Int.reduceToNat, Int.toNat_zero, Int.toNat_ofNat, Nat.reduceMul, Nat.zero_mul, Nat.zero_add] at hy11_ hz11_); (try rw [show ((0 : Int)).toNat = 0 from rfl] at hy11_); (try rw [show ((0 : Int)).toNat = 0 from rfl] at hz11_); have HP11 := Kd.R_putg HO138.out (0 : Int) true) | ((with_reducible refine gate_store (t := 4) (p := 17) rfl ?_); (try (rw [drewN_self w9]; generalize hq_ : World.drewN w9 _ = w9; have n0_ := Aside0.mk (Kd.R_at hq_ HO138.out); have n1_ := Aside0.mk (below_at hq_ HB.out); clear hq_ HO138 HB; have HO138 := n0_; have HB := n1_; clear n0_ n1_; (try (obtain ⟨hy11_, hz11_⟩ := Kd.R_celln false HO138.out (0 : Int) (by omega) (of_decide_eq_true (by first | (with_reducible assumption) | assumption)))); (try (try simp only [Int.reduceToNat, Int.toNat_zero, Int.toNat_ofNat, Nat.reduceMul, Nat.zero_mul, Nat.zero_add] at hy11_ hz11_)); (try (try rw [show ((0 : Int)).toNat = 0 from rfl] at hy11_)); (try (try rw [show ((0 : Int)).toNat = 0 from rfl] at hz11_)); (try (have HP11 := Kd.R_putg HO138.out (0 : Int) true)))); refine store_event (t := 4) (p := 17) (v := ?vo_w12) (w1 := (w9.setCell ⟨go8, (0 : Int).toNat, none⟩ (.bool true))) ?hg ?ho ?hn ?hr ?_; (case ho => rfl); (case hg => rfl); (case hn => rfl); (case hr => first | (go_simp; done) | (go_simp; rfl)); intro w12 hw; have hg : w9.grownBy w12 (some go8) := (by rw [hw]; exact HP11.2); have hp_ : Kd.R Kd.bool 4 w12 w.heap.size (fun _ => True) (.slice (some ⟨go8, 0, none⟩) y136.length co8) y139 := (by rw [hw, Ny139.out]; exact HP11.1); clear HP11; have n0_ := Aside0.mk (hp_); have n1_ := Aside0.mk ((by rw [hw]; exact below_set (HB.out) GB8.out : Below w.heap.size w w12)); clear HO138; clear HB; have HO138 := n0_; have HB := n1_; clear n0_ n1_; clear hg hw hp_)); try go_wp2_with (first | ((with_reducible refine gate_dst (N := 15) rfl ?_); refine Kd.R_make Kd.bool _ 4 rfl (N := 15) rfl 114 _ _ rfl ji4 rfl rfl Tryd.underlying114 (.bool false) 1 info4 rfl (by decide) (by omega) false (ok := fun _ => True) (okp := fun _ => True) rfl (fun _ hk => hk) trivial (of_decide_eq_true (by first | (with_reducible assumption) | assumption)) (Nat.le_trans (Nat.mul_le_mul_right _ (of_decide_eq_true (by first | (with_reducible assumption) | assumption) : ji4.toNat ≤ 281474976710656)) (by omega)) (Below.refl _ _) (Nat.le_refl _) ?_; intro v137 w9 ho10 hb hg_ hnew_; clear hg_ hnew_; (first | rw [← Ny136.out] at ho10 | (simp only [Int.reduceToNat] at ho10; rw [← Ny136.out] at ho10)); have n0_ := Aside0.mk (Kd.R_lower ho10 (below_size (by repeat (first | (with_reducible first | exact HB.out | apply below_alloc | apply pw_below_drewN | apply below_drew1) | exact HB.out)))); have n1_ := Aside0.mk (below_step (by repeat (first | (with_reducible first | exact HB.out | apply below_alloc | apply pw_below_drewN | apply below_drew1) | exact HB.out)) hb); clear HB; have HO138 := n0_; have HB := n1_; clear n0_ n1_; clear hb ho10; have p8 : 0 ≤ (0 : Int) := (by omega); have q8 : (0 : Int) < ((y136.length : Int) : Int) := of_decide_eq_true (by first | (with_reducible assumption) | assumption); have qi8 : (0 < y136.length) = True := eq_true (by omega); obtain ⟨go8, co8, eo8, gb8, gl8, cl8, HG8⟩ := Kd.R_form HO138.out (by omega); (first | cases eo8 | (injection eo8 with ea_ en_ ec_; (first | subst ea_ | (injection ea_ with ea_; subst ea_)); subst ec_; clear en_)); have GB8 := Aside0.mk gb8; have GG8 := Aside0.mk HG8; clear gb8 gl8 HG8; obtain ⟨hx8_0, hf8_0⟩ := Kd.R_celln false HO138.out (0 : Int) p8 q8; (try rw [show ((0 : Int)).toNat = 0 from rfl] at hx8_0); (try simp only [Nat.reduceMul, Nat.zero_mul, Nat.zero_add, Nat.reduceAdd] at hx8_0); (try rw [show ((0 : Int)).toNat = 0 from rfl] at hf8_0); (try simp only [Nat.reduceMul, Nat.zero_mul, Nat.zero_add, Nat.reduceAdd] at hf8_0); replace p8 := eq_true p8; replace q8 := eq_true q8; obtain ⟨hy11_, hz11_⟩ := Kd.R_celln false HO138.out (0 : Int) (by omega) (of_decide_eq_true (by first | (with_reducible assumption) | assumption)); (try simp only [Int.reduceToNat, Int.toNat_zero, Int.toNat_ofNat, Nat.reduceMul, Nat.zero_mul, Nat.zero_add] at hy11_ hz11_); (try rw [show ((0 : Int)).toNat = 0 from rfl] at hy11_); (try rw [show ((0 : Int)).toNat = 0 from rfl] at hz11_); have HP11 := Kd.R_putg HO138.out (0 : Int) true) | ((with_reducible refine gate_store (t := 4) (p := 17) rfl ?_); (try (rw [drewN_self w9]; generalize hq_ : World.drewN w9 _ = w9; have n0_ := Aside0.mk (Kd.R_at hq_ HO138.out); have n1_ := Aside0.mk (below_at hq_ HB.out); clear hq_ HO138 HB; have HO138 := n0_; have HB := n1_; clear n0_ n1_; (try (obtain ⟨hy11_, hz11_⟩ := Kd.R_celln false HO138.out (0 : Int) (by omega) (of_decide_eq_true (by first | (with_reducible assumption) | assumption)))); (try (try simp only [Int.reduceToNat, Int.toNat_zero, Int.toNat_ofNat, Nat.reduceMul, Nat.zero_mul, Nat.zero_add] at hy11_ hz11_)); (try (try rw [show ((0 : Int)).toNat = 0 from rfl] at hy11_)); (try (try rw [show ((0 : Int)).toNat = 0 from rfl] at hz11_)); (try (have HP11 := Kd.R_putg HO138.out (0 : Int) true)))); refine store_event (t := 4) (p := 17) (v := ?vo_w12) (w1 := (w9.setCell ⟨go8, (0 : Int).toNat, none⟩ (.bool true))) ?hg ?ho ?hn ?hr ?_; (case ho => rfl); (case hg => rfl); (case hn => rfl); (case hr => first | (go_simp; done) | (go_simp; rfl)); intro w12 hw; have hg : w9.grownBy w12 (some go8) := (by rw [hw]; exact HP11.2); have hp_ : Kd.R Kd.bool 4 w12 w.heap.size (fun _ => True) (.slice (some ⟨go8, 0, none⟩) y136.length co8) y139 := (by rw [hw, Ny139.out]; exact HP11.1); clear HP11; have n0_ := Aside0.mk (hp_); have n1_ := Aside0.mk ((by rw [hw]; exact below_set (HB.out) GB8.out : Below w.heap.size w w12)); clear HO138; clear HB; have HO138 := n0_; have HB := n1_; clear n0_ n1_; clear hg hw hp_)))
        go_loopg [7, 8] k (fun kq v7 v8 w' => ∃ (x7_1 : List Bool) (x8_1 : Int), v8 = .int .i64 x8_1 ∧ Aside0 (decorumref09_glob.l0 kq a0 a1 a2 x7_1 x8_1 = some r) ∧ Aside0 (kq ≤ k) ∧ Aside0 (Kd.R Kd.bool 4 w' w.heap.size (fun _ => True) v7 x7_1) ∧ Aside0 (Below w.heap.size w w'))
        case atStart => exact ⟨(y139), (0), (by first | rfl | (simp; done) | (simp [*]; done)), H', ⟨Nat.le_refl _⟩, ⟨by (with_reducible repeat (first | apply Kd.R_alloc | apply Kd.R_drewN | apply Kd.R_drew)); exact HO138.out⟩, ⟨by repeat (first | (with_reducible first | exact HB.out | apply below_alloc | apply pw_below_drewN | apply below_drew1) | exact HB.out)⟩⟩
        case round =>
          clear H'
          try clear p2
          try clear c5
          try clear c5b0
          try clear c5b1
          try clear c6
          try clear c6b0
          try clear c6b1
          try clear p6
          try clear c7
          try clear c7b0
          try clear c7b1
          try clear p8
          try clear q8
          try clear hx8
          try clear qi8
          try clear hf8
          try clear hx8_0
          try clear p8
          try clear q8
          obtain ⟨x7_1, x8_1, rfl, HA, HK1, HO_7, HB⟩ := hrel
          cases gk with
          | zero => exact absurd HA.out (by simp [decorumref09_glob.l0])
          | succ k1 =>
            have H := HA.out
            clear HA
            simp only [decorumref09_glob.l0] at H
            by_cases c13 : x8_1 < (a0.size : Int)
            · rw [if_pos c13] at H
              have c13b0 : decide (x8_1 < (a0.size : Int)) = true := decide_eq_true c13
              clear c13
              obtain ⟨ji14, hji14⟩ : ∃ j_ : Int, (wrap64 ((a1.size : Int) + 1)) = j_ := ⟨_, rfl⟩
              replace H : (if 0 ≤ (ji14) then (if (ji14 : Int).toNat ≤ 281474976710656 then (decorumref09_glob.l1 k1 a0 a1 a2 x7_1 x8_1 (List.replicate (ji14 : Int).toNat false) 0) else (none)) else (none)) = some r := by first | (rw [hji14] at H; exact H) | (simp only [hji14] at H ⊢; exact H)
              have hji14w : (IntKind.i64.wrap ((a1.size : Int) + 1)) = ji14 := (i64_w _).trans hji14
              try obtain rfl : ji14 = ji4 := hji14.symm.trans hji4
              by_cases c15 : 0 ≤ (ji14)
              · rw [if_pos c15] at H
                have c15b0 := eq_true c15
                have c15b1 : decide (0 ≤ (ji14)) = true := decide_eq_true c15
                clear c15
                by_cases c16 : (ji14 : Int).toNat ≤ 281474976710656
                · rw [if_pos c16] at H
                  have c16b0 := eq_true c16
                  have c16b1 : decide ((ji14 : Int).toNat ≤ 281474976710656) = true := decide_eq_true c16
                  clear c16
                  obtain ⟨y140, hy140⟩ : ∃ y_ : List Bool, y_ = (List.replicate (ji14 : Int).toNat false) := ⟨_, rfl⟩
                  replace H : (decorumref09_glob.l1 k1 a0 a1 a2 x7_1 x8_1 y140 0) = some r := by first | (rw [hy140]; with_reducible exact H) | (have H2_ := (Option.bind_some _ _).symm.trans H; rw [hy140]; with_reducible exact H2_) | (have H2_ := (Option.bind_some _ _).symm.trans H; with_reducible exact H2_) | with_reducible exact H | (rw [hy140]; exact H) | exact H
                  have Ny140 := Aside0.mk hy140
                  clear hy140
                  have H' := Aside0.mk H
                  clear H
                  go_wp2_with (first | ((with_reducible refine gate_dst (N := 27) rfl ?_); refine Kd.R_make Kd.bool _ 4 rfl (N := 27) rfl 114 _ _ rfl ji14 rfl rfl Tryd.underlying114 (.bool false) 1 info4 rfl (by decide) (by omega) false (ok := fun _ => True) (okp := fun _ => True) rfl (fun _ hk => hk) trivial (of_decide_eq_true (by first | (with_reducible assumption) | assumption)) (Nat.le_trans (Nat.mul_le_mul_right _ (of_decide_eq_true (by first | (with_reducible assumption) | assumption) : ji14.toNat ≤ 281474976710656)) (by omega)) (Below.refl _ _) (Nat.le_refl _) ?_; intro v141 w17 ho18 hb hg_ hnew_; clear hg_ hnew_; (first | rw [← Ny140.out] at ho18 | (simp only [Int.reduceToNat] at ho18; rw [← Ny140.out] at ho18)); have n0_ := Aside0.mk (Kd.R_elder' (by (with_reducible repeat (first | apply Kd.R_alloc | apply Kd.R_drewN | apply Kd.R_drew)); exact HO_7.out) (Kd.R_base ho18) hb); have n1_ := Aside0.mk (Kd.R_lower (Kd.R_new' ho18 (Kd.R_lt (by (with_reducible repeat (first | apply Kd.R_alloc | apply Kd.R_drewN | apply Kd.R_drew)); exact HO_7.out))) (below_size (by repeat (first | (with_reducible first | exact HB.out | apply below_alloc | apply pw_below_drewN | apply below_drew1) | exact HB.out)))); have n2_ := Aside0.mk (below_step (by repeat (first | (with_reducible first | exact HB.out | apply below_alloc | apply pw_below_drewN | apply below_drew1) | exact HB.out)) hb); clear HO_7; clear HB; have HO_7 := n0_; have HO142 := n1_; have HB := n2_; clear n0_ n1_ n2_; clear hb ho18))
                  repeat (go_quiet (first | ((with_reducible refine gate_dst (N := 27) rfl ?_); refine Kd.R_make Kd.bool _ 4 rfl (N := 27) rfl 114 _ _ rfl ji14 rfl rfl Tryd.underlying114 (.bool false) 1 info4 rfl (by decide) (by omega) false (ok := fun _ => True) (okp := fun _ => True) rfl (fun _ hk => hk) trivial (of_decide_eq_true (by first | (with_reducible assumption) | assumption)) (Nat.le_trans (Nat.mul_le_mul_right _ (of_decide_eq_true (by first | (with_reducible assumption) | assumption) : ji14.toNat ≤ 281474976710656)) (by omega)) (Below.refl _ _) (Nat.le_refl _) ?_; intro v141 w17 ho18 hb hg_ hnew_; clear hg_ hnew_; (first | rw [← Ny140.out] at ho18 | (simp only [Int.reduceToNat] at ho18; rw [← Ny140.out] at ho18)); have n0_ := Aside0.mk (Kd.R_elder' (by (with_reducible repeat (first | apply Kd.R_alloc | apply Kd.R_drewN | apply Kd.R_drew)); exact HO_7.out) (Kd.R_base ho18) hb); have n1_ := Aside0.mk (Kd.R_lower (Kd.R_new' ho18 (Kd.R_lt (by (with_reducible repeat (first | apply Kd.R_alloc | apply Kd.R_drewN | apply Kd.R_drew)); exact HO_7.out))) (below_size (by repeat (first | (with_reducible first | exact HB.out | apply below_alloc | apply pw_below_drewN | apply below_drew1) | exact HB.out)))); have n2_ := Aside0.mk (below_step (by repeat (first | (with_reducible first | exact HB.out | apply below_alloc | apply pw_below_drewN | apply below_drew1) | exact HB.out)) hb); clear HO_7; clear HB; have HO_7 := n0_; have HO142 := n1_; have HB := n2_; clear n0_ n1_ n2_; clear hb ho18)); try go_wp2_with (first | ((with_reducible refine gate_dst (N := 27) rfl ?_); refine Kd.R_make Kd.bool _ 4 rfl (N := 27) rfl 114 _ _ rfl ji14 rfl rfl Tryd.underlying114 (.bool false) 1 info4 rfl (by decide) (by omega) false (ok := fun _ => True) (okp := fun _ => True) rfl (fun _ hk => hk) trivial (of_decide_eq_true (by first | (with_reducible assumption) | assumption)) (Nat.le_trans (Nat.mul_le_mul_right _ (of_decide_eq_true (by first | (with_reducible assumption) | assumption) : ji14.toNat ≤ 281474976710656)) (by omega)) (Below.refl _ _) (Nat.le_refl _) ?_; intro v141 w17 ho18 hb hg_ hnew_; clear hg_ hnew_; (first | rw [← Ny140.out] at ho18 | (simp only [Int.reduceToNat] at ho18; rw [← Ny140.out] at ho18)); have n0_ := Aside0.mk (Kd.R_elder' (by (with_reducible repeat (first | apply Kd.R_alloc | apply Kd.R_drewN | apply Kd.R_drew)); exact HO_7.out) (Kd.R_base ho18) hb); have n1_ := Aside0.mk (Kd.R_lower (Kd.R_new' ho18 (Kd.R_lt (by (with_reducible repeat (first | apply Kd.R_alloc | apply Kd.R_drewN | apply Kd.R_drew)); exact HO_7.out))) (below_size (by repeat (first | (with_reducible first | exact HB.out | apply below_alloc | apply pw_below_drewN | apply below_drew1) | exact HB.out)))); have n2_ := Aside0.mk (below_step (by repeat (first | (with_reducible first | exact HB.out | apply below_alloc | apply pw_below_drewN | apply below_drew1) | exact HB.out)) hb); clear HO_7; clear HB; have HO_7 := n0_; have HO142 := n1_; have HB := n2_; clear n0_ n1_ n2_; clear hb ho18)))
                  go_loopg [10] k1 (fun kq v10 w' => ∃ (x9_2 : List Bool) (x10_2 : Int), v10 = .int .i64 x10_2 ∧ Aside0 (decorumref09_glob.l1 kq a0 a1 a2 x7_1 x8_1 x9_2 x10_2 = some r) ∧ Aside0 (kq ≤ k1) ∧ Aside0 (Kd.R Kd.bool 4 w' w.heap.size (fun k_ => some k_ ≠ (v141 : Value).ownBlock) u7 x7_1) ∧ Aside0 (Kd.R Kd.bool 4 w' w.heap.size (fun k_ => some k_ ≠ (u7 : Value).ownBlock) v141 x9_2) ∧ Aside0 (Below w.heap.size w w'))
                  case atStart => exact ⟨(y140), (0), (by first | rfl | (simp; done) | (simp [*]; done)), H', ⟨Nat.le_refl _⟩, ⟨by (with_reducible repeat (first | apply Kd.R_alloc | apply Kd.R_drewN | apply Kd.R_drew)); exact Kd.R_mono HO_7.out (fun _ hk => hk.2)⟩, ⟨by (with_reducible repeat (first | apply Kd.R_alloc | apply Kd.R_drewN | apply Kd.R_drew)); exact Kd.R_mono HO142.out (fun _ hk => hk.2)⟩, ⟨by repeat (first | (with_reducible first | exact HB.out | apply below_alloc | apply pw_below_drewN | apply below_drew1) | exact HB.out)⟩⟩
                  case round =>
                    clear H'
                    try clear c1
                    try clear p2
                    try clear c5
                    try clear c5b0
                    try clear c5b1
                    try clear c6
                    try clear c6b0
                    try clear c6b1
                    try clear p6
                    try clear c7
                    try clear c7b0
                    try clear c7b1
                    try clear p8
                    try clear q8
                    try clear hx8
                    try clear qi8
                    try clear hf8
                    try clear c13
                    try clear c13b0
                    try clear c15
                    try clear c15b0
                    try clear c15b1
                    try clear c16
                    try clear c16b0
                    try clear c16b1
                    try clear hx8_0
                    try clear p2
                    try clear p6
                    try clear p8
                    try clear q8
                    obtain ⟨x9_2, x10_2, rfl, HA, HK2, HO_7, HO_9, HB⟩ := hrel
                    cases gk with
                    | zero => exact absurd HA.out (by simp [decorumref09_glob.l1])
                    | succ k2 =>
                      have H := HA.out
                      clear HA
                      simp only [decorumref09_glob.l1] at H
                      by_cases c19 : x10_2 ≤ (a1.size : Int)
                      · rw [if_pos c19] at H
                        have c19b0 : decide (x10_2 ≤ (a1.size : Int)) = true := decide_eq_true c19
                        clear c19
                        by_cases c20 : 0 ≤ x8_1
                        · rw [if_pos c20] at H
                          have c20b0 : decide (0 ≤ x8_1) = true := decide_eq_true c20
                          clear c20
                          by_cases c21 : x8_1 < (a0.size : Int)
                          · rw [if_pos c21] at H
                            have c21b0 : decide (x8_1 < (a0.size : Int)) = true := decide_eq_true c21
                            clear c21
                            by_cases c23 : (bt a0 x8_1) = 42
                            · rw [if_pos c23] at H
                              have c23b0 : ((bt a0 x8_1) == 42) = true := beq_iff_eq.mpr c23
                              have c23b1 : ((bt a0 x8_1) != 42) = false := bne_eq_false_iff_eq.mpr c23
                              clear c23
                              by_cases c24 : 0 ≤ x10_2
                              · rw [if_pos c24] at H
                                have c24b0 : decide (0 ≤ x10_2) = true := decide_eq_true c24
                                clear c24
                                by_cases c25 : x10_2 < (x7_1.length : Int)
                                · rw [if_pos c25] at H
                                  have c25b0 : decide (x10_2 < (x7_1.length : Int)) = true := decide_eq_true c25
                                  clear c25
                                  obtain ⟨bq26, hbq26⟩ : ∃ b_ : Bool, b_ = (rdOf false x7_1 x10_2) := ⟨_, rfl⟩
                                  replace H : (if bq26 = true then (if x10_2 < (x9_2.length : Int) then (decorumref09_glob.l1 k2 a0 a1 a2 x7_1 x8_1 (x9_2.set (x10_2 : Int).toNat true) (wrap64 (x10_2 + 1))) else (none)) else (if x10_2 > 0 then (if 0 ≤ (wrap64 (x10_2 - 1)) then (if (wrap64 (x10_2 - 1)) < (x9_2.length : Int) then (if x10_2 < (x9_2.length : Int) then (decorumref09_glob.l1 k2 a0 a1 a2 x7_1 x8_1 (x9_2.set (x10_2 : Int).toNat (rdOf false x9_2 (wrap64 (x10_2 - 1)))) (wrap64 (x10_2 + 1))) else (none)) else (none)) else (none)) else (if x10_2 < (x9_2.length : Int) then (decorumref09_glob.l1 k2 a0 a1 a2 x7_1 x8_1 (x9_2.set (x10_2 : Int).toNat false) (wrap64 (x10_2 + 1))) else (none)))) = some r := by rw [← hbq26] at H; exact H
                                  have Nbq26 := Aside0.mk hbq26
                                  clear hbq26
                                  by_cases c27 : bq26 = true
                                  · subst c27
                                    have H1 : (if x10_2 < (x9_2.length : Int) then (decorumref09_glob.l1 k2 a0 a1 a2 x7_1 x8_1 (x9_2.set (x10_2 : Int).toNat true) (wrap64 (x10_2 + 1))) else (none)) = some r := by rw [if_pos rfl] at H; exact H
                                    clear H
                                    have H := H1
                                    clear H1
                                    by_cases c28 : x10_2 < (x9_2.length : Int)
                                    · rw [if_pos c28] at H
                                      have c28b0 : decide (x10_2 < (x9_2.length : Int)) = true := decide_eq_true c28
                                      clear c28
                                      obtain ⟨y144, hy144⟩ : ∃ y_ : List Bool, y_ = (x9_2.set (x10_2 : Int).toNat true) := ⟨_, rfl⟩
                                      replace H : (decorumref09_glob.l1 k2 a0 a1 a2 x7_1 x8_1 y144 (wrap64 (x10_2 + 1))) = some r := by first | (rw [hy144]; with_reducible exact H) | (have H2_ := (Option.bind_some _ _).symm.trans H; rw [hy144]; with_reducible exact H2_) | (have H2_ := (Option.bind_some _ _).symm.trans H; with_reducible exact H2_) | with_reducible exact H | (rw [hy144]; exact H) | exact H
                                      have Ny144 := Aside0.mk hy144
                                      clear hy144
                                      have H' := Aside0.mk H
                                      clear H
                                      have p22 : 0 ≤ (x8_1 : Int) := of_decide_eq_true (by first | (with_reducible assumption) | assumption)
                                      have q22 : x8_1 < (a0.size : Int) := of_decide_eq_true (by first | (with_reducible assumption) | assumption)
                                      have hx22 := bt_at a0 x8_1
                                      replace p22 := eq_true p22
                                      replace q22 := eq_true q22
                                      obtain ⟨Ao30, co30, eo30⟩ := Kd.R_slice HO_7.out
                                      subst eo30
                                      have p143 : 0 ≤ (x10_2 : Int) := of_decide_eq_true (by first | (with_reducible assumption) | assumption)
                                      have q143 : x10_2 < (x7_1.length : Int) := of_decide_eq_true (by first | (with_reducible assumption) | assumption)
                                      obtain ⟨ad143, e143, hx143_0⟩ := Kd.at_bool (Kd.R_reads' HO_7.out).2.2 x10_2 p143 q143
                                      (try rw [← Nbq26.out] at hx143_0)
                                      cases e143
                                      replace p143 := eq_true p143
                                      replace q143 := eq_true q143
                                      have p29 : 0 ≤ (x10_2 : Int) := of_decide_eq_true (by first | (with_reducible assumption) | assumption)
                                      have q29 : (x10_2 : Int) < ((x9_2.length : Int) : Int) := of_decide_eq_true (by first | (with_reducible assumption) | assumption)
                                      obtain ⟨go29, co29, eo29, gb29, gl29, cl29, HG29⟩ := Kd.R_form HO_9.out (by omega)
                                      (first | cases eo29 | (injection eo29 with ea_ en_ ec_; (first | subst ea_ | (injection ea_ with ea_; subst ea_)); subst ec_; clear en_))
                                      have GB29 := Aside0.mk gb29
                                      have GG29 := Aside0.mk HG29
                                      clear gb29 gl29 HG29
                                      obtain ⟨hx29_0, hf29_0⟩ := Kd.R_celln false HO_9.out (x10_2 : Int) p29 q29
                                      replace p29 := eq_true p29
                                      replace q29 := eq_true q29
                                      have HP31 := Kd.R_putg HO_9.out (x10_2 : Int) true
                                      go_wp2_with (first | ((with_reducible refine gate_store (t := 4) (p := 55) rfl ?_); (try (rw [drewN_self wr]; generalize hq_ : World.drewN wr _ = wr; have n0_ := Aside0.mk (Kd.R_at hq_ HO_7.out); have n1_ := Aside0.mk (Kd.R_at hq_ HO_9.out); have n2_ := Aside0.mk (below_at hq_ HB.out); have n3_ : wr.cell? ⟨go29, (x10_2 : Int).toNat, none⟩ = some (.bool (rdOf false x9_2 x10_2)) := (by rw [← hq_]; exact hx29_0); have n4_ : wr.frozen? ⟨go29, (x10_2 : Int).toNat, none⟩ = false := (by rw [← hq_]; exact hf29_0); clear hq_ HO_7 HO_9 HB; have HO_7 := n0_; have HO_9 := n1_; have HB := n2_; clear n0_ n1_ n2_; (try (have HP31 := Kd.R_putg HO_9.out (x10_2 : Int) true)))); refine store_event (t := 4) (p := 55) (v := ?vo_w32) (w1 := (wr.setCell ⟨go29, (x10_2 : Int).toNat, none⟩ (.bool true))) ?hg ?ho ?hn ?hr ?_; (case ho => rfl); (case hg => rfl); (case hn => rfl); (case hr => first | (go_simp; done) | (go_simp; rfl)); intro w32 hw; have hg : wr.grownBy w32 (some go29) := (by rw [hw]; exact HP31.2); have hp_ : Kd.R Kd.bool 4 w32 w.heap.size (fun k_ => some k_ ≠ (.slice (some ad143) x7_1.length co30 : Value).ownBlock) (.slice (some ⟨go29, 0, none⟩) x9_2.length co29) y144 := (by rw [hw, Ny144.out]; exact HP31.1); clear HP31; have n0_ := Aside0.mk (Kd.R_after (v := (.slice (some ⟨go29, 0, none⟩) x9_2.length co29)) (v1 := (.slice (some ⟨go29, 0, none⟩) x9_2.length co29)) (ok := (fun _ => True)) (by (with_reducible repeat (first | apply Kd.R_alloc | apply Kd.R_drewN | apply Kd.R_drew)); exact Kd.R_mono HO_7.out (fun _ hk => ⟨trivial, hk⟩)) hg (.inl rfl)); have n1_ := Aside0.mk (hp_); have n2_ := Aside0.mk ((by rw [hw]; exact below_set (HB.out) GB29.out : Below w.heap.size w w32)); clear HO_7; clear HO_9; clear HB; have HO_7 := n0_; have HO_9 := n1_; have HB := n2_; clear n0_ n1_ n2_; clear hg hw hp_))
                                      repeat (go_quiet (first | ((with_reducible refine gate_store (t := 4) (p := 55) rfl ?_); (try (rw [drewN_self wr]; generalize hq_ : World.drewN wr _ = wr; have n0_ := Aside0.mk (Kd.R_at hq_ HO_7.out); have n1_ := Aside0.mk (Kd.R_at hq_ HO_9.out); have n2_ := Aside0.mk (below_at hq_ HB.out); have n3_ : wr.cell? ⟨go29, (x10_2 : Int).toNat, none⟩ = some (.bool (rdOf false x9_2 x10_2)) := (by rw [← hq_]; exact hx29_0); have n4_ : wr.frozen? ⟨go29, (x10_2 : Int).toNat, none⟩ = false := (by rw [← hq_]; exact hf29_0); clear hq_ HO_7 HO_9 HB; have HO_7 := n0_; have HO_9 := n1_; have HB := n2_; clear n0_ n1_ n2_; (try (have HP31 := Kd.R_putg HO_9.out (x10_2 : Int) true)))); refine store_event (t := 4) (p := 55) (v := ?vo_w32) (w1 := (wr.setCell ⟨go29, (x10_2 : Int).toNat, none⟩ (.bool true))) ?hg ?ho ?hn ?hr ?_; (case ho => rfl); (case hg => rfl); (case hn => rfl); (case hr => first | (go_simp; done) | (go_simp; rfl)); intro w32 hw; have hg : wr.grownBy w32 (some go29) := (by rw [hw]; exact HP31.2); have hp_ : Kd.R Kd.bool 4 w32 w.heap.size (fun k_ => some k_ ≠ (.slice (some ad143) x7_1.length co30 : Value).ownBlock) (.slice (some ⟨go29, 0, none⟩) x9_2.length co29) y144 := (by rw [hw, Ny144.out]; exact HP31.1); clear HP31; have n0_ := Aside0.mk (Kd.R_after (v := (.slice (some ⟨go29, 0, none⟩) x9_2.length co29)) (v1 := (.slice (some ⟨go29, 0, none⟩) x9_2.length co29)) (ok := (fun _ => True)) (by (with_reducible repeat (first | apply Kd.R_alloc | apply Kd.R_drewN | apply Kd.R_drew)); exact Kd.R_mono HO_7.out (fun _ hk => ⟨trivial, hk⟩)) hg (.inl rfl)); have n1_ := Aside0.mk (hp_); have n2_ := Aside0.mk ((by rw [hw]; exact below_set (HB.out) GB29.out : Below w.heap.size w w32)); clear HO_7; clear HO_9; clear HB; have HO_7 := n0_; have HO_9 := n1_; have HB := n2_; clear n0_ n1_ n2_; clear hg hw hp_)); try go_wp2_with (first | ((with_reducible refine gate_store (t := 4) (p := 55) rfl ?_); (try (rw [drewN_self wr]; generalize hq_ : World.drewN wr _ = wr; have n0_ := Aside0.mk (Kd.R_at hq_ HO_7.out); have n1_ := Aside0.mk (Kd.R_at hq_ HO_9.out); have n2_ := Aside0.mk (below_at hq_ HB.out); have n3_ : wr.cell? ⟨go29, (x10_2 : Int).toNat, none⟩ = some (.bool (rdOf false x9_2 x10_2)) := (by rw [← hq_]; exact hx29_0); have n4_ : wr.frozen? ⟨go29, (x10_2 : Int).toNat, none⟩ = false := (by rw [← hq_]; exact hf29_0); clear hq_ HO_7 HO_9 HB; have HO_7 := n0_; have HO_9 := n1_; have HB := n2_; clear n0_ n1_ n2_; (try (have HP31 := Kd.R_putg HO_9.out (x10_2 : Int) true)))); refine store_event (t := 4) (p := 55) (v := ?vo_w32) (w1 := (wr.setCell ⟨go29, (x10_2 : Int).toNat, none⟩ (.bool true))) ?hg ?ho ?hn ?hr ?_; (case ho => rfl); (case hg => rfl); (case hn => rfl); (case hr => first | (go_simp; done) | (go_simp; rfl)); intro w32 hw; have hg : wr.grownBy w32 (some go29) := (by rw [hw]; exact HP31.2); have hp_ : Kd.R Kd.bool 4 w32 w.heap.size (fun k_ => some k_ ≠ (.slice (some ad143) x7_1.length co30 : Value).ownBlock) (.slice (some ⟨go29, 0, none⟩) x9_2.length co29) y144 := (by rw [hw, Ny144.out]; exact HP31.1); clear HP31; have n0_ := Aside0.mk (Kd.R_after (v := (.slice (some ⟨go29, 0, none⟩) x9_2.length co29)) (v1 := (.slice (some ⟨go29, 0, none⟩) x9_2.length co29)) (ok := (fun _ => True)) (by (with_reducible repeat (first | apply Kd.R_alloc | apply Kd.R_drewN | apply Kd.R_drew)); exact Kd.R_mono HO_7.out (fun _ hk => ⟨trivial, hk⟩)) hg (.inl rfl)); have n1_ := Aside0.mk (hp_); have n2_ := Aside0.mk ((by rw [hw]; exact below_set (HB.out) GB29.out : Below w.heap.size w w32)); clear HO_7; clear HO_9; clear HB; have HO_7 := n0_; have HO_9 := n1_; have HB := n2_; clear n0_ n1_ n2_; clear hg hw hp_)))
                                      go_roundg k2
                                      case measure => have := HK1.out; have := HK2.out; omega
                                      case rel => exact ⟨(y144), (wrap64 (x10_2 + 1)), (by first | rfl | (simp; done) | (simp [*]; done)), H', ⟨by have := HK1.out; have := HK2.out; omega⟩, ⟨by (with_reducible repeat (first | apply Kd.R_alloc | apply Kd.R_drewN | apply Kd.R_drew)); exact Kd.R_mono HO_7.out (fun _ hk => hk.2)⟩, ⟨by (with_reducible repeat (first | apply Kd.R_alloc | apply Kd.R_drewN | apply Kd.R_drew)); exact HO_9.out⟩, ⟨by repeat (first | (with_reducible first | exact HB.out | apply below_alloc | apply pw_below_drewN | apply below_drew1) | exact HB.out)⟩⟩
                                    · rw [if_neg c28] at H
                                      exact absurd H (by simp)
                                  · replace c27 := Bool.eq_false_iff.mpr c27
                                    subst c27
                                    have H1 : (if x10_2 > 0 then (if 0 ≤ (wrap64 (x10_2 - 1)) then (if (wrap64 (x10_2 - 1)) < (x9_2.length : Int) then (if x10_2 < (x9_2.length : Int) then (decorumref09_glob.l1 k2 a0 a1 a2 x7_1 x8_1 (x9_2.set (x10_2 : Int).toNat (rdOf false x9_2 (wrap64 (x10_2 - 1)))) (wrap64 (x10_2 + 1))) else (none)) else (none)) else (none)) else (if x10_2 < (x9_2.length : Int) then (decorumref09_glob.l1 k2 a0 a1 a2 x7_1 x8_1 (x9_2.set (x10_2 : Int).toNat false) (wrap64 (x10_2 + 1))) else (none))) = some r := by rw [if_neg (show ¬ (false = true) by decide)] at H; exact H
                                    clear H
                                    have H := H1
                                    clear H1
                                    by_cases c33 : x10_2 > 0
                                    · rw [if_pos c33] at H
                                      have c33b0 : decide (0 < x10_2) = true := decide_eq_true c33
                                      clear c33
                                      obtain ⟨ji34, hji34⟩ : ∃ j_ : Int, (wrap64 (x10_2 - 1)) = j_ := ⟨_, rfl⟩
                                      replace H : (if 0 ≤ (ji34) then (if (ji34) < (x9_2.length : Int) then (if x10_2 < (x9_2.length : Int) then (decorumref09_glob.l1 k2 a0 a1 a2 x7_1 x8_1 (x9_2.set (x10_2 : Int).toNat (rdOf false x9_2 (ji34))) (wrap64 (x10_2 + 1))) else (none)) else (none)) else (none)) = some r := by first | (rw [hji34] at H; exact H) | (simp only [hji34] at H ⊢; exact H)
                                      have hji34w : (IntKind.i64.wrap (x10_2 - 1)) = ji34 := (i64_w _).trans hji34
                                      by_cases c35 : 0 ≤ (ji34)
                                      · rw [if_pos c35] at H
                                        have c35b0 : decide (0 ≤ (ji34)) = true := decide_eq_true c35
                                        clear c35
                                        by_cases c36 : (ji34) < (x9_2.length : Int)
                                        · rw [if_pos c36] at H
                                          have c36b0 : decide ((ji34) < (x9_2.length : Int)) = true := decide_eq_true c36
                                          clear c36
                                          by_cases c37 : x10_2 < (x9_2.length : Int)
                                          · rw [if_pos c37] at H
                                            have c37b0 : decide (x10_2 < (x9_2.length : Int)) = true := decide_eq_true c37
                                            clear c37
                                            obtain ⟨y146, hy146⟩ : ∃ y_ : List Bool, y_ = (x9_2.set (x10_2 : Int).toNat (rdOf false x9_2 (ji34))) := ⟨_, rfl⟩
                                            replace H : (decorumref09_glob.l1 k2 a0 a1 a2 x7_1 x8_1 y146 (wrap64 (x10_2 + 1))) = some r := by first | (rw [hy146]; with_reducible exact H) | (have H2_ := (Option.bind_some _ _).symm.trans H; rw [hy146]; with_reducible exact H2_) | (have H2_ := (Option.bind_some _ _).symm.trans H; with_reducible exact H2_) | with_reducible exact H | (rw [hy146]; exact H) | exact H
                                            have Ny146 := Aside0.mk hy146
                                            clear hy146
                                            have H' := Aside0.mk H
                                            clear H
                                            have p22 : 0 ≤ (x8_1 : Int) := of_decide_eq_true (by first | (with_reducible assumption) | assumption)
                                            have q22 : x8_1 < (a0.size : Int) := of_decide_eq_true (by first | (with_reducible assumption) | assumption)
                                            have hx22 := bt_at a0 x8_1
                                            replace p22 := eq_true p22
                                            replace q22 := eq_true q22
                                            obtain ⟨Ao39, co39, eo39⟩ := Kd.R_slice HO_7.out
                                            subst eo39
                                            have p143 : 0 ≤ (x10_2 : Int) := of_decide_eq_true (by first | (with_reducible assumption) | assumption)
                                            have q143 : x10_2 < (x7_1.length : Int) := of_decide_eq_true (by first | (with_reducible assumption) | assumption)
                                            obtain ⟨ad143, e143, hx143_0⟩ := Kd.at_bool (Kd.R_reads' HO_7.out).2.2 x10_2 p143 q143
                                            (try rw [← Nbq26.out] at hx143_0)
                                            cases e143
                                            replace p143 := eq_true p143
                                            replace q143 := eq_true q143
                                            obtain ⟨Ao40, co40, eo40⟩ := Kd.R_slice HO_9.out
                                            subst eo40
                                            have p145 : 0 ≤ ((ji34) : Int) := of_decide_eq_true (by first | (with_reducible assumption) | assumption)
                                            have q145 : (ji34) < (x9_2.length : Int) := of_decide_eq_true (by first | (with_reducible assumption) | assumption)
                                            obtain ⟨ad145, e145, hx145_0⟩ := Kd.at_bool (Kd.R_reads' HO_9.out).2.2 (ji34) p145 q145
                                            (try rw [← Nbq26.out] at hx145_0)
                                            cases e145
                                            replace p145 := eq_true p145
                                            replace q145 := eq_true q145
                                            have p38 : 0 ≤ (x10_2 : Int) := of_decide_eq_true (by first | (with_reducible assumption) | assumption)
                                            have q38 : (x10_2 : Int) < ((x9_2.length : Int) : Int) := of_decide_eq_true (by first | (with_reducible assumption) | assumption)
                                            obtain ⟨go38, co38, eo38, gb38, gl38, cl38, HG38⟩ := Kd.R_form HO_9.out (by omega)
                                            (first | cases eo38 | (injection eo38 with ea_ en_ ec_; (first | subst ea_ | (injection ea_ with ea_; subst ea_)); subst ec_; clear en_))
                                            have GB38 := Aside0.mk gb38
                                            have GG38 := Aside0.mk HG38
                                            clear gb38 gl38 HG38
                                            (first | simp only [add_plain] at hx145_0 | skip)
                                            obtain ⟨hx38_0, hf38_0⟩ := Kd.R_celln false HO_9.out (x10_2 : Int) p38 q38
                                            replace p38 := eq_true p38
                                            replace q38 := eq_true q38
                                            have HP41 := Kd.R_putg HO_9.out (x10_2 : Int) (rdOf false x9_2 (ji34))
                                            go_wp2_with (first | ((with_reducible refine gate_store (t := 4) (p := 55) rfl ?_); (try (rw [drewN_self wr]; generalize hq_ : World.drewN wr _ = wr; have n0_ := Aside0.mk (Kd.R_at hq_ HO_7.out); have n1_ := Aside0.mk (Kd.R_at hq_ HO_9.out); have n2_ := Aside0.mk (below_at hq_ HB.out); have n3_ : wr.cell? ⟨go38, (x10_2 : Int).toNat, none⟩ = some (.bool (rdOf false x9_2 x10_2)) := (by rw [← hq_]; exact hx38_0); have n4_ : wr.frozen? ⟨go38, (x10_2 : Int).toNat, none⟩ = false := (by rw [← hq_]; exact hf38_0); clear hq_ HO_7 HO_9 HB; have HO_7 := n0_; have HO_9 := n1_; have HB := n2_; clear n0_ n1_ n2_; (try (have HP41 := Kd.R_putg HO_9.out (x10_2 : Int) (rdOf false x9_2 (ji34)))))); refine store_event (t := 4) (p := 55) (v := ?vo_w42) (w1 := (wr.setCell ⟨go38, (x10_2 : Int).toNat, none⟩ (.bool (rdOf false x9_2 (ji34))))) ?hg ?ho ?hn ?hr ?_; (case ho => rfl); (case hg => rfl); (case hn => rfl); (case hr => first | (go_simp; done) | (go_simp; rfl)); intro w42 hw; have hg : wr.grownBy w42 (some go38) := (by rw [hw]; exact HP41.2); have hp_ : Kd.R Kd.bool 4 w42 w.heap.size (fun k_ => some k_ ≠ (.slice (some ad143) x7_1.length co39 : Value).ownBlock) (.slice (some ⟨go38, 0, none⟩) x9_2.length co40) y146 := (by rw [hw, Ny146.out]; exact HP41.1); clear HP41; have n0_ := Aside0.mk (Kd.R_after (v := (.slice (some ⟨go38, 0, none⟩) x9_2.length co40)) (v1 := (.slice (some ⟨go38, 0, none⟩) x9_2.length co40)) (ok := (fun _ => True)) (by (with_reducible repeat (first | apply Kd.R_alloc | apply Kd.R_drewN | apply Kd.R_drew)); exact Kd.R_mono HO_7.out (fun _ hk => ⟨trivial, hk⟩)) hg (.inl rfl)); have n1_ := Aside0.mk (hp_); have n2_ := Aside0.mk ((by rw [hw]; exact below_set (HB.out) GB38.out : Below w.heap.size w w42)); clear HO_7; clear HO_9; clear HB; have HO_7 := n0_; have HO_9 := n1_; have HB := n2_; clear n0_ n1_ n2_; clear hg hw hp_))
                                            repeat (go_quiet (first | ((with_reducible refine gate_store (t := 4) (p := 55) rfl ?_); (try (rw [drewN_self wr]; generalize hq_ : World.drewN wr _ = wr; have n0_ := Aside0.mk (Kd.R_at hq_ HO_7.out); have n1_ := Aside0.mk (Kd.R_at hq_ HO_9.out); have n2_ := Aside0.mk (below_at hq_ HB.out); have n3_ : wr.cell? ⟨go38, (x10_2 : Int).toNat, none⟩ = some (.bool (rdOf false x9_2 x10_2)) := (by rw [← hq_]; exact hx38_0); have n4_ : wr.frozen? ⟨go38, (x10_2 : Int).toNat, none⟩ = false := (by rw [← hq_]; exact hf38_0); clear hq_ HO_7 HO_9 HB; have HO_7 := n0_; have HO_9 := n1_; have HB := n2_; clear n0_ n1_ n2_; (try (have HP41 := Kd.R_putg HO_9.out (x10_2 : Int) (rdOf false x9_2 (ji34)))))); refine store_event (t := 4) (p := 55) (v := ?vo_w42) (w1 := (wr.setCell ⟨go38, (x10_2 : Int).toNat, none⟩ (.bool (rdOf false x9_2 (ji34))))) ?hg ?ho ?hn ?hr ?_; (case ho => rfl); (case hg => rfl); (case hn => rfl); (case hr => first | (go_simp; done) | (go_simp; rfl)); intro w42 hw; have hg : wr.grownBy w42 (some go38) := (by rw [hw]; exact HP41.2); have hp_ : Kd.R Kd.bool 4 w42 w.heap.size (fun k_ => some k_ ≠ (.slice (some ad143) x7_1.length co39 : Value).ownBlock) (.slice (some ⟨go38, 0, none⟩) x9_2.length co40) y146 := (by rw [hw, Ny146.out]; exact HP41.1); clear HP41; have n0_ := Aside0.mk (Kd.R_after (v := (.slice (some ⟨go38, 0, none⟩) x9_2.length co40)) (v1 := (.slice (some ⟨go38, 0, none⟩) x9_2.length co40)) (ok := (fun _ => True)) (by (with_reducible repeat (first | apply Kd.R_alloc | apply Kd.R_drewN | apply Kd.R_drew)); exact Kd.R_mono HO_7.out (fun _ hk => ⟨trivial, hk⟩)) hg (.inl rfl)); have n1_ := Aside0.mk (hp_); have n2_ := Aside0.mk ((by rw [hw]; exact below_set (HB.out) GB38.out : Below w.heap.size w w42)); clear HO_7; clear HO_9; clear HB; have HO_7 := n0_; have HO_9 := n1_; have HB := n2_; clear n0_ n1_ n2_; clear hg hw hp_)); try go_wp2_with (first | ((with_reducible refine gate_store (t := 4) (p := 55) rfl ?_); (try (rw [drewN_self wr]; generalize hq_ : World.drewN wr _ = wr; have n0_ := Aside0.mk (Kd.R_at hq_ HO_7.out); have n1_ := Aside0.mk (Kd.R_at hq_ HO_9.out); have n2_ := Aside0.mk (below_at hq_ HB.out); have n3_ : wr.cell? ⟨go38, (x10_2 : Int).toNat, none⟩ = some (.bool (rdOf false x9_2 x10_2)) := (by rw [← hq_]; exact hx38_0); have n4_ : wr.frozen? ⟨go38, (x10_2 : Int).toNat, none⟩ = false := (by rw [← hq_]; exact hf38_0); clear hq_ HO_7 HO_9 HB; have HO_7 := n0_; have HO_9 := n1_; have HB := n2_; clear n0_ n1_ n2_; (try (have HP41 := Kd.R_putg HO_9.out (x10_2 : Int) (rdOf false x9_2 (ji34)))))); refine store_event (t := 4) (p := 55) (v := ?vo_w42) (w1 := (wr.setCell ⟨go38, (x10_2 : Int).toNat, none⟩ (.bool (rdOf false x9_2 (ji34))))) ?hg ?ho ?hn ?hr ?_; (case ho => rfl); (case hg => rfl); (case hn => rfl); (case hr => first | (go_simp; done) | (go_simp; rfl)); intro w42 hw; have hg : wr.grownBy w42 (some go38) := (by rw [hw]; exact HP41.2); have hp_ : Kd.R Kd.bool 4 w42 w.heap.size (fun k_ => some k_ ≠ (.slice (some ad143) x7_1.length co39 : Value).ownBlock) (.slice (some ⟨go38, 0, none⟩) x9_2.length co40) y146 := (by rw [hw, Ny146.out]; exact HP41.1); clear HP41; have n0_ := Aside0.mk (Kd.R_after (v := (.slice (some ⟨go38, 0, none⟩) x9_2.length co40)) (v1 := (.slice (some ⟨go38, 0, none⟩) x9_2.length co40)) (ok := (fun _ => True)) (by (with_reducible repeat (first | apply Kd.R_alloc | apply Kd.R_drewN | apply Kd.R_drew)); exact Kd.R_mono HO_7.out (fun _ hk => ⟨trivial, hk⟩)) hg (.inl rfl)); have n1_ := Aside0.mk (hp_); have n2_ := Aside0.mk ((by rw [hw]; exact below_set (HB.out) GB38.out : Below w.heap.size w w42)); clear HO_7; clear HO_9; clear HB; have HO_7 := n0_; have HO_9 := n1_; have HB := n2_; clear n0_ n1_ n2_; clear hg hw hp_)))
                                            go_roundg k2
                                            case measure => have := HK1.out; have := HK2.out; omega
                                            case rel => exact ⟨(y146), (wrap64 (x10_2 + 1)), (by first | rfl | (simp; done) | (simp [*]; done)), H', ⟨by have := HK1.out; have := HK2.out; omega⟩, ⟨by (with_reducible repeat (first | apply Kd.R_alloc | apply Kd.R_drewN | apply Kd.R_drew)); exact Kd.R_mono HO_7.out (fun _ hk => hk.2)⟩, ⟨by (with_reducible repeat (first | apply Kd.R_alloc | apply Kd.R_drewN | apply Kd.R_drew)); exact HO_9.out⟩, ⟨by repeat (first | (with_reducible first | exact HB.out | apply below_alloc | apply pw_below_drewN | apply below_drew1) | exact HB.out)⟩⟩
                                          · rw [if_neg c37] at H
                                            exact absurd H (by simp)
                                        · rw [if_neg c36] at H
                                          exact absurd H (by simp)
                                      · rw [if_neg c35] at H
                                        exact absurd H (by simp)
                                    · rw [if_neg c33] at H
                                      have c33b0 : decide (0 < x10_2) = false := decide_eq_false c33
                                      clear c33
                                      by_cases c43 : x10_2 < (x9_2.length : Int)
                                      · rw [if_pos c43] at H
                                        have c43b0 : decide (x10_2 < (x9_2.length : Int)) = true := decide_eq_true c43
                                        clear c43
                                        obtain ⟨y147, hy147⟩ : ∃ y_ : List Bool, y_ = (x9_2.set (x10_2 : Int).toNat false) := ⟨_, rfl⟩
                                        replace H : (decorumref09_glob.l1 k2 a0 a1 a2 x7_1 x8_1 y147 (wrap64 (x10_2 + 1))) = some r := by first | (rw [hy147]; with_reducible exact H) | (have H2_ := (Option.bind_some _ _).symm.trans H; rw [hy147]; with_reducible exact H2_) | (have H2_ := (Option.bind_some _ _).symm.trans H; with_reducible exact H2_) | with_reducible exact H | (rw [hy147]; exact H) | exact H
                                        have Ny147 := Aside0.mk hy147
                                        clear hy147
                                        have H' := Aside0.mk H
                                        clear H
                                        have p22 : 0 ≤ (x8_1 : Int) := of_decide_eq_true (by first | (with_reducible assumption) | assumption)
                                        have q22 : x8_1 < (a0.size : Int) := of_decide_eq_true (by first | (with_reducible assumption) | assumption)
                                        have hx22 := bt_at a0 x8_1
                                        replace p22 := eq_true p22
                                        replace q22 := eq_true q22
                                        obtain ⟨Ao45, co45, eo45⟩ := Kd.R_slice HO_7.out
                                        subst eo45
                                        have p143 : 0 ≤ (x10_2 : Int) := of_decide_eq_true (by first | (with_reducible assumption) | assumption)
                                        have q143 : x10_2 < (x7_1.length : Int) := of_decide_eq_true (by first | (with_reducible assumption) | assumption)
                                        obtain ⟨ad143, e143, hx143_0⟩ := Kd.at_bool (Kd.R_reads' HO_7.out).2.2 x10_2 p143 q143
                                        (try rw [← Nbq26.out] at hx143_0)
                                        cases e143
                                        replace p143 := eq_true p143
                                        replace q143 := eq_true q143
                                        have p44 : 0 ≤ (x10_2 : Int) := of_decide_eq_true (by first | (with_reducible assumption) | assumption)
                                        have q44 : (x10_2 : Int) < ((x9_2.length : Int) : Int) := of_decide_eq_true (by first | (with_reducible assumption) | assumption)
                                        obtain ⟨go44, co44, eo44, gb44, gl44, cl44, HG44⟩ := Kd.R_form HO_9.out (by omega)
                                        (first | cases eo44 | (injection eo44 with ea_ en_ ec_; (first | subst ea_ | (injection ea_ with ea_; subst ea_)); subst ec_; clear en_))
                                        have GB44 := Aside0.mk gb44
                                        have GG44 := Aside0.mk HG44
                                        clear gb44 gl44 HG44
                                        obtain ⟨hx44_0, hf44_0⟩ := Kd.R_celln false HO_9.out (x10_2 : Int) p44 q44
                                        replace p44 := eq_true p44
                                        replace q44 := eq_true q44
                                        have HP46 := Kd.R_putg HO_9.out (x10_2 : Int) false
                                        go_wp2_with (first | ((with_reducible refine gate_store (t := 4) (p := 55) rfl ?_); (try (rw [drewN_self wr]; generalize hq_ : World.drewN wr _ = wr; have n0_ := Aside0.mk (Kd.R_at hq_ HO_7.out); have n1_ := Aside0.mk (Kd.R_at hq_ HO_9.out); have n2_ := Aside0.mk (below_at hq_ HB.out); have n3_ : wr.cell? ⟨go44, (x10_2 : Int).toNat, none⟩ = some (.bool (rdOf false x9_2 x10_2)) := (by rw [← hq_]; exact hx44_0); have n4_ : wr.frozen? ⟨go44, (x10_2 : Int).toNat, none⟩ = false := (by rw [← hq_]; exact hf44_0); clear hq_ HO_7 HO_9 HB; have HO_7 := n0_; have HO_9 := n1_; have HB := n2_; clear n0_ n1_ n2_; (try (have HP46 := Kd.R_putg HO_9.out (x10_2 : Int) false)))); refine store_event (t := 4) (p := 55) (v := ?vo_w47) (w1 := (wr.setCell ⟨go44, (x10_2 : Int).toNat, none⟩ (.bool false))) ?hg ?ho ?hn ?hr ?_; (case ho => rfl); (case hg => rfl); (case hn => rfl); (case hr => first | (go_simp; done) | (go_simp; rfl)); intro w47 hw; have hg : wr.grownBy w47 (some go44) := (by rw [hw]; exact HP46.2); have hp_ : Kd.R Kd.bool 4 w47 w.heap.size (fun k_ => some k_ ≠ (.slice (some ad143) x7_1.length co45 : Value).ownBlock) (.slice (some ⟨go44, 0, none⟩) x9_2.length co44) y147 := (by rw [hw, Ny147.out]; exact HP46.1); clear HP46; have n0_ := Aside0.mk (Kd.R_after (v := (.slice (some ⟨go44, 0, none⟩) x9_2.length co44)) (v1 := (.slice (some ⟨go44, 0, none⟩) x9_2.length co44)) (ok := (fun _ => True)) (by (with_reducible repeat (first | apply Kd.R_alloc | apply Kd.R_drewN | apply Kd.R_drew)); exact Kd.R_mono HO_7.out (fun _ hk => ⟨trivial, hk⟩)) hg (.inl rfl)); have n1_ := Aside0.mk (hp_); have n2_ := Aside0.mk ((by rw [hw]; exact below_set (HB.out) GB44.out : Below w.heap.size w w47)); clear HO_7; clear HO_9; clear HB; have HO_7 := n0_; have HO_9 := n1_; have HB := n2_; clear n0_ n1_ n2_; clear hg hw hp_))
                                        repeat (go_quiet (first | ((with_reducible refine gate_store (t := 4) (p := 55) rfl ?_); (try (rw [drewN_self wr]; generalize hq_ : World.drewN wr _ = wr; have n0_ := Aside0.mk (Kd.R_at hq_ HO_7.out); have n1_ := Aside0.mk (Kd.R_at hq_ HO_9.out); have n2_ := Aside0.mk (below_at hq_ HB.out); have n3_ : wr.cell? ⟨go44, (x10_2 : Int).toNat, none⟩ = some (.bool (rdOf false x9_2 x10_2)) := (by rw [← hq_]; exact hx44_0); have n4_ : wr.frozen? ⟨go44, (x10_2 : Int).toNat, none⟩ = false := (by rw [← hq_]; exact hf44_0); clear hq_ HO_7 HO_9 HB; have HO_7 := n0_; have HO_9 := n1_; have HB := n2_; clear n0_ n1_ n2_; (try (have HP46 := Kd.R_putg HO_9.out (x10_2 : Int) false)))); refine store_event (t := 4) (p := 55) (v := ?vo_w47) (w1 := (wr.setCell ⟨go44, (x10_2 : Int).toNat, none⟩ (.bool false))) ?hg ?ho ?hn ?hr ?_; (case ho => rfl); (case hg => rfl); (case hn => rfl); (case hr => first | (go_simp; done) | (go_simp; rfl)); intro w47 hw; have hg : wr.grownBy w47 (some go44) := (by rw [hw]; exact HP46.2); have hp_ : Kd.R Kd.bool 4 w47 w.heap.size (fun k_ => some k_ ≠ (.slice (some ad143) x7_1.length co45 : Value).ownBlock) (.slice (some ⟨go44, 0, none⟩) x9_2.length co44) y147 := (by rw [hw, Ny147.out]; exact HP46.1); clear HP46; have n0_ := Aside0.mk (Kd.R_after (v := (.slice (some ⟨go44, 0, none⟩) x9_2.length co44)) (v1 := (.slice (some ⟨go44, 0, none⟩) x9_2.length co44)) (ok := (fun _ => True)) (by (with_reducible repeat (first | apply Kd.R_alloc | apply Kd.R_drewN | apply Kd.R_drew)); exact Kd.R_mono HO_7.out (fun _ hk => ⟨trivial, hk⟩)) hg (.inl rfl)); have n1_ := Aside0.mk (hp_); have n2_ := Aside0.mk ((by rw [hw]; exact below_set (HB.out) GB44.out : Below w.heap.size w w47)); clear HO_7; clear HO_9; clear HB; have HO_7 := n0_; have HO_9 := n1_; have HB := n2_; clear n0_ n1_ n2_; clear hg hw hp_)); try go_wp2_with (first | ((with_reducible refine gate_store (t := 4) (p := 55) rfl ?_); (try (rw [drewN_self wr]; generalize hq_ : World.drewN wr _ = wr; have n0_ := Aside0.mk (Kd.R_at hq_ HO_7.out); have n1_ := Aside0.mk (Kd.R_at hq_ HO_9.out); have n2_ := Aside0.mk (below_at hq_ HB.out); have n3_ : wr.cell? ⟨go44, (x10_2 : Int).toNat, none⟩ = some (.bool (rdOf false x9_2 x10_2)) := (by rw [← hq_]; exact hx44_0); have n4_ : wr.frozen? ⟨go44, (x10_2 : Int).toNat, none⟩ = false := (by rw [← hq_]; exact hf44_0); clear hq_ HO_7 HO_9 HB; have HO_7 := n0_; have HO_9 := n1_; have HB := n2_; clear n0_ n1_ n2_; (try (have HP46 := Kd.R_putg HO_9.out (x10_2 : Int) false)))); refine store_event (t := 4) (p := 55) (v := ?vo_w47) (w1 := (wr.setCell ⟨go44, (x10_2 : Int).toNat, none⟩ (.bool false))) ?hg ?ho ?hn ?hr ?_; (case ho => rfl); (case hg => rfl); (case hn => rfl); (case hr => first | (go_simp; done) | (go_simp; rfl)); intro w47 hw; have hg : wr.grownBy w47 (some go44) := (by rw [hw]; exact HP46.2); have hp_ : Kd.R Kd.bool 4 w47 w.heap.size (fun k_ => some k_ ≠ (.slice (some ad143) x7_1.length co45 : Value).ownBlock) (.slice (some ⟨go44, 0, none⟩) x9_2.length co44) y147 := (by rw [hw, Ny147.out]; exact HP46.1); clear HP46; have n0_ := Aside0.mk (Kd.R_after (v := (.slice (some ⟨go44, 0, none⟩) x9_2.length co44)) (v1 := (.slice (some ⟨go44, 0, none⟩) x9_2.length co44)) (ok := (fun _ => True)) (by (with_reducible repeat (first | apply Kd.R_alloc | apply Kd.R_drewN | apply Kd.R_drew)); exact Kd.R_mono HO_7.out (fun _ hk => ⟨trivial, hk⟩)) hg (.inl rfl)); have n1_ := Aside0.mk (hp_); have n2_ := Aside0.mk ((by rw [hw]; exact below_set (HB.out) GB44.out : Below w.heap.size w w47)); clear HO_7; clear HO_9; clear HB; have HO_7 := n0_; have HO_9 := n1_; have HB := n2_; clear n0_ n1_ n2_; clear hg hw hp_)))
                                        go_roundg k2
                                        case measure => have := HK1.out; have := HK2.out; omega
                                        case rel => exact ⟨(y147), (wrap64 (x10_2 + 1)), (by first | rfl | (simp; done) | (simp [*]; done)), H', ⟨by have := HK1.out; have := HK2.out; omega⟩, ⟨by (with_reducible repeat (first | apply Kd.R_alloc | apply Kd.R_drewN | apply Kd.R_drew)); exact Kd.R_mono HO_7.out (fun _ hk => hk.2)⟩, ⟨by (with_reducible repeat (first | apply Kd.R_alloc | apply Kd.R_drewN | apply Kd.R_drew)); exact HO_9.out⟩, ⟨by repeat (first | (with_reducible first | exact HB.out | apply below_alloc | apply pw_below_drewN | apply below_drew1) | exact HB.out)⟩⟩
                                      · rw [if_neg c43] at H
                                        exact absurd H (by simp)
                                · rw [if_neg c25] at H
                                  exact absurd H (by simp)
                              · rw [if_neg c24] at H
                                exact absurd H (by simp)
                            · rw [if_neg c23] at H
                              have c23b0 : ((bt a0 x8_1) == 42) = false := beq_eq_false_iff_ne.mpr c23
                              have c23b1 : ((bt a0 x8_1) != 42) = true := bne_iff_ne.mpr c23
                              by_cases c48 : x10_2 > 0
                              · rw [if_pos c48] at H
                                have c48b0 : decide (0 < x10_2) = true := decide_eq_true c48
                                clear c48
                                obtain ⟨ji49, hji49⟩ : ∃ j_ : Int, (wrap64 (x10_2 - 1)) = j_ := ⟨_, rfl⟩
                                replace H : (if 0 ≤ (ji49) then (if (ji49) < (x7_1.length : Int) then (if rdOf false x7_1 (ji49) = true then (if (ji49) < (a1.size : Int) then (if (bt a1 (ji49)) = (bt a0 x8_1) then (if 0 ≤ x10_2 then (if x10_2 < (x9_2.length : Int) then (decorumref09_glob.l1 k2 a0 a1 a2 x7_1 x8_1 (x9_2.set (x10_2 : Int).toNat true) (wrap64 (x10_2 + 1))) else (none)) else (none)) else (decorumref09_glob.l1 k2 a0 a1 a2 x7_1 x8_1 x9_2 (wrap64 (x10_2 + 1)))) else (none)) else (decorumref09_glob.l1 k2 a0 a1 a2 x7_1 x8_1 x9_2 (wrap64 (x10_2 + 1)))) else (none)) else (none)) = some r := by first | (rw [hji49] at H; exact H) | (simp only [hji49] at H ⊢; exact H)
                                have hji49w : (IntKind.i64.wrap (x10_2 - 1)) = ji49 := (i64_w _).trans hji49
                                by_cases c50 : 0 ≤ (ji49)
                                · rw [if_pos c50] at H
                                  have c50b0 : decide (0 ≤ (ji49)) = true := decide_eq_true c50
                                  clear c50
                                  by_cases c51 : (ji49) < (x7_1.length : Int)
                                  · rw [if_pos c51] at H
                                    have c51b0 : decide ((ji49) < (x7_1.length : Int)) = true := decide_eq_true c51
                                    clear c51
                                    obtain ⟨bq52, hbq52⟩ : ∃ b_ : Bool, b_ = (rdOf false x7_1 (ji49)) := ⟨_, rfl⟩
                                    replace H : (if bq52 = true then (if (ji49) < (a1.size : Int) then (if (bt a1 (ji49)) = (bt a0 x8_1) then (if 0 ≤ x10_2 then (if x10_2 < (x9_2.length : Int) then (decorumref09_glob.l1 k2 a0 a1 a2 x7_1 x8_1 (x9_2.set (x10_2 : Int).toNat true) (wrap64 (x10_2 + 1))) else (none)) else (none)) else (decorumref09_glob.l1 k2 a0 a1 a2 x7_1 x8_1 x9_2 (wrap64 (x10_2 + 1)))) else (none)) else (decorumref09_glob.l1 k2 a0 a1 a2 x7_1 x8_1 x9_2 (wrap64 (x10_2 + 1)))) = some r := by rw [← hbq52] at H; exact H
                                    have Nbq52 := Aside0.mk hbq52
                                    clear hbq52
                                    by_cases c53 : bq52 = true
                                    · subst c53
                                      have H1 : (if (ji49) < (a1.size : Int) then (if (bt a1 (ji49)) = (bt a0 x8_1) then (if 0 ≤ x10_2 then (if x10_2 < (x9_2.length : Int) then (decorumref09_glob.l1 k2 a0 a1 a2 x7_1 x8_1 (x9_2.set (x10_2 : Int).toNat true) (wrap64 (x10_2 + 1))) else (none)) else (none)) else (decorumref09_glob.l1 k2 a0 a1 a2 x7_1 x8_1 x9_2 (wrap64 (x10_2 + 1)))) else (none)) = some r := by rw [if_pos rfl] at H; exact H
                                      clear H
                                      have H := H1
                                      clear H1
                                      by_cases c54 : (ji49) < (a1.size : Int)
                                      · rw [if_pos c54] at H
                                        have c54b0 : decide ((ji49) < (a1.size : Int)) = true := decide_eq_true c54
                                        clear c54
                                        by_cases c57 : (bt a1 (ji49)) = (bt a0 x8_1)
                                        · rw [if_pos c57] at H
                                          have c57b0 : ((bt a1 (ji49)) == (bt a0 x8_1)) = true := beq_iff_eq.mpr c57
                                          have c57b1 : ((bt a1 (ji49)) != (bt a0 x8_1)) = false := bne_eq_false_iff_eq.mpr c57
                                          clear c57
                                          by_cases c58 : 0 ≤ x10_2
                                          · rw [if_pos c58] at H
                                            have c58b0 : decide (0 ≤ x10_2) = true := decide_eq_true c58
                                            clear c58
                                            by_cases c59 : x10_2 < (x9_2.length : Int)
                                            · rw [if_pos c59] at H
                                              have c59b0 : decide (x10_2 < (x9_2.length : Int)) = true := decide_eq_true c59
                                              clear c59
                                              obtain ⟨y149, hy149⟩ : ∃ y_ : List Bool, y_ = (x9_2.set (x10_2 : Int).toNat true) := ⟨_, rfl⟩
                                              replace H : (decorumref09_glob.l1 k2 a0 a1 a2 x7_1 x8_1 y149 (wrap64 (x10_2 + 1))) = some r := by first | (rw [hy149]; with_reducible exact H) | (have H2_ := (Option.bind_some _ _).symm.trans H; rw [hy149]; with_reducible exact H2_) | (have H2_ := (Option.bind_some _ _).symm.trans H; with_reducible exact H2_) | with_reducible exact H | (rw [hy149]; exact H) | exact H
                                              have Ny149 := Aside0.mk hy149
                                              clear hy149
                                              have H' := Aside0.mk H
                                              clear H
                                              have p22 : 0 ≤ (x8_1 : Int) := of_decide_eq_true (by first | (with_reducible assumption) | assumption)
                                              have q22 : x8_1 < (a0.size : Int) := of_decide_eq_true (by first | (with_reducible assumption) | assumption)
                                              have hx22 := bt_at a0 x8_1
                                              replace p22 := eq_true p22
                                              replace q22 := eq_true q22
                                              obtain ⟨Ao61, co61, eo61⟩ := Kd.R_slice HO_7.out
                                              subst eo61
                                              have p148 : 0 ≤ ((ji49) : Int) := of_decide_eq_true (by first | (with_reducible assumption) | assumption)
                                              have q148 : (ji49) < (x7_1.length : Int) := of_decide_eq_true (by first | (with_reducible assumption) | assumption)
                                              obtain ⟨ad148, e148, hx148_0⟩ := Kd.at_bool (Kd.R_reads' HO_7.out).2.2 (ji49) p148 q148
                                              (try rw [← Nbq52.out] at hx148_0)
                                              cases e148
                                              replace p148 := eq_true p148
                                              replace q148 := eq_true q148
                                              have p55 : 0 ≤ ((ji49) : Int) := of_decide_eq_true (by first | (with_reducible assumption) | assumption)
                                              have q55 : (ji49) < (a1.size : Int) := of_decide_eq_true (by first | (with_reducible assumption) | assumption)
                                              have hx55 := bt_at a1 (ji49)
                                              replace p55 := eq_true p55
                                              replace q55 := eq_true q55
                                              have p56 : 0 ≤ (x8_1 : Int) := of_decide_eq_true (by first | (with_reducible assumption) | assumption)
                                              have q56 : x8_1 < (a0.size : Int) := of_decide_eq_true (by first | (with_reducible assumption) | assumption)
                                              have hx56 := bt_at a0 x8_1
                                              replace p56 := eq_true p56
                                              replace q56 := eq_true q56
                                              have p60 : 0 ≤ (x10_2 : Int) := of_decide_eq_true (by first | (with_reducible assumption) | assumption)
                                              have q60 : (x10_2 : Int) < ((x9_2.length : Int) : Int) := of_decide_eq_true (by first | (with_reducible assumption) | assumption)
                                              obtain ⟨go60, co60, eo60, gb60, gl60, cl60, HG60⟩ := Kd.R_form HO_9.out (by omega)
                                              (first | cases eo60 | (injection eo60 with ea_ en_ ec_; (first | subst ea_ | (injection ea_ with ea_; subst ea_)); subst ec_; clear en_))
                                              have GB60 := Aside0.mk gb60
                                              have GG60 := Aside0.mk HG60
                                              clear gb60 gl60 HG60
                                              obtain ⟨hx60_0, hf60_0⟩ := Kd.R_celln false HO_9.out (x10_2 : Int) p60 q60
                                              replace p60 := eq_true p60
                                              replace q60 := eq_true q60
                                              have HP62 := Kd.R_putg HO_9.out (x10_2 : Int) true
                                              go_wp2_with (first | ((with_reducible refine gate_store (t := 4) (p := 77) rfl ?_); (try (rw [drewN_self wr]; generalize hq_ : World.drewN wr _ = wr; have n0_ := Aside0.mk (Kd.R_at hq_ HO_7.out); have n1_ := Aside0.mk (Kd.R_at hq_ HO_9.out); have n2_ := Aside0.mk (below_at hq_ HB.out); have n3_ : wr.cell? ⟨go60, (x10_2 : Int).toNat, none⟩ = some (.bool (rdOf false x9_2 x10_2)) := (by rw [← hq_]; exact hx60_0); have n4_ : wr.frozen? ⟨go60, (x10_2 : Int).toNat, none⟩ = false := (by rw [← hq_]; exact hf60_0); clear hq_ HO_7 HO_9 HB; have HO_7 := n0_; have HO_9 := n1_; have HB := n2_; clear n0_ n1_ n2_; (try (have HP62 := Kd.R_putg HO_9.out (x10_2 : Int) true)))); refine store_event (t := 4) (p := 77) (v := ?vo_w63) (w1 := (wr.setCell ⟨go60, (x10_2 : Int).toNat, none⟩ (.bool true))) ?hg ?ho ?hn ?hr ?_; (case ho => rfl); (case hg => rfl); (case hn => rfl); (case hr => first | (go_simp; done) | (go_simp; rfl)); intro w63 hw; have hg : wr.grownBy w63 (some go60) := (by rw [hw]; exact HP62.2); have hp_ : Kd.R Kd.bool 4 w63 w.heap.size (fun k_ => some k_ ≠ (.slice (some ad148) x7_1.length co61 : Value).ownBlock) (.slice (some ⟨go60, 0, none⟩) x9_2.length co60) y149 := (by rw [hw, Ny149.out]; exact HP62.1); clear HP62; have n0_ := Aside0.mk (Kd.R_after (v := (.slice (some ⟨go60, 0, none⟩) x9_2.length co60)) (v1 := (.slice (some ⟨go60, 0, none⟩) x9_2.length co60)) (ok := (fun _ => True)) (by (with_reducible repeat (first | apply Kd.R_alloc | apply Kd.R_drewN | apply Kd.R_drew)); exact Kd.R_mono HO_7.out (fun _ hk => ⟨trivial, hk⟩)) hg (.inl rfl)); have n1_ := Aside0.mk (hp_); have n2_ := Aside0.mk ((by rw [hw]; exact below_set (HB.out) GB60.out : Below w.heap.size w w63)); clear HO_7; clear HO_9; clear HB; have HO_7 := n0_; have HO_9 := n1_; have HB := n2_; clear n0_ n1_ n2_; clear hg hw hp_))
                                              repeat (go_quiet (first | ((with_reducible refine gate_store (t := 4) (p := 77) rfl ?_); (try (rw [drewN_self wr]; generalize hq_ : World.drewN wr _ = wr; have n0_ := Aside0.mk (Kd.R_at hq_ HO_7.out); have n1_ := Aside0.mk (Kd.R_at hq_ HO_9.out); have n2_ := Aside0.mk (below_at hq_ HB.out); have n3_ : wr.cell? ⟨go60, (x10_2 : Int).toNat, none⟩ = some (.bool (rdOf false x9_2 x10_2)) := (by rw [← hq_]; exact hx60_0); have n4_ : wr.frozen? ⟨go60, (x10_2 : Int).toNat, none⟩ = false := (by rw [← hq_]; exact hf60_0); clear hq_ HO_7 HO_9 HB; have HO_7 := n0_; have HO_9 := n1_; have HB := n2_; clear n0_ n1_ n2_; (try (have HP62 := Kd.R_putg HO_9.out (x10_2 : Int) true)))); refine store_event (t := 4) (p := 77) (v := ?vo_w63) (w1 := (wr.setCell ⟨go60, (x10_2 : Int).toNat, none⟩ (.bool true))) ?hg ?ho ?hn ?hr ?_; (case ho => rfl); (case hg => rfl); (case hn => rfl); (case hr => first | (go_simp; done) | (go_simp; rfl)); intro w63 hw; have hg : wr.grownBy w63 (some go60) := (by rw [hw]; exact HP62.2); have hp_ : Kd.R Kd.bool 4 w63 w.heap.size (fun k_ => some k_ ≠ (.slice (some ad148) x7_1.length co61 : Value).ownBlock) (.slice (some ⟨go60, 0, none⟩) x9_2.length co60) y149 := (by rw [hw, Ny149.out]; exact HP62.1); clear HP62; have n0_ := Aside0.mk (Kd.R_after (v := (.slice (some ⟨go60, 0, none⟩) x9_2.length co60)) (v1 := (.slice (some ⟨go60, 0, none⟩) x9_2.length co60)) (ok := (fun _ => True)) (by (with_reducible repeat (first | apply Kd.R_alloc | apply Kd.R_drewN | apply Kd.R_drew)); exact Kd.R_mono HO_7.out (fun _ hk => ⟨trivial, hk⟩)) hg (.inl rfl)); have n1_ := Aside0.mk (hp_); have n2_ := Aside0.mk ((by rw [hw]; exact below_set (HB.out) GB60.out : Below w.heap.size w w63)); clear HO_7; clear HO_9; clear HB; have HO_7 := n0_; have HO_9 := n1_; have HB := n2_; clear n0_ n1_ n2_; clear hg hw hp_)); try go_wp2_with (first | ((with_reducible refine gate_store (t := 4) (p := 77) rfl ?_); (try (rw [drewN_self wr]; generalize hq_ : World.drewN wr _ = wr; have n0_ := Aside0.mk (Kd.R_at hq_ HO_7.out); have n1_ := Aside0.mk (Kd.R_at hq_ HO_9.out); have n2_ := Aside0.mk (below_at hq_ HB.out); have n3_ : wr.cell? ⟨go60, (x10_2 : Int).toNat, none⟩ = some (.bool (rdOf false x9_2 x10_2)) := (by rw [← hq_]; exact hx60_0); have n4_ : wr.frozen? ⟨go60, (x10_2 : Int).toNat, none⟩ = false := (by rw [← hq_]; exact hf60_0); clear hq_ HO_7 HO_9 HB; have HO_7 := n0_; have HO_9 := n1_; have HB := n2_; clear n0_ n1_ n2_; (try (have HP62 := Kd.R_putg HO_9.out (x10_2 : Int) true)))); refine store_event (t := 4) (p := 77) (v := ?vo_w63) (w1 := (wr.setCell ⟨go60, (x10_2 : Int).toNat, none⟩ (.bool true))) ?hg ?ho ?hn ?hr ?_; (case ho => rfl); (case hg => rfl); (case hn => rfl); (case hr => first | (go_simp; done) | (go_simp; rfl)); intro w63 hw; have hg : wr.grownBy w63 (some go60) := (by rw [hw]; exact HP62.2); have hp_ : Kd.R Kd.bool 4 w63 w.heap.size (fun k_ => some k_ ≠ (.slice (some ad148) x7_1.length co61 : Value).ownBlock) (.slice (some ⟨go60, 0, none⟩) x9_2.length co60) y149 := (by rw [hw, Ny149.out]; exact HP62.1); clear HP62; have n0_ := Aside0.mk (Kd.R_after (v := (.slice (some ⟨go60, 0, none⟩) x9_2.length co60)) (v1 := (.slice (some ⟨go60, 0, none⟩) x9_2.length co60)) (ok := (fun _ => True)) (by (with_reducible repeat (first | apply Kd.R_alloc | apply Kd.R_drewN | apply Kd.R_drew)); exact Kd.R_mono HO_7.out (fun _ hk => ⟨trivial, hk⟩)) hg (.inl rfl)); have n1_ := Aside0.mk (hp_); have n2_ := Aside0.mk ((by rw [hw]; exact below_set (HB.out) GB60.out : Below w.heap.size w w63)); clear HO_7; clear HO_9; clear HB; have HO_7 := n0_; have HO_9 := n1_; have HB := n2_; clear n0_ n1_ n2_; clear hg hw hp_)))
                                              go_roundg k2
                                              case measure => have := HK1.out; have := HK2.out; omega
                                              case rel => exact ⟨(y149), (wrap64 (x10_2 + 1)), (by first | rfl | (simp; done) | (simp [*]; done)), H', ⟨by have := HK1.out; have := HK2.out; omega⟩, ⟨by (with_reducible repeat (first | apply Kd.R_alloc | apply Kd.R_drewN | apply Kd.R_drew)); exact Kd.R_mono HO_7.out (fun _ hk => hk.2)⟩, ⟨by (with_reducible repeat (first | apply Kd.R_alloc | apply Kd.R_drewN | apply Kd.R_drew)); exact HO_9.out⟩, ⟨by repeat (first | (with_reducible first | exact HB.out | apply below_alloc | apply pw_below_drewN | apply below_drew1) | exact HB.out)⟩⟩
                                            · rw [if_neg c59] at H
                                              exact absurd H (by simp)
                                          · rw [if_neg c58] at H
                                            exact absurd H (by simp)
                                        · rw [if_neg c57] at H
                                          have c57b0 : ((bt a1 (ji49)) == (bt a0 x8_1)) = false := beq_eq_false_iff_ne.mpr c57
                                          have c57b1 : ((bt a1 (ji49)) != (bt a0 x8_1)) = true := bne_iff_ne.mpr c57
                                          have H' := Aside0.mk H
                                          clear H
                                          have p22 : 0 ≤ (x8_1 : Int) := of_decide_eq_true (by first | (with_reducible assumption) | assumption)
                                          have q22 : x8_1 < (a0.size : Int) := of_decide_eq_true (by first | (with_reducible assumption) | assumption)
                                          have hx22 := bt_at a0 x8_1
                                          replace p22 := eq_true p22
                                          replace q22 := eq_true q22
                                          obtain ⟨Ao64, co64, eo64⟩ := Kd.R_slice HO_7.out
                                          subst eo64
                                          have p148 : 0 ≤ ((ji49) : Int) := of_decide_eq_true (by first | (with_reducible assumption) | assumption)
                                          have q148 : (ji49) < (x7_1.length : Int) := of_decide_eq_true (by first | (with_reducible assumption) | assumption)
                                          obtain ⟨ad148, e148, hx148_0⟩ := Kd.at_bool (Kd.R_reads' HO_7.out).2.2 (ji49) p148 q148
                                          (try rw [← Nbq52.out] at hx148_0)
                                          cases e148
                                          replace p148 := eq_true p148
                                          replace q148 := eq_true q148
                                          have p55 : 0 ≤ ((ji49) : Int) := of_decide_eq_true (by first | (with_reducible assumption) | assumption)
                                          have q55 : (ji49) < (a1.size : Int) := of_decide_eq_true (by first | (with_reducible assumption) | assumption)
                                          have hx55 := bt_at a1 (ji49)
                                          replace p55 := eq_true p55
                                          replace q55 := eq_true q55
                                          have p56 : 0 ≤ (x8_1 : Int) := of_decide_eq_true (by first | (with_reducible assumption) | assumption)
                                          have q56 : x8_1 < (a0.size : Int) := of_decide_eq_true (by first | (with_reducible assumption) | assumption)
                                          have hx56 := bt_at a0 x8_1
                                          replace p56 := eq_true p56
                                          replace q56 := eq_true q56
                                          go_wp2
                                          repeat (go_quiet (fail); try go_wp2)
                                          go_roundg k2
                                          case measure => have := HK1.out; have := HK2.out; omega
                                          case rel => exact ⟨(x9_2), (wrap64 (x10_2 + 1)), (by first | rfl | (simp; done) | (simp [*]; done)), H', ⟨by have := HK1.out; have := HK2.out; omega⟩, ⟨by (with_reducible repeat (first | apply Kd.R_alloc | apply Kd.R_drewN | apply Kd.R_drew)); exact HO_7.out⟩, ⟨by (with_reducible repeat (first | apply Kd.R_alloc | apply Kd.R_drewN | apply Kd.R_drew)); exact HO_9.out⟩, ⟨by repeat (first | (with_reducible first | exact HB.out | apply below_alloc | apply pw_below_drewN | apply below_drew1) | exact HB.out)⟩⟩
                                      · rw [if_neg c54] at H
                                        exact absurd H (by simp)
                                    · replace c53 := Bool.eq_false_iff.mpr c53
                                      subst c53
                                      have H1 : (decorumref09_glob.l1 k2 a0 a1 a2 x7_1 x8_1 x9_2 (wrap64 (x10_2 + 1))) = some r := by rw [if_neg (show ¬ (false = true) by decide)] at H; exact H
                                      clear H
                                      have H := H1
                                      clear H1
                                      have H' := Aside0.mk H
                                      clear H
                                      have p22 : 0 ≤ (x8_1 : Int) := of_decide_eq_true (by first | (with_reducible assumption) | assumption)
                                      have q22 : x8_1 < (a0.size : Int) := of_decide_eq_true (by first | (with_reducible assumption) | assumption)
                                      have hx22 := bt_at a0 x8_1
                                      replace p22 := eq_true p22
                                      replace q22 := eq_true q22
                                      obtain ⟨Ao65, co65, eo65⟩ := Kd.R_slice HO_7.out
                                      subst eo65
                                      have p148 : 0 ≤ ((ji49) : Int) := of_decide_eq_true (by first | (with_reducible assumption) | assumption)
                                      have q148 : (ji49) < (x7_1.length : Int) := of_decide_eq_true (by first | (with_reducible assumption) | assumption)
                                      obtain ⟨ad148, e148, hx148_0⟩ := Kd.at_bool (Kd.R_reads' HO_7.out).2.2 (ji49) p148 q148
                                      (try rw [← Nbq52.out] at hx148_0)
                                      cases e148
                                      replace p148 := eq_true p148
                                      replace q148 := eq_true q148
                                      go_wp2
                                      repeat (go_quiet (fail); try go_wp2)
                                      go_roundg k2
                                      case measure => have := HK1.out; have := HK2.out; omega
                                      case rel => exact ⟨(x9_2), (wrap64 (x10_2 + 1)), (by first | rfl | (simp; done) | (simp [*]; done)), H', ⟨by have := HK1.out; have := HK2.out; omega⟩, ⟨by (with_reducible repeat (first | apply Kd.R_alloc | apply Kd.R_drewN | apply Kd.R_drew)); exact HO_7.out⟩, ⟨by (with_reducible repeat (first | apply Kd.R_alloc | apply Kd.R_drewN | apply Kd.R_drew)); exact HO_9.out⟩, ⟨by repeat (first | (with_reducible first | exact HB.out | apply below_alloc | apply pw_below_drewN | apply below_drew1) | exact HB.out)⟩⟩
                                  · rw [if_neg c51] at H
                                    exact absurd H (by simp)
                                · rw [if_neg c50] at H
                                  exact absurd H (by simp)
                              · rw [if_neg c48] at H
                                have c48b0 : decide (0 < x10_2) = false := decide_eq_false c48
                                clear c48
                                have H' := Aside0.mk H
                                clear H
                                have p22 : 0 ≤ (x8_1 : Int) := of_decide_eq_true (by first | (with_reducible assumption) | assumption)
                                have q22 : x8_1 < (a0.size : Int) := of_decide_eq_true (by first | (with_reducible assumption) | assumption)
                                have hx22 := bt_at a0 x8_1
                                replace p22 := eq_true p22
                                replace q22 := eq_true q22
                                go_wp2
                                repeat (go_quiet (fail); try go_wp2)
                                go_roundg k2
                                case measure => have := HK1.out; have := HK2.out; omega
                                case rel => exact ⟨(x9_2), (wrap64 (x10_2 + 1)), (by first | rfl | (simp; done) | (simp [*]; done)), H', ⟨by have := HK1.out; have := HK2.out; omega⟩, ⟨by (with_reducible repeat (first | apply Kd.R_alloc | apply Kd.R_drewN | apply Kd.R_drew)); exact HO_7.out⟩, ⟨by (with_reducible repeat (first | apply Kd.R_alloc | apply Kd.R_drewN | apply Kd.R_drew)); exact HO_9.out⟩, ⟨by repeat (first | (with_reducible first | exact HB.out | apply below_alloc | apply pw_below_drewN | apply below_drew1) | exact HB.out)⟩⟩
                          · rw [if_neg c21] at H
                            exact absurd H (by simp)
                        · rw [if_neg c20] at H
                          exact absurd H (by simp)
                      · rw [if_neg c19] at H
                        have c19b0 : decide (x10_2 ≤ (a1.size : Int)) = false := decide_eq_false c19
                        clear c19
                        have H' := Aside0.mk H
                        clear H
                        go_wp2
                        repeat (go_quiet (fail); try go_wp2)
                        go_roundg k2
                        case measure => have := HK1.out; have := HK2.out; omega
                        case rel => exact ⟨(x9_2), (wrap64 (x8_1 + 1)), (by first | rfl | (simp; done) | (simp [*]; done)), H', ⟨by have := HK1.out; have := HK2.out; omega⟩, ⟨by (with_reducible repeat (first | apply Kd.R_alloc | apply Kd.R_drewN | apply Kd.R_drew)); exact Kd.R_mono HO_9.out (fun _ hk => trivial)⟩, ⟨by repeat (first | (with_reducible first | exact HB.out | apply below_alloc | apply pw_below_drewN | apply below_drew1) | exact HB.out)⟩⟩
                · rw [if_neg c16] at H
                  exact absurd H (by simp)
              · rw [if_neg c15] at H
                exact absurd H (by simp)
            · rw [if_neg c13] at H
              have c13b0 : decide (x8_1 < (a0.size : Int)) = false := decide_eq_false c13
              clear c13
              by_cases c66 : a2 = true
              · subst c66
                have H1 : (if 0 ≤ (a1.size : Int) then (if (a1.size : Int) < (x7_1.length : Int) then (some (rdOf false x7_1 (a1.size : Int))) else (none)) else (none)) = some r := by rw [if_pos rfl] at H; exact H
                clear H
                have H := H1
                clear H1
                by_cases c67 : 0 ≤ (a1.size : Int)
                · rw [if_pos c67] at H
                  have c67b0 : decide (0 ≤ (a1.size : Int)) = true := decide_eq_true c67
                  have c67b1 : decide (0 ≤ a1.size) = true := decide_eq_true (by omega)
                  clear c67
                  by_cases c68 : (a1.size : Int) < (x7_1.length : Int)
                  · rw [if_pos c68] at H
                    have c68b0 : decide ((a1.size : Int) < (x7_1.length : Int)) = true := decide_eq_true c68
                    have c68b1 : decide (a1.size < x7_1.length) = true := decide_eq_true (Int.ofNat_lt.mp c68)
                    clear c68
                    obtain rfl := Option.some.inj H
                    obtain ⟨Ao69, co69, eo69⟩ := Kd.R_slice HO_7.out
                    subst eo69
                    have p150 : 0 ≤ ((a1.size : Int) : Int) := of_decide_eq_true (by first | (with_reducible assumption) | assumption)
                    have q150 : (a1.size : Int) < (x7_1.length : Int) := of_decide_eq_true (by first | (with_reducible assumption) | assumption)
                    obtain ⟨ad150, e150, hx150_0⟩ := Kd.at_bool (Kd.R_reads' HO_7.out).2.2 (a1.size : Int) p150 q150; have hx150_z := hx150_0; rw [Int.toNat_natCast] at hx150_z
                    cases e150
                    replace p150 := eq_true p150
                    replace q150 := eq_true q150
                    go_wp2
                    repeat (go_quiet (fail); try go_wp2)
                    go_ret
                    exact ⟨by first | rfl | (simp [errW_none, errW_some] <;> rfl) | (simp only [← hji4]; first | rfl | (simp [errW_none, errW_some] <;> rfl)) | (simp [*, errW_none, errW_some] <;> rfl) | (simp [wrap64]; done), by repeat (first | (with_reducible first | exact HB.out | apply below_alloc | apply pw_below_drewN | apply below_drew1) | exact HB.out)⟩
                  · rw [if_neg c68] at H
                    exact absurd H (by simp)
                · rw [if_neg c67] at H
                  exact absurd H (by simp)
              · replace c66 := Bool.eq_false_iff.mpr c66
                subst c66
                have H1 : (decorumref09_glob.l2 k1 a1 x7_1 0) = some r := by rw [if_neg (show ¬ (false = true) by decide)] at H; exact H
                clear H
                have H := H1
                clear H1
                have H' := Aside0.mk H
                clear H
                go_wp2
                repeat (go_quiet (fail); try go_wp2)
                go_loopg [11] k1 (fun kq v11 w' => ∃ (x11_2 : Int), v11 = .int .i64 x11_2 ∧ Aside0 (decorumref09_glob.l2 kq a1 x7_1 x11_2 = some r) ∧ Aside0 (kq ≤ k1) ∧ Aside0 (Kd.R Kd.bool 4 w' w.heap.size (fun _ => True) u7 x7_1) ∧ Aside0 (Below w.heap.size w w'))
                case atStart => exact ⟨(0), (by first | rfl | (simp; done) | (simp [*]; done)), H', ⟨Nat.le_refl _⟩, ⟨by (with_reducible repeat (first | apply Kd.R_alloc | apply Kd.R_drewN | apply Kd.R_drew)); exact HO_7.out⟩, ⟨by repeat (first | (with_reducible first | exact HB.out | apply below_alloc | apply pw_below_drewN | apply below_drew1) | exact HB.out)⟩⟩
                case round =>
                  clear H'
                  try clear c1
                  try clear p1
                  try clear q1
                  try clear hx1
                  try clear c2
                  try clear p2
                  try clear q2
                  try clear hx2
                  try clear c3
                  try clear p3
                  try clear q3
                  try clear hx3
                  try clear hf3
                  try clear c4
                  try clear p4
                  try clear q4
                  try clear hx4
                  try clear hf4
                  try clear c5
                  try clear c5b0
                  try clear c5b1
                  try clear p5
                  try clear q5
                  try clear hx5
                  try clear c6
                  try clear c6b0
                  try clear c6b1
                  try clear p6
                  try clear q6
                  try clear hx6
                  try clear hf6
                  try clear c7
                  try clear c7b0
                  try clear c7b1
                  try clear p8
                  try clear q8
                  try clear hx8
                  try clear qi8
                  try clear hf8
                  try clear c13
                  try clear c13b0
                  try clear p14
                  try clear q14
                  try clear hx14
                  try clear c15
                  try clear c15b0
                  try clear c15b1
                  try clear p15
                  try clear q15
                  try clear hx15
                  try clear c16
                  try clear c16b0
                  try clear c16b1
                  try clear c19
                  try clear c19b0
                  try clear c20
                  try clear c20b0
                  try clear c21
                  try clear c21b0
                  try clear p22
                  try clear q22
                  try clear hx22
                  try clear c23
                  try clear c23b0
                  try clear c23b1
                  try clear c24
                  try clear c24b0
                  try clear c25
                  try clear c25b0
                  try clear q26
                  try clear c27
                  try clear c28
                  try clear c28b0
                  try clear p29
                  try clear q29
                  try clear hx29
                  try clear hf29
                  try clear c33
                  try clear c33b0
                  try clear c35
                  try clear c35b0
                  try clear c36
                  try clear c36b0
                  try clear c37
                  try clear c37b0
                  try clear p38
                  try clear q38
                  try clear hx38
                  try clear hf38
                  try clear c43
                  try clear c43b0
                  try clear p44
                  try clear q44
                  try clear hx44
                  try clear hf44
                  try clear c48
                  try clear c48b0
                  try clear c50
                  try clear c50b0
                  try clear c51
                  try clear c51b0
                  try clear q52
                  try clear c53
                  try clear c54
                  try clear c54b0
                  try clear p55
                  try clear q55
                  try clear hx55
                  try clear p56
                  try clear q56
                  try clear hx56
                  try clear c57
                  try clear c57b0
                  try clear c57b1
                  try clear c58
                  try clear c58b0
                  try clear c59
                  try clear c59b0
                  try clear p60
                  try clear q60
                  try clear hx60
                  try clear hf60
                  try clear p64
                  try clear c66
                  try clear c67
                  try clear c67b0
                  try clear c67b1
                  try clear c68
                  try clear c68b0
                  try clear c68b1
                  try clear hx143_0
                  try clear hx145_0
                  try clear hx148_0
                  try clear hx150_0
                  try clear hx29_0
                  try clear hx38_0
                  try clear hx44_0
                  try clear hx60_0
                  try clear hx8_0
                  try clear p143
                  try clear p145
                  try clear p148
                  try clear p150
                  try clear p2
                  try clear p22
                  try clear p29
                  try clear p38
                  try clear p44
                  try clear p55
                  try clear p56
                  try clear p6
                  try clear p60
                  try clear p8
                  try clear q143
                  try clear q145
                  try clear q148
                  try clear q150
                  try clear q22
                  try clear q29
                  try clear q38
                  try clear q44
                  try clear q55
                  try clear q56
                  try clear q60
                  try clear q8
                  obtain ⟨x11_2, rfl, HA, HK2, HO_7, HB⟩ := hrel
                  cases gk with
                  | zero => exact absurd HA.out (by simp [decorumref09_glob.l2])
                  | succ k2 =>
                    have H := HA.out
                    clear HA
                    simp only [decorumref09_glob.l2] at H
                    by_cases c70 : x11_2 ≤ (a1.size : Int)
                    · rw [if_pos c70] at H
                      have c70b0 : decide (x11_2 ≤ (a1.size : Int)) = true := decide_eq_true c70
                      clear c70
                      by_cases c71 : 0 ≤ x11_2
                      · rw [if_pos c71] at H
                        have c71b0 : decide (0 ≤ x11_2) = true := decide_eq_true c71
                        clear c71
                        by_cases c72 : x11_2 < (x7_1.length : Int)
                        · rw [if_pos c72] at H
                          have c72b0 : decide (x11_2 < (x7_1.length : Int)) = true := decide_eq_true c72
                          clear c72
                          obtain ⟨bq73, hbq73⟩ : ∃ b_ : Bool, b_ = (rdOf false x7_1 x11_2) := ⟨_, rfl⟩
                          replace H : (if bq73 = true then (some true) else (decorumref09_glob.l2 k2 a1 x7_1 (wrap64 (x11_2 + 1)))) = some r := by rw [← hbq73] at H; exact H
                          have Nbq73 := Aside0.mk hbq73
                          clear hbq73
                          by_cases c74 : bq73 = true
                          · subst c74
                            have H1 : (some true) = some r := by rw [if_pos rfl] at H; exact H
                            clear H
                            have H := H1
                            clear H1
                            obtain rfl := Option.some.inj H
                            obtain ⟨Ao75, co75, eo75⟩ := Kd.R_slice HO_7.out
                            subst eo75
                            have p151 : 0 ≤ (x11_2 : Int) := of_decide_eq_true (by first | (with_reducible assumption) | assumption)
                            have q151 : x11_2 < (x7_1.length : Int) := of_decide_eq_true (by first | (with_reducible assumption) | assumption)
                            obtain ⟨ad151, e151, hx151_0⟩ := Kd.at_bool (Kd.R_reads' HO_7.out).2.2 x11_2 p151 q151
                            (try rw [← Nbq73.out] at hx151_0)
                            cases e151
                            replace p151 := eq_true p151
                            replace q151 := eq_true q151
                            go_wp2
                            repeat (go_quiet (fail); try go_wp2)
                            go_ret
                            exact ⟨by first | rfl | (simp [errW_none, errW_some] <;> rfl) | (simp only [← hji4]; first | rfl | (simp [errW_none, errW_some] <;> rfl)) | (simp [*, errW_none, errW_some] <;> rfl) | (simp [wrap64]; done), by repeat (first | (with_reducible first | exact HB.out | apply below_alloc | apply pw_below_drewN | apply below_drew1) | exact HB.out)⟩
                          · replace c74 := Bool.eq_false_iff.mpr c74
                            subst c74
                            have H1 : (decorumref09_glob.l2 k2 a1 x7_1 (wrap64 (x11_2 + 1))) = some r := by rw [if_neg (show ¬ (false = true) by decide)] at H; exact H
                            clear H
                            have H := H1
                            clear H1
                            have H' := Aside0.mk H
                            clear H
                            obtain ⟨Ao76, co76, eo76⟩ := Kd.R_slice HO_7.out
                            subst eo76
                            have p151 : 0 ≤ (x11_2 : Int) := of_decide_eq_true (by first | (with_reducible assumption) | assumption)
                            have q151 : x11_2 < (x7_1.length : Int) := of_decide_eq_true (by first | (with_reducible assumption) | assumption)
                            obtain ⟨ad151, e151, hx151_0⟩ := Kd.at_bool (Kd.R_reads' HO_7.out).2.2 x11_2 p151 q151
                            (try rw [← Nbq73.out] at hx151_0)
                            cases e151
                            replace p151 := eq_true p151
                            replace q151 := eq_true q151
                            go_wp2
                            repeat (go_quiet (fail); try go_wp2)
                            go_roundg k2
                            case measure => have := HK1.out; have := HK2.out; omega
                            case rel => exact ⟨(wrap64 (x11_2 + 1)), (by first | rfl | (simp; done) | (simp [*]; done)), H', ⟨by have := HK1.out; have := HK2.out; omega⟩, ⟨by (with_reducible repeat (first | apply Kd.R_alloc | apply Kd.R_drewN | apply Kd.R_drew)); exact HO_7.out⟩, ⟨by repeat (first | (with_reducible first | exact HB.out | apply below_alloc | apply pw_below_drewN | apply below_drew1) | exact HB.out)⟩⟩
                        · rw [if_neg c72] at H
                          exact absurd H (by simp)
                      · rw [if_neg c71] at H
                        exact absurd H (by simp)
                    · rw [if_neg c70] at H
                      have c70b0 : decide (x11_2 ≤ (a1.size : Int)) = false := decide_eq_false c70
                      clear c70
                      obtain rfl := Option.some.inj H
                      go_wp2
                      repeat (go_quiet (fail); try go_wp2)
                      go_ret
                      exact ⟨by first | rfl | (simp [errW_none, errW_some] <;> rfl) | (simp only [← hji4]; first | rfl | (simp [errW_none, errW_some] <;> rfl)) | (simp [*, errW_none, errW_some] <;> rfl) | (simp [wrap64]; done), by repeat (first | (with_reducible first | exact HB.out | apply below_alloc | apply pw_below_drewN | apply below_drew1) | exact HB.out)⟩
      · rw [if_neg c7] at H
        exact absurd H (by simp)
    · rw [if_neg c6] at H
      exact absurd H (by simp)
  · rw [if_neg c5] at H
    exact absurd H (by simp)

end Go.Proofs.YtdnaddignhjihaaDoor.QMM
namespace Go.Proofs.YtdnaddignhjihaaDoor.QMM
open Go.Proofs.YtdnaddignhjihaaDoor.GivenM Go.Proofs.YtdnaddignhjihaaDoor.QMB Go.Proofs.YtdnaddignhjihaaDoor.QBase
open Go.RowKit Go.Proofs.YtdnaddignhjihaaDoorW.PrintWords Go.Proofs.YtdnaddignhjihaaDoorW.PrintLast Go.Proofs.YtdnaddignhjihaaDoorW.PrintMore
attribute [local go_sem] max2_int min2_int max_two min_two max_three min_three max_four min_four   -- for this text's walks alone
set_option linter.unusedVariables false
set_option linter.unusedSimpArgs false
def decorumref09_Match.j0 : Nat → ByteArray → ByteArray → Bool → Option (Bool)
  | 0, _, _, _ => none
  | k + 1, x0, x1, x19 => if x19 = true then (if 0 ≤ (wrap64 ((x0.size : Int) - 1)) then (if (wrap64 ((x0.size : Int) - 1)) ≤ (x0.size : Int) then ((decorumref09_glob.f k (x0.extract 0 ((wrap64 ((x0.size : Int) - 1)) : Int).toNat) x1 true).bind fun t154 => (some t154)) else (none)) else (none)) else ((decorumref09_glob.f k x0 x1 false).bind fun t155 => (some t155))
def decorumref09_Match.f (k : Nat) (a0 : ByteArray) (a1 : ByteArray) : Option (Bool) := (decorumref09_Form.f k a0).bind fun t152 => ((decorumref09_Form.f k a1).bind fun t153 => (if (t152.size : Int) > 0 then (if 0 ≤ (wrap64 ((t152.size : Int) - 1)) then (if (wrap64 ((t152.size : Int) - 1)) < (t152.size : Int) then (decorumref09_Match.j0 k t152 t153 ((bt t152 (wrap64 ((t152.size : Int) - 1))) == 36)) else (none)) else (none)) else (decorumref09_Match.j0 k t152 t153 false)))
set_option maxHeartbeats 8000000 in
set_option maxRecDepth 100000 in
theorem decorumref09_Match.calls (k : Nat) (a0 : ByteArray) (a1 : ByteArray) (r : Bool) (w : World) (h : decorumref09_Match.f k a0 a1 = some r) :
    Calls Tryd.prog 37 #[.string a0, .string a1] w fun e w' => e = .returned (.bool r) ∧ Below w.heap.size w w' := by
  have HB := Aside0.mk (Below.refl w.heap.size w)
  have H : ((decorumref09_Form.f k a0).bind fun t152 => ((decorumref09_Form.f k a1).bind fun t153 => (if (t152.size : Int) > 0 then (if 0 ≤ (wrap64 ((t152.size : Int) - 1)) then (if (wrap64 ((t152.size : Int) - 1)) < (t152.size : Int) then (decorumref09_Match.j0 k t152 t153 ((bt t152 (wrap64 ((t152.size : Int) - 1))) == 36)) else (none)) else (none)) else (decorumref09_Match.j0 k t152 t153 false)))) = some r := h
  clear h
  replace H := Option.bind_eq_some_iff.mp H
  obtain ⟨t152, A30, H⟩ := H
  replace H : ((decorumref09_Form.f k a1).bind fun t153 => (if (t152.size : Int) > 0 then (if 0 ≤ (wrap64 ((t152.size : Int) - 1)) then (if (wrap64 ((t152.size : Int) - 1)) < (t152.size : Int) then (decorumref09_Match.j0 k t152 t153 ((bt t152 (wrap64 ((t152.size : Int) - 1))) == 36)) else (none)) else (none)) else (decorumref09_Match.j0 k t152 t153 false))) = some r := H
  have A3 := Aside0.mk A30
  clear A30
  replace H := Option.bind_eq_some_iff.mp H
  obtain ⟨t153, A40, H⟩ := H
  replace H : (if (t152.size : Int) > 0 then (if 0 ≤ (wrap64 ((t152.size : Int) - 1)) then (if (wrap64 ((t152.size : Int) - 1)) < (t152.size : Int) then (decorumref09_Match.j0 k t152 t153 ((bt t152 (wrap64 ((t152.size : Int) - 1))) == 36)) else (none)) else (none)) else (decorumref09_Match.j0 k t152 t153 false)) = some r := H
  have A4 := Aside0.mk A40
  clear A40
  have HC5 := Aside0.mk H
  clear H
  go_enter Tryd.func37, Tryd.ntmps37
  go_upto_region 2 with (first | ((with_reducible refine gate_callee (f := 38) rfl ?_); refine goesL_ (some 6) rfl rfl Tryd.func38 (by kernel_rfl) rfl #[.string a0] rfl (by (try simp only [List.map_toArray, List.map_cons, List.map_nil]); first | done | rfl | (simp only [List.length_drop, List.length_take]; rfl)) ?_; (with_reducible refine (decorumref09_Form.calls k a0 t152 _ A3.out).mono ?_); rintro e w6 ⟨rfl, hb⟩; refine ⟨_, rfl, ?_⟩; have n0_ := Aside0.mk (below_step (by repeat (first | (with_reducible first | exact HB.out | apply below_alloc | apply pw_below_drewN | apply below_drew1) | exact HB.out)) hb); clear HB; have HB := n0_; clear n0_; (try clear hb); (try clear hb2); (try clear hk); (try clear hi)) | ((with_reducible refine gate_callee (f := 38) rfl ?_); refine goesL_ (some 8) rfl rfl Tryd.func38 (by kernel_rfl) rfl #[.string a1] rfl (by (try simp only [List.map_toArray, List.map_cons, List.map_nil]); first | done | rfl | (simp only [List.length_drop, List.length_take]; rfl)) ?_; (with_reducible refine (decorumref09_Form.calls k a1 t153 _ A4.out).mono ?_); rintro e w7 ⟨rfl, hb⟩; refine ⟨_, rfl, ?_⟩; have n0_ := Aside0.mk (below_step (by repeat (first | (with_reducible first | exact HB.out | apply below_alloc | apply pw_below_drewN | apply below_drew1) | exact HB.out)) hb); clear HB; have HB := n0_; clear n0_; (try clear hb); (try clear hb2); (try clear hk); (try clear hi)))
  (try simp only [Act.put, List.setIfInBounds_toArray, List.set_cons_zero, List.set_cons_succ])
  go_cut [19] (fun v19 wc => ∃ (kq : Nat) (x19_4 : Bool), v19 = .bool x19_4 ∧ Aside0 (decorumref09_Match.j0 kq t152 t153 x19_4 = some r) ∧ Aside0 (kq ≤ k) ∧ Aside0 (Below w.heap.size w wc))
  case first =>
    have H := HC5.out
    clear HC5
    by_cases c8 : (t152.size : Int) > 0
    · rw [if_pos c8] at H
      have c8b0 : decide (0 < (t152.size : Int)) = true := decide_eq_true c8
      have c8b1 : decide (0 < t152.size) = true := decide_eq_true (by omega)
      clear c8
      (first | rw [c8b0] | (simp only [i64_w, i32_w]; rw [c8b0]) | skip)
      obtain ⟨ji9, hji9⟩ : ∃ j_ : Int, (wrap64 ((t152.size : Int) - 1)) = j_ := ⟨_, rfl⟩
      replace H : (if 0 ≤ (ji9) then (if (ji9) < (t152.size : Int) then (decorumref09_Match.j0 k t152 t153 ((bt t152 (ji9)) == 36)) else (none)) else (none)) = some r := by first | (rw [hji9] at H; exact H) | (simp only [hji9] at H ⊢; exact H)
      have hji9w : (IntKind.i64.wrap ((t152.size : Int) - 1)) = ji9 := (i64_w _).trans hji9
      by_cases c10 : 0 ≤ (ji9)
      · rw [if_pos c10] at H
        have c10b0 : decide (0 ≤ (ji9)) = true := decide_eq_true c10
        clear c10
        by_cases c11 : (ji9) < (t152.size : Int)
        · rw [if_pos c11] at H
          have c11b0 : decide ((ji9) < (t152.size : Int)) = true := decide_eq_true c11
          clear c11
          have H' := Aside0.mk H
          clear H
          have p12 : 0 ≤ ((ji9) : Int) := of_decide_eq_true (by first | (with_reducible assumption) | assumption)
          have q12 : (ji9) < (t152.size : Int) := of_decide_eq_true (by first | (with_reducible assumption) | assumption)
          have hx12 := bt_at t152 (ji9)
          replace p12 := eq_true p12
          replace q12 := eq_true q12
          go_wp2
          go_meet
          case rel => exact ⟨_, (((bt t152 (ji9)) == 36)), (by first | rfl | (simp; done) | (simp only [← hji9] <;> (first | rfl | simp)) | (simp [*]; done)), H', ⟨by first | omega | exact Nat.le_refl _⟩, ⟨by repeat (first | (with_reducible first | exact HB.out | apply below_alloc | apply pw_below_drewN | apply below_drew1) | exact HB.out)⟩⟩
        · rw [if_neg c11] at H
          exact absurd H (by simp)
      · rw [if_neg c10] at H
        exact absurd H (by simp)
    · rw [if_neg c8] at H
      have c8b0 : decide (0 < (t152.size : Int)) = false := decide_eq_false c8
      have c8b1 : decide (0 < t152.size) = false := decide_eq_false (by omega)
      clear c8
      (first | rw [c8b0] | (simp only [i64_w, i32_w]; rw [c8b0]) | skip)
      have H' := Aside0.mk H
      clear H
      go_wp2
      go_meet
      case rel => exact ⟨_, (false), (by first | rfl | (simp; done) | (simp [*]; done)), H', ⟨by first | omega | exact Nat.le_refl _⟩, ⟨by repeat (first | (with_reducible first | exact HB.out | apply below_alloc | apply pw_below_drewN | apply below_drew1) | exact HB.out)⟩⟩
  case rest =>
    clear HC5
    try clear c1
    try clear p1
    try clear q1
    try clear hx1
    try clear p2
    try clear c3
    try clear p6
    try clear c8
    try clear c8b0
    try clear c8b1
    try clear c10
    try clear c10b0
    try clear c11
    try clear c11b0
    try clear p12
    try clear q12
    try clear hx12
    try clear p12
    try clear q12
    obtain ⟨kq, x19_4, rfl, HA, HJ4, HB⟩ := hcut
    cases kq with
    | zero => exact absurd HA.out (by simp [decorumref09_Match.j0])
    | succ kj4 =>
      have H := HA.out
      clear HA
      simp only [decorumref09_Match.j0] at H
      by_cases c13 : x19_4 = true
      · subst c13
        have H1 : (if 0 ≤ (wrap64 ((t152.size : Int) - 1)) then (if (wrap64 ((t152.size : Int) - 1)) ≤ (t152.size : Int) then ((decorumref09_glob.f kj4 (t152.extract 0 ((wrap64 ((t152.size : Int) - 1)) : Int).toNat) t153 true).bind fun t154 => (some t154)) else (none)) else (none)) = some r := by rw [if_pos rfl] at H; exact H
        clear H
        have H := H1
        clear H1
        obtain ⟨ji14, hji14⟩ : ∃ j_ : Int, (wrap64 ((t152.size : Int) - 1)) = j_ := ⟨_, rfl⟩
        replace H : (if 0 ≤ (ji14) then (if (ji14) ≤ (t152.size : Int) then ((decorumref09_glob.f kj4 (t152.extract 0 ((ji14) : Int).toNat) t153 true).bind fun t154 => (some t154)) else (none)) else (none)) = some r := by first | (rw [hji14] at H; exact H) | (simp only [hji14] at H ⊢; exact H)
        have hji14w : (IntKind.i64.wrap ((t152.size : Int) - 1)) = ji14 := (i64_w _).trans hji14
        by_cases c15 : 0 ≤ (ji14)
        · rw [if_pos c15] at H
          have c15b0 := eq_true c15
          have c15b1 : decide (0 ≤ (ji14)) = true := decide_eq_true c15
          clear c15
          by_cases c16 : (ji14) ≤ (t152.size : Int)
          · rw [if_pos c16] at H
            have c16b0 := eq_true c16
            have c16b1 : decide ((ji14) ≤ (t152.size : Int)) = true := decide_eq_true c16
            clear c16
            replace H := Option.bind_eq_some_iff.mp H
            obtain ⟨t154, A170, H⟩ := H
            replace H : (some t154) = some r := H
            have A17 := Aside0.mk A170
            clear A170
            obtain rfl := Option.some.inj H
            go_wp2_with (first | ((with_reducible refine gate_callee (f := 53) rfl ?_); refine goesL_ (some 26) rfl rfl Tryd.func53 (by kernel_rfl) rfl #[.string (t152.extract 0 ((ji14) : Int).toNat), .string t153, .bool true] rfl (by (try simp only [List.map_toArray, List.map_cons, List.map_nil]); first | done | (simp only [hji14]; rfl) | rfl | (simp only [List.length_drop, List.length_take]; rfl)) ?_; (with_reducible refine (decorumref09_glob.calls kj4 (t152.extract 0 ((ji14) : Int).toNat) t153 true t154 _ A17.out).mono ?_); rintro e w18 ⟨rfl, hb⟩; refine ⟨_, rfl, ?_⟩; have n0_ := Aside0.mk (below_step (by repeat (first | (with_reducible first | exact HB.out | apply below_alloc | apply pw_below_drewN | apply below_drew1) | exact HB.out)) hb); clear HB; have HB := n0_; clear n0_; (try clear hb); (try clear hb2); (try clear hk); (try clear hi)))
            go_ret
            exact ⟨by first | rfl | (simp [errW_none, errW_some] <;> rfl) | (simp only [← hji14]; first | rfl | (simp [errW_none, errW_some] <;> rfl)) | (simp [*, errW_none, errW_some] <;> rfl) | (simp [wrap64]; done), by repeat (first | (with_reducible first | exact HB.out | apply below_alloc | apply pw_below_drewN | apply below_drew1) | exact HB.out)⟩
          · rw [if_neg c16] at H
            exact absurd H (by simp)
        · rw [if_neg c15] at H
          exact absurd H (by simp)
      · replace c13 := Bool.eq_false_iff.mpr c13
        subst c13
        have H1 : ((decorumref09_glob.f kj4 t152 t153 false).bind fun t155 => (some t155)) = some r := by rw [if_neg (show ¬ (false = true) by decide)] at H; exact H
        clear H
        have H := H1
        clear H1
        replace H := Option.bind_eq_some_iff.mp H
        obtain ⟨t155, A190, H⟩ := H
        replace H : (some t155) = some r := H
        have A19 := Aside0.mk A190
        clear A190
        obtain rfl := Option.some.inj H
        go_wp2_with (first | ((with_reducible refine gate_callee (f := 53) rfl ?_); refine goesL_ (some 29) rfl rfl Tryd.func53 (by kernel_rfl) rfl #[.string t152, .string t153, .bool false] rfl (by (try simp only [List.map_toArray, List.map_cons, List.map_nil]); first | done | rfl | (simp only [List.length_drop, List.length_take]; rfl)) ?_; (with_reducible refine (decorumref09_glob.calls kj4 t152 t153 false t155 _ A19.out).mono ?_); rintro e w20 ⟨rfl, hb⟩; refine ⟨_, rfl, ?_⟩; have n0_ := Aside0.mk (below_step (by repeat (first | (with_reducible first | exact HB.out | apply below_alloc | apply pw_below_drewN | apply below_drew1) | exact HB.out)) hb); clear HB; have HB := n0_; clear n0_; (try clear hb); (try clear hb2); (try clear hk); (try clear hi)))
        go_ret
        exact ⟨by first | rfl | (simp [errW_none, errW_some] <;> rfl) | (simp [*, errW_none, errW_some] <;> rfl) | (simp [wrap64]; done), by repeat (first | (with_reducible first | exact HB.out | apply below_alloc | apply pw_below_drewN | apply below_drew1) | exact HB.out)⟩

mutual
def decorumref09_Allowed.l0 : Nat → List (S30) → ByteArray → Int → Int → Option (Bool)
  | 0, _, _, _, _ => none
  | k + 1, x0, x1, x5, x6 => if x6 < (x0.length : Int) then (if 0 ≤ x6 then ((decorumref09_Match.f k ((rd_T30 x0 x6).f1) x1).bind fun t157 => (if t157 = true then ((decorumref09_Form.f k ((rd_T30 x0 x6).f1)).bind fun t159 => (if (t159.size : Int) > x5 then ((decorumref09_Form.f k ((rd_T30 x0 x6).f1)).bind fun t161 => (decorumref09_Allowed.l0 k x0 x1 (t161.size : Int) (wrap64 (x6 + 1)))) else (decorumref09_Allowed.l0 k x0 x1 x5 (wrap64 (x6 + 1))))) else (decorumref09_Allowed.l0 k x0 x1 x5 (wrap64 (x6 + 1))))) else (none)) else (decorumref09_Allowed.l1 k x0 x1 x5 0)
def decorumref09_Allowed.l1 : Nat → List (S30) → ByteArray → Int → Int → Option (Bool)
  | 0, _, _, _, _ => none
  | k + 1, x0, x1, x5, x7 => if x7 < (x0.length : Int) then (if 0 ≤ x7 then (if (rd_T30 x0 x7).f0 = true then ((decorumref09_Form.f k ((rd_T30 x0 x7).f1)).bind fun t164 => (if (t164.size : Int) = x5 then ((decorumref09_Match.f k ((rd_T30 x0 x7).f1) x1).bind fun t166 => (if t166 = true then (some true) else (decorumref09_Allowed.l1 k x0 x1 x5 (wrap64 (x7 + 1))))) else (decorumref09_Allowed.l1 k x0 x1 x5 (wrap64 (x7 + 1))))) else (decorumref09_Allowed.l1 k x0 x1 x5 (wrap64 (x7 + 1)))) else (none)) else (some (decide (x5 < 0)))
end
def decorumref09_Allowed.f (k : Nat) (l0 : List (S30)) (a1 : ByteArray) : Option (Bool) := decorumref09_Allowed.l0 k l0 a1 (-1) 0
set_option maxHeartbeats 8000000 in
set_option maxRecDepth 100000 in
theorem decorumref09_Allowed.calls (k : Nat) (A0 : Option Addr) (c0 : Nat) (l0 : List (S30)) (a1 : ByteArray) (r : Bool) (w : World) (hr0 : Kd.C k30 w A0 l0.length l0) (hc0 : l0.length ≤ c0) (h : decorumref09_Allowed.f k l0 a1 = some r) :
    Calls Tryd.prog 22 #[.slice A0 l0.length c0, .string a1] w fun e w' => e = .returned (.bool r) ∧ Below w.heap.size w w' := by
  have HR0 := Aside0.mk hr0
  have HC0 := Aside0.mk hc0
  clear hr0 hc0
  have HB := Aside0.mk (Below.refl w.heap.size w)
  have H : (decorumref09_Allowed.l0 k l0 a1 (-1) 0) = some r := h
  clear h
  have H' := Aside0.mk H
  clear H
  go_enter Tryd.func22, Tryd.ntmps22
  go_wp2
  go_loopg [5, 6] k (fun kq v5 v6 w' => ∃ (x5_1 : Int) (x6_1 : Int), v5 = .int .i64 x5_1 ∧ v6 = .int .i64 x6_1 ∧ Aside0 (decorumref09_Allowed.l0 kq l0 a1 x5_1 x6_1 = some r) ∧ Aside0 (kq ≤ k) ∧ Aside0 (Below w.heap.size w w'))
  case atStart => exact ⟨((-1)), (0), (by first | rfl | (simp; done) | (simp [*]; done)), (by first | rfl | (simp; done) | (simp [*]; done)), H', ⟨Nat.le_refl _⟩, ⟨by repeat (first | (with_reducible first | exact HB.out | apply below_alloc | apply pw_below_drewN | apply below_drew1) | exact HB.out)⟩⟩
  case round =>
    clear H'
    try clear c2
    try clear p2
    obtain ⟨x5_1, x6_1, rfl, rfl, HA, HK1, HB⟩ := hrel
    cases gk with
    | zero => exact absurd HA.out (by simp [decorumref09_Allowed.l0])
    | succ k1 =>
      have H := HA.out
      clear HA
      simp only [decorumref09_Allowed.l0] at H
      by_cases c3 : x6_1 < (l0.length : Int)
      · rw [if_pos c3] at H
        have c3b0 : decide (x6_1 < (l0.length : Int)) = true := decide_eq_true c3
        clear c3
        by_cases c4 : 0 ≤ x6_1
        · rw [if_pos c4] at H
          have c4b0 : decide (0 ≤ x6_1) = true := decide_eq_true c4
          clear c4
          replace H := Option.bind_eq_some_iff.mp H
          obtain ⟨t157, A50, H⟩ := H
          replace H : (if t157 = true then ((decorumref09_Form.f k1 ((rd_T30 l0 x6_1).f1)).bind fun t159 => (if (t159.size : Int) > x5_1 then ((decorumref09_Form.f k1 ((rd_T30 l0 x6_1).f1)).bind fun t161 => (decorumref09_Allowed.l0 k1 l0 a1 (t161.size : Int) (wrap64 (x6_1 + 1)))) else (decorumref09_Allowed.l0 k1 l0 a1 x5_1 (wrap64 (x6_1 + 1))))) else (decorumref09_Allowed.l0 k1 l0 a1 x5_1 (wrap64 (x6_1 + 1)))) = some r := H
          have A5 := Aside0.mk A50
          clear A50
          by_cases c6 : t157 = true
          · subst c6
            have H1 : ((decorumref09_Form.f k1 ((rd_T30 l0 x6_1).f1)).bind fun t159 => (if (t159.size : Int) > x5_1 then ((decorumref09_Form.f k1 ((rd_T30 l0 x6_1).f1)).bind fun t161 => (decorumref09_Allowed.l0 k1 l0 a1 (t161.size : Int) (wrap64 (x6_1 + 1)))) else (decorumref09_Allowed.l0 k1 l0 a1 x5_1 (wrap64 (x6_1 + 1))))) = some r := by rw [if_pos rfl] at H; exact H
            clear H
            have H := H1
            clear H1
            replace H := Option.bind_eq_some_iff.mp H
            obtain ⟨t159, A70, H⟩ := H
            replace H : (if (t159.size : Int) > x5_1 then ((decorumref09_Form.f k1 ((rd_T30 l0 x6_1).f1)).bind fun t161 => (decorumref09_Allowed.l0 k1 l0 a1 (t161.size : Int) (wrap64 (x6_1 + 1)))) else (decorumref09_Allowed.l0 k1 l0 a1 x5_1 (wrap64 (x6_1 + 1)))) = some r := H
            have A7 := Aside0.mk A70
            clear A70
            by_cases c8 : (t159.size : Int) > x5_1
            · rw [if_pos c8] at H
              have c8b0 : decide (x5_1 < (t159.size : Int)) = true := decide_eq_true c8
              clear c8
              replace H := Option.bind_eq_some_iff.mp H
              obtain ⟨t161, A90, H⟩ := H
              replace H : (decorumref09_Allowed.l0 k1 l0 a1 (t161.size : Int) (wrap64 (x6_1 + 1))) = some r := H
              have A9 := Aside0.mk A90
              clear A90
              have H' := Aside0.mk H
              clear H
              have p156 : 0 ≤ (x6_1 : Int) := of_decide_eq_true (by first | (with_reducible assumption) | assumption)
              have q156 : x6_1 < (l0.length : Int) := of_decide_eq_true (by first | (with_reducible assumption) | assumption)
              obtain ⟨ad156, e156, hx156_0, hx156_1⟩ := at_T30 HR0.out x6_1 p156 q156
              cases e156
              replace hx156_0 := (HB.out.cell (World.block_lt_of_cell? w _ hx156_0)).trans hx156_0
              replace hx156_1 := (HB.out.cell (World.block_lt_of_cell? w _ hx156_1)).trans hx156_1
              replace p156 := eq_true p156
              replace q156 := eq_true q156
              go_wp2_with (first | ((with_reducible refine gate_callee (f := 37) rfl ?_); refine goesL_ (some 20) rfl rfl Tryd.func37 (by kernel_rfl) rfl #[.string ((rd_T30 l0 x6_1).f1), .string a1] rfl (by (try simp only [List.map_toArray, List.map_cons, List.map_nil]); first | done | rfl | (simp only [List.length_drop, List.length_take]; rfl)) ?_; (with_reducible refine (decorumref09_Match.calls k1 ((rd_T30 l0 x6_1).f1) a1 true _ A5.out).mono ?_); rintro e w10 ⟨rfl, hb⟩; refine ⟨_, rfl, ?_⟩; have n0_ := Aside0.mk (below_step (by repeat (first | (with_reducible first | exact HB.out | apply below_alloc | apply pw_below_drewN | apply below_drew1) | exact HB.out)) hb); clear HB; have HB := n0_; clear n0_; (try clear hb); (try clear hb2); (try clear hk); (try clear hi); have p158 : 0 ≤ (x6_1 : Int) := of_decide_eq_true (by first | (with_reducible assumption) | assumption); have q158 : x6_1 < (l0.length : Int) := of_decide_eq_true (by first | (with_reducible assumption) | assumption); obtain ⟨ad158, e158, hx158_0, hx158_1⟩ := at_T30 HR0.out x6_1 p158 q158; obtain rfl : ad156 = ad158 := (by injection e158); replace hx158_0 := (HB.out.cell (World.block_lt_of_cell? w _ hx158_0)).trans hx158_0; replace hx158_1 := (HB.out.cell (World.block_lt_of_cell? w _ hx158_1)).trans hx158_1; replace p158 := eq_true p158; replace q158 := eq_true q158) | (go_at_call 38; (with_reducible refine (decorumref09_Form.calls k1 ((rd_T30 l0 x6_1).f1) t159 _ A7.out).mono ?_); rintro e w11 ⟨rfl, hb⟩; have n0_ := Aside0.mk (below_step (by repeat (first | (with_reducible first | exact HB.out | apply below_alloc | apply pw_below_drewN | apply below_drew1) | exact HB.out)) hb); clear HB; have HB := n0_; clear n0_; (try clear hb); (try clear hb2); (try clear hk); (try clear hi); have p160 : 0 ≤ (x6_1 : Int) := of_decide_eq_true (by first | (with_reducible assumption) | assumption); have q160 : x6_1 < (l0.length : Int) := of_decide_eq_true (by first | (with_reducible assumption) | assumption); obtain ⟨ad160, e160, hx160_0, hx160_1⟩ := at_T30 HR0.out x6_1 p160 q160; obtain rfl : ad156 = ad160 := (by injection e160); replace hx160_0 := (HB.out.cell (World.block_lt_of_cell? w _ hx160_0)).trans hx160_0; replace hx160_1 := (HB.out.cell (World.block_lt_of_cell? w _ hx160_1)).trans hx160_1; replace p160 := eq_true p160; replace q160 := eq_true q160) | ((with_reducible refine gate_callee (f := 38) rfl ?_); refine goesL_ (some 37) rfl rfl Tryd.func38 (by kernel_rfl) rfl #[.string ((rd_T30 l0 x6_1).f1)] rfl (by (try simp only [List.map_toArray, List.map_cons, List.map_nil]); first | done | rfl | (simp only [List.length_drop, List.length_take]; rfl)) ?_; (with_reducible refine (decorumref09_Form.calls k1 ((rd_T30 l0 x6_1).f1) t161 _ A9.out).mono ?_); rintro e w12 ⟨rfl, hb⟩; refine ⟨_, rfl, ?_⟩; have n0_ := Aside0.mk (below_step (by repeat (first | (with_reducible first | exact HB.out | apply below_alloc | apply pw_below_drewN | apply below_drew1) | exact HB.out)) hb); clear HB; have HB := n0_; clear n0_; (try clear hb); (try clear hb2); (try clear hk); (try clear hi)))
              go_roundg k1
              case measure => have := HK1.out; omega
              case rel => exact ⟨((t161.size : Int)), (wrap64 (x6_1 + 1)), (by first | rfl | (simp; done) | (simp [*]; done)), (by first | rfl | (simp; done) | (simp [*]; done)), H', ⟨by have := HK1.out; omega⟩, ⟨by repeat (first | (with_reducible first | exact HB.out | apply below_alloc | apply pw_below_drewN | apply below_drew1) | exact HB.out)⟩⟩
            · rw [if_neg c8] at H
              have c8b0 : decide (x5_1 < (t159.size : Int)) = false := decide_eq_false c8
              clear c8
              have H' := Aside0.mk H
              clear H
              have p156 : 0 ≤ (x6_1 : Int) := of_decide_eq_true (by first | (with_reducible assumption) | assumption)
              have q156 : x6_1 < (l0.length : Int) := of_decide_eq_true (by first | (with_reducible assumption) | assumption)
              obtain ⟨ad156, e156, hx156_0, hx156_1⟩ := at_T30 HR0.out x6_1 p156 q156
              cases e156
              replace hx156_0 := (HB.out.cell (World.block_lt_of_cell? w _ hx156_0)).trans hx156_0
              replace hx156_1 := (HB.out.cell (World.block_lt_of_cell? w _ hx156_1)).trans hx156_1
              replace p156 := eq_true p156
              replace q156 := eq_true q156
              go_wp2_with (first | ((with_reducible refine gate_callee (f := 37) rfl ?_); refine goesL_ (some 20) rfl rfl Tryd.func37 (by kernel_rfl) rfl #[.string ((rd_T30 l0 x6_1).f1), .string a1] rfl (by (try simp only [List.map_toArray, List.map_cons, List.map_nil]); first | done | rfl | (simp only [List.length_drop, List.length_take]; rfl)) ?_; (with_reducible refine (decorumref09_Match.calls k1 ((rd_T30 l0 x6_1).f1) a1 true _ A5.out).mono ?_); rintro e w13 ⟨rfl, hb⟩; refine ⟨_, rfl, ?_⟩; have n0_ := Aside0.mk (below_step (by repeat (first | (with_reducible first | exact HB.out | apply below_alloc | apply pw_below_drewN | apply below_drew1) | exact HB.out)) hb); clear HB; have HB := n0_; clear n0_; (try clear hb); (try clear hb2); (try clear hk); (try clear hi); have p158 : 0 ≤ (x6_1 : Int) := of_decide_eq_true (by first | (with_reducible assumption) | assumption); have q158 : x6_1 < (l0.length : Int) := of_decide_eq_true (by first | (with_reducible assumption) | assumption); obtain ⟨ad158, e158, hx158_0, hx158_1⟩ := at_T30 HR0.out x6_1 p158 q158; obtain rfl : ad156 = ad158 := (by injection e158); replace hx158_0 := (HB.out.cell (World.block_lt_of_cell? w _ hx158_0)).trans hx158_0; replace hx158_1 := (HB.out.cell (World.block_lt_of_cell? w _ hx158_1)).trans hx158_1; replace p158 := eq_true p158; replace q158 := eq_true q158) | (go_at_call 38; (with_reducible refine (decorumref09_Form.calls k1 ((rd_T30 l0 x6_1).f1) t159 _ A7.out).mono ?_); rintro e w14 ⟨rfl, hb⟩; have n0_ := Aside0.mk (below_step (by repeat (first | (with_reducible first | exact HB.out | apply below_alloc | apply pw_below_drewN | apply below_drew1) | exact HB.out)) hb); clear HB; have HB := n0_; clear n0_; (try clear hb); (try clear hb2); (try clear hk); (try clear hi)))
              go_roundg k1
              case measure => have := HK1.out; omega
              case rel => exact ⟨(x5_1), (wrap64 (x6_1 + 1)), (by first | rfl | (simp; done) | (simp [*]; done)), (by first | rfl | (simp; done) | (simp [*]; done)), H', ⟨by have := HK1.out; omega⟩, ⟨by repeat (first | (with_reducible first | exact HB.out | apply below_alloc | apply pw_below_drewN | apply below_drew1) | exact HB.out)⟩⟩
          · replace c6 := Bool.eq_false_iff.mpr c6
            subst c6
            have H1 : (decorumref09_Allowed.l0 k1 l0 a1 x5_1 (wrap64 (x6_1 + 1))) = some r := by rw [if_neg (show ¬ (false = true) by decide)] at H; exact H
            clear H
            have H := H1
            clear H1
            have H' := Aside0.mk H
            clear H
            have p156 : 0 ≤ (x6_1 : Int) := of_decide_eq_true (by first | (with_reducible assumption) | assumption)
            have q156 : x6_1 < (l0.length : Int) := of_decide_eq_true (by first | (with_reducible assumption) | assumption)
            obtain ⟨ad156, e156, hx156_0, hx156_1⟩ := at_T30 HR0.out x6_1 p156 q156
            cases e156
            replace hx156_0 := (HB.out.cell (World.block_lt_of_cell? w _ hx156_0)).trans hx156_0
            replace hx156_1 := (HB.out.cell (World.block_lt_of_cell? w _ hx156_1)).trans hx156_1
            replace p156 := eq_true p156
            replace q156 := eq_true q156
            go_wp2_with (first | ((with_reducible refine gate_callee (f := 37) rfl ?_); refine goesL_ (some 20) rfl rfl Tryd.func37 (by kernel_rfl) rfl #[.string ((rd_T30 l0 x6_1).f1), .string a1] rfl (by (try simp only [List.map_toArray, List.map_cons, List.map_nil]); first | done | rfl | (simp only [List.length_drop, List.length_take]; rfl)) ?_; (with_reducible refine (decorumref09_Match.calls k1 ((rd_T30 l0 x6_1).f1) a1 false _ A5.out).mono ?_); rintro e w15 ⟨rfl, hb⟩; refine ⟨_, rfl, ?_⟩; have n0_ := Aside0.mk (below_step (by repeat (first | (with_reducible first | exact HB.out | apply below_alloc | apply pw_below_drewN | apply below_drew1) | exact HB.out)) hb); clear HB; have HB := n0_; clear n0_; (try clear hb); (try clear hb2); (try clear hk); (try clear hi)))
            go_roundg k1
            case measure => have := HK1.out; omega
            case rel => exact ⟨(x5_1), (wrap64 (x6_1 + 1)), (by first | rfl | (simp; done) | (simp [*]; done)), (by first | rfl | (simp; done) | (simp [*]; done)), H', ⟨by have := HK1.out; omega⟩, ⟨by repeat (first | (with_reducible first | exact HB.out | apply below_alloc | apply pw_below_drewN | apply below_drew1) | exact HB.out)⟩⟩
        · rw [if_neg c4] at H
          exact absurd H (by simp)
      · rw [if_neg c3] at H
        have c3b0 : decide (x6_1 < (l0.length : Int)) = false := decide_eq_false c3
        clear c3
        have H' := Aside0.mk H
        clear H
        go_wp2
        go_loopg [7] k1 (fun kq v7 w' => ∃ (x7_2 : Int), v7 = .int .i64 x7_2 ∧ Aside0 (decorumref09_Allowed.l1 kq l0 a1 x5_1 x7_2 = some r) ∧ Aside0 (kq ≤ k1) ∧ Aside0 (Below w.heap.size w w'))
        case atStart => exact ⟨(0), (by first | rfl | (simp; done) | (simp [*]; done)), H', ⟨Nat.le_refl _⟩, ⟨by repeat (first | (with_reducible first | exact HB.out | apply below_alloc | apply pw_below_drewN | apply below_drew1) | exact HB.out)⟩⟩
        case round =>
          clear H'
          try clear p1
          try clear q1
          try clear hx1
          try clear c2
          try clear p2
          try clear c3
          try clear c3b0
          try clear c4
          try clear c4b0
          try clear c6
          try clear p6
          try clear c8
          try clear c8b0
          try clear p15
          try clear q15
          try clear hx15
          try clear hx156_0
          try clear hx156_1
          try clear hx158_0
          try clear hx158_1
          try clear hx160_0
          try clear hx160_1
          try clear p156
          try clear p158
          try clear p160
          try clear p2
          try clear q156
          try clear q158
          try clear q160
          obtain ⟨x7_2, rfl, HA, HK2, HB⟩ := hrel
          cases gk with
          | zero => exact absurd HA.out (by simp [decorumref09_Allowed.l1])
          | succ k2 =>
            have H := HA.out
            clear HA
            simp only [decorumref09_Allowed.l1] at H
            by_cases c16 : x7_2 < (l0.length : Int)
            · rw [if_pos c16] at H
              have c16b0 : decide (x7_2 < (l0.length : Int)) = true := decide_eq_true c16
              clear c16
              by_cases c17 : 0 ≤ x7_2
              · rw [if_pos c17] at H
                have c17b0 : decide (0 ≤ x7_2) = true := decide_eq_true c17
                clear c17
                obtain ⟨bq18, hbq18⟩ : ∃ b_ : Bool, b_ = ((rd_T30 l0 x7_2).f0) := ⟨_, rfl⟩
                replace H : (if bq18 = true then ((decorumref09_Form.f k2 ((rd_T30 l0 x7_2).f1)).bind fun t164 => (if (t164.size : Int) = x5_1 then ((decorumref09_Match.f k2 ((rd_T30 l0 x7_2).f1) a1).bind fun t166 => (if t166 = true then (some true) else (decorumref09_Allowed.l1 k2 l0 a1 x5_1 (wrap64 (x7_2 + 1))))) else (decorumref09_Allowed.l1 k2 l0 a1 x5_1 (wrap64 (x7_2 + 1))))) else (decorumref09_Allowed.l1 k2 l0 a1 x5_1 (wrap64 (x7_2 + 1)))) = some r := by rw [← hbq18] at H; exact H
                have Nbq18 := Aside0.mk hbq18
                clear hbq18
                by_cases c19 : bq18 = true
                · subst c19
                  have H1 : ((decorumref09_Form.f k2 ((rd_T30 l0 x7_2).f1)).bind fun t164 => (if (t164.size : Int) = x5_1 then ((decorumref09_Match.f k2 ((rd_T30 l0 x7_2).f1) a1).bind fun t166 => (if t166 = true then (some true) else (decorumref09_Allowed.l1 k2 l0 a1 x5_1 (wrap64 (x7_2 + 1))))) else (decorumref09_Allowed.l1 k2 l0 a1 x5_1 (wrap64 (x7_2 + 1))))) = some r := by rw [if_pos rfl] at H; exact H
                  clear H
                  have H := H1
                  clear H1
                  replace H := Option.bind_eq_some_iff.mp H
                  obtain ⟨t164, A200, H⟩ := H
                  replace H : (if (t164.size : Int) = x5_1 then ((decorumref09_Match.f k2 ((rd_T30 l0 x7_2).f1) a1).bind fun t166 => (if t166 = true then (some true) else (decorumref09_Allowed.l1 k2 l0 a1 x5_1 (wrap64 (x7_2 + 1))))) else (decorumref09_Allowed.l1 k2 l0 a1 x5_1 (wrap64 (x7_2 + 1)))) = some r := H
                  have A20 := Aside0.mk A200
                  clear A200
                  by_cases c21 : (t164.size : Int) = x5_1
                  · rw [if_pos c21] at H
                    have c21b0 : ((t164.size : Int) == x5_1) = true := beq_iff_eq.mpr c21
                    have c21b1 : ((t164.size : Int) != x5_1) = false := bne_eq_false_iff_eq.mpr c21
                    clear c21
                    replace H := Option.bind_eq_some_iff.mp H
                    obtain ⟨t166, A220, H⟩ := H
                    replace H : (if t166 = true then (some true) else (decorumref09_Allowed.l1 k2 l0 a1 x5_1 (wrap64 (x7_2 + 1)))) = some r := H
                    have A22 := Aside0.mk A220
                    clear A220
                    by_cases c23 : t166 = true
                    · subst c23
                      have H1 : (some true) = some r := by rw [if_pos rfl] at H; exact H
                      clear H
                      have H := H1
                      clear H1
                      obtain rfl := Option.some.inj H
                      have p162 : 0 ≤ (x7_2 : Int) := of_decide_eq_true (by first | (with_reducible assumption) | assumption)
                      have q162 : x7_2 < (l0.length : Int) := of_decide_eq_true (by first | (with_reducible assumption) | assumption)
                      obtain ⟨ad162, e162, hx162_0, hx162_1⟩ := at_T30 HR0.out x7_2 p162 q162
                      (try rw [← Nbq18.out] at hx162_0)
                      cases e162
                      replace hx162_0 := (HB.out.cell (World.block_lt_of_cell? w _ hx162_0)).trans hx162_0
                      replace hx162_1 := (HB.out.cell (World.block_lt_of_cell? w _ hx162_1)).trans hx162_1
                      replace p162 := eq_true p162
                      replace q162 := eq_true q162
                      have p163 : 0 ≤ (x7_2 : Int) := of_decide_eq_true (by first | (with_reducible assumption) | assumption)
                      have q163 : x7_2 < (l0.length : Int) := of_decide_eq_true (by first | (with_reducible assumption) | assumption)
                      obtain ⟨ad163, e163, hx163_0, hx163_1⟩ := at_T30 HR0.out x7_2 p163 q163
                      (try rw [← Nbq18.out] at hx163_0)
                      obtain rfl : ad162 = ad163 := (by injection e163)
                      replace hx163_0 := (HB.out.cell (World.block_lt_of_cell? w _ hx163_0)).trans hx163_0
                      replace hx163_1 := (HB.out.cell (World.block_lt_of_cell? w _ hx163_1)).trans hx163_1
                      replace p163 := eq_true p163
                      replace q163 := eq_true q163
                      go_wp2_with (first | (go_at_call 38; (with_reducible refine (decorumref09_Form.calls k2 ((rd_T30 l0 x7_2).f1) t164 _ A20.out).mono ?_); rintro e w24 ⟨rfl, hb⟩; have n0_ := Aside0.mk (below_step (by repeat (first | (with_reducible first | exact HB.out | apply below_alloc | apply pw_below_drewN | apply below_drew1) | exact HB.out)) hb); clear HB; have HB := n0_; clear n0_; (try clear hb); (try clear hb2); (try clear hk); (try clear hi); have p165 : 0 ≤ (x7_2 : Int) := of_decide_eq_true (by first | (with_reducible assumption) | assumption); have q165 : x7_2 < (l0.length : Int) := of_decide_eq_true (by first | (with_reducible assumption) | assumption); obtain ⟨ad165, e165, hx165_0, hx165_1⟩ := at_T30 HR0.out x7_2 p165 q165; (try rw [← Nbq18.out] at hx165_0); obtain rfl : ad162 = ad165 := (by injection e165); replace hx165_0 := (HB.out.cell (World.block_lt_of_cell? w _ hx165_0)).trans hx165_0; replace hx165_1 := (HB.out.cell (World.block_lt_of_cell? w _ hx165_1)).trans hx165_1; replace p165 := eq_true p165; replace q165 := eq_true q165) | (go_at_call 37; (with_reducible refine (decorumref09_Match.calls k2 ((rd_T30 l0 x7_2).f1) a1 true _ A22.out).mono ?_); rintro e w25 ⟨rfl, hb⟩; have n0_ := Aside0.mk (below_step (by repeat (first | (with_reducible first | exact HB.out | apply below_alloc | apply pw_below_drewN | apply below_drew1) | exact HB.out)) hb); clear HB; have HB := n0_; clear n0_; (try clear hb); (try clear hb2); (try clear hk); (try clear hi)))
                      go_ret
                      exact ⟨by first | rfl | (simp [errW_none, errW_some] <;> rfl) | (simp [*, errW_none, errW_some] <;> rfl) | (simp [wrap64]; done), by repeat (first | (with_reducible first | exact HB.out | apply below_alloc | apply pw_below_drewN | apply below_drew1) | exact HB.out)⟩
                    · replace c23 := Bool.eq_false_iff.mpr c23
                      subst c23
                      have H1 : (decorumref09_Allowed.l1 k2 l0 a1 x5_1 (wrap64 (x7_2 + 1))) = some r := by rw [if_neg (show ¬ (false = true) by decide)] at H; exact H
                      clear H
                      have H := H1
                      clear H1
                      have H' := Aside0.mk H
                      clear H
                      have p162 : 0 ≤ (x7_2 : Int) := of_decide_eq_true (by first | (with_reducible assumption) | assumption)
                      have q162 : x7_2 < (l0.length : Int) := of_decide_eq_true (by first | (with_reducible assumption) | assumption)
                      obtain ⟨ad162, e162, hx162_0, hx162_1⟩ := at_T30 HR0.out x7_2 p162 q162
                      (try rw [← Nbq18.out] at hx162_0)
                      cases e162
                      replace hx162_0 := (HB.out.cell (World.block_lt_of_cell? w _ hx162_0)).trans hx162_0
                      replace hx162_1 := (HB.out.cell (World.block_lt_of_cell? w _ hx162_1)).trans hx162_1
                      replace p162 := eq_true p162
                      replace q162 := eq_true q162
                      have p163 : 0 ≤ (x7_2 : Int) := of_decide_eq_true (by first | (with_reducible assumption) | assumption)
                      have q163 : x7_2 < (l0.length : Int) := of_decide_eq_true (by first | (with_reducible assumption) | assumption)
                      obtain ⟨ad163, e163, hx163_0, hx163_1⟩ := at_T30 HR0.out x7_2 p163 q163
                      (try rw [← Nbq18.out] at hx163_0)
                      obtain rfl : ad162 = ad163 := (by injection e163)
                      replace hx163_0 := (HB.out.cell (World.block_lt_of_cell? w _ hx163_0)).trans hx163_0
                      replace hx163_1 := (HB.out.cell (World.block_lt_of_cell? w _ hx163_1)).trans hx163_1
                      replace p163 := eq_true p163
                      replace q163 := eq_true q163
                      go_wp2_with (first | (go_at_call 38; (with_reducible refine (decorumref09_Form.calls k2 ((rd_T30 l0 x7_2).f1) t164 _ A20.out).mono ?_); rintro e w26 ⟨rfl, hb⟩; have n0_ := Aside0.mk (below_step (by repeat (first | (with_reducible first | exact HB.out | apply below_alloc | apply pw_below_drewN | apply below_drew1) | exact HB.out)) hb); clear HB; have HB := n0_; clear n0_; (try clear hb); (try clear hb2); (try clear hk); (try clear hi); have p165 : 0 ≤ (x7_2 : Int) := of_decide_eq_true (by first | (with_reducible assumption) | assumption); have q165 : x7_2 < (l0.length : Int) := of_decide_eq_true (by first | (with_reducible assumption) | assumption); obtain ⟨ad165, e165, hx165_0, hx165_1⟩ := at_T30 HR0.out x7_2 p165 q165; (try rw [← Nbq18.out] at hx165_0); obtain rfl : ad162 = ad165 := (by injection e165); replace hx165_0 := (HB.out.cell (World.block_lt_of_cell? w _ hx165_0)).trans hx165_0; replace hx165_1 := (HB.out.cell (World.block_lt_of_cell? w _ hx165_1)).trans hx165_1; replace p165 := eq_true p165; replace q165 := eq_true q165) | (go_at_call 37; (with_reducible refine (decorumref09_Match.calls k2 ((rd_T30 l0 x7_2).f1) a1 false _ A22.out).mono ?_); rintro e w27 ⟨rfl, hb⟩; have n0_ := Aside0.mk (below_step (by repeat (first | (with_reducible first | exact HB.out | apply below_alloc | apply pw_below_drewN | apply below_drew1) | exact HB.out)) hb); clear HB; have HB := n0_; clear n0_; (try clear hb); (try clear hb2); (try clear hk); (try clear hi)))
                      go_roundg k2
                      case measure => have := HK1.out; have := HK2.out; omega
                      case rel => exact ⟨(wrap64 (x7_2 + 1)), (by first | rfl | (simp; done) | (simp [*]; done)), H', ⟨by have := HK1.out; have := HK2.out; omega⟩, ⟨by repeat (first | (with_reducible first | exact HB.out | apply below_alloc | apply pw_below_drewN | apply below_drew1) | exact HB.out)⟩⟩
                  · rw [if_neg c21] at H
                    have c21b0 : ((t164.size : Int) == x5_1) = false := beq_eq_false_iff_ne.mpr c21
                    have c21b1 : ((t164.size : Int) != x5_1) = true := bne_iff_ne.mpr c21
                    have H' := Aside0.mk H
                    clear H
                    have p162 : 0 ≤ (x7_2 : Int) := of_decide_eq_true (by first | (with_reducible assumption) | assumption)
                    have q162 : x7_2 < (l0.length : Int) := of_decide_eq_true (by first | (with_reducible assumption) | assumption)
                    obtain ⟨ad162, e162, hx162_0, hx162_1⟩ := at_T30 HR0.out x7_2 p162 q162
                    (try rw [← Nbq18.out] at hx162_0)
                    cases e162
                    replace hx162_0 := (HB.out.cell (World.block_lt_of_cell? w _ hx162_0)).trans hx162_0
                    replace hx162_1 := (HB.out.cell (World.block_lt_of_cell? w _ hx162_1)).trans hx162_1
                    replace p162 := eq_true p162
                    replace q162 := eq_true q162
                    have p163 : 0 ≤ (x7_2 : Int) := of_decide_eq_true (by first | (with_reducible assumption) | assumption)
                    have q163 : x7_2 < (l0.length : Int) := of_decide_eq_true (by first | (with_reducible assumption) | assumption)
                    obtain ⟨ad163, e163, hx163_0, hx163_1⟩ := at_T30 HR0.out x7_2 p163 q163
                    (try rw [← Nbq18.out] at hx163_0)
                    obtain rfl : ad162 = ad163 := (by injection e163)
                    replace hx163_0 := (HB.out.cell (World.block_lt_of_cell? w _ hx163_0)).trans hx163_0
                    replace hx163_1 := (HB.out.cell (World.block_lt_of_cell? w _ hx163_1)).trans hx163_1
                    replace p163 := eq_true p163
                    replace q163 := eq_true q163
                    go_wp2_with (first | (go_at_call 38; (with_reducible refine (decorumref09_Form.calls k2 ((rd_T30 l0 x7_2).f1) t164 _ A20.out).mono ?_); rintro e w28 ⟨rfl, hb⟩; have n0_ := Aside0.mk (below_step (by repeat (first | (with_reducible first | exact HB.out | apply below_alloc | apply pw_below_drewN | apply below_drew1) | exact HB.out)) hb); clear HB; have HB := n0_; clear n0_; (try clear hb); (try clear hb2); (try clear hk); (try clear hi)))
                    go_roundg k2
                    case measure => have := HK1.out; have := HK2.out; omega
                    case rel => exact ⟨(wrap64 (x7_2 + 1)), (by first | rfl | (simp; done) | (simp [*]; done)), H', ⟨by have := HK1.out; have := HK2.out; omega⟩, ⟨by repeat (first | (with_reducible first | exact HB.out | apply below_alloc | apply pw_below_drewN | apply below_drew1) | exact HB.out)⟩⟩
                · replace c19 := Bool.eq_false_iff.mpr c19
                  subst c19
                  have H1 : (decorumref09_Allowed.l1 k2 l0 a1 x5_1 (wrap64 (x7_2 + 1))) = some r := by rw [if_neg (show ¬ (false = true) by decide)] at H; exact H
                  clear H
                  have H := H1
                  clear H1
                  have H' := Aside0.mk H
                  clear H
                  have p162 : 0 ≤ (x7_2 : Int) := of_decide_eq_true (by first | (with_reducible assumption) | assumption)
                  have q162 : x7_2 < (l0.length : Int) := of_decide_eq_true (by first | (with_reducible assumption) | assumption)
                  obtain ⟨ad162, e162, hx162_0, hx162_1⟩ := at_T30 HR0.out x7_2 p162 q162
                  (try rw [← Nbq18.out] at hx162_0)
                  cases e162
                  replace hx162_0 := (HB.out.cell (World.block_lt_of_cell? w _ hx162_0)).trans hx162_0
                  replace hx162_1 := (HB.out.cell (World.block_lt_of_cell? w _ hx162_1)).trans hx162_1
                  replace p162 := eq_true p162
                  replace q162 := eq_true q162
                  go_wp2
                  go_roundg k2
                  case measure => have := HK1.out; have := HK2.out; omega
                  case rel => exact ⟨(wrap64 (x7_2 + 1)), (by first | rfl | (simp; done) | (simp [*]; done)), H', ⟨by have := HK1.out; have := HK2.out; omega⟩, ⟨by repeat (first | (with_reducible first | exact HB.out | apply below_alloc | apply pw_below_drewN | apply below_drew1) | exact HB.out)⟩⟩
              · rw [if_neg c17] at H
                exact absurd H (by simp)
            · rw [if_neg c16] at H
              have c16b0 : decide (x7_2 < (l0.length : Int)) = false := decide_eq_false c16
              clear c16
              obtain rfl := Option.some.inj H
              go_wp2
              go_ret
              exact ⟨by first | rfl | (simp [errW_none, errW_some] <;> rfl) | (simp [*, errW_none, errW_some] <;> rfl) | (simp [wrap64]; done), by repeat (first | (with_reducible first | exact HB.out | apply below_alloc | apply pw_below_drewN | apply below_drew1) | exact HB.out)⟩

end Go.Proofs.YtdnaddignhjihaaDoor.QMM
namespace Go.Proofs.YtdnaddignhjihaaDoor.GivenM
open Go.RowKit Go.Proofs.YtdnaddignhjihaaDoor.QMB Go.Proofs.YtdnaddignhjihaaDoorW.PrintWords Go.Proofs.YtdnaddignhjihaaDoorW.PrintLast
set_option linter.unusedVariables false
open Go.Proofs.YtdnaddignhjihaaDoor.Given (Shp)
def starL (whole : Bool) : List ByteArray → ByteArray → Bool
  | [], _ => true
  | p :: ps, s => if whole && ps.isEmpty then Lib.hasSuffix s.data.toList p.data.toList else
      if Lib.index s.data.toList p.data.toList < 0 then false else starL whole ps (s.extract ((Lib.index s.data.toList p.data.toList).toNat + p.size) s.size)
def starB (p0 : ByteArray) (ps : List ByteArray) (s : ByteArray) (whole : Bool) : Bool :=
  if Lib.hasPrefix s.data.toList p0.data.toList then
    (if ps.isEmpty then !whole || (s.extract p0.size s.size).data.toList.isEmpty else starL whole ps (s.extract p0.size s.size))
  else false

theorem cell_of_row {w : World} {b : Nat} {P : List ByteArray} (h : w.heap[b]? = some (.cells (P.map Value.string).toArray 9)) (i : Nat) (hi : i < P.length) :
    w.cell? ⟨b, i, none⟩ = some (.string (P[i])) := by
  simp [World.cell?, h, hi]

theorem starL_last (x t : ByteArray) : starL true [x] t = Lib.hasSuffix t.data.toList x.data.toList := by simp [starL]
theorem starL_miss {whole : Bool} {x t : ByteArray} {ps : List ByteArray} (h : (whole && ps.isEmpty) = false) (hn : Lib.index t.data.toList x.data.toList < 0) : starL whole (x :: ps) t = false := by
  simp [starL, h, hn]
theorem starL_hit {whole : Bool} {x t : ByteArray} {ps : List ByteArray} {j : Nat} (h : (whole && ps.isEmpty) = false) (hn : Lib.index t.data.toList x.data.toList = j) :
    starL whole (x :: ps) t = starL whole ps (t.extract (j + x.size) t.size) := by
  have h0 : ¬ ((j : Int) < 0) := by omega
  rw [starL, h, hn, if_neg (by simp), if_neg h0]; rfl

set_option maxHeartbeats 4000000 in
set_option maxRecDepth 1000000 in
theorem star_calls (p0 : ByteArray) (ps : List ByteArray) (s : ByteArray) (whole : Bool) (b n c : Nat) (w : World) (hn : n = ps.length + 1) (hc : n ≤ c)
    (hr : w.heap[b]? = some (.cells ((p0 :: ps).map Value.string).toArray 9)) (hS : Shp w) (hs : s.size < 4294967281) (hl : ps.length < 1000000) :
    Calls Tryd.prog 51 #[.slice (some ⟨b, 0, none⟩) n c, .string s, .bool whole] w fun e w' => e = .returned (.bool (starB p0 ps s whole)) ∧ w' = w := by
  obtain ⟨m, hm⟩ := hS
  have hcell := cell_of_row hr
  have h0 := hcell 0 (by simp)
  simp only [List.getElem_cons_zero] at h0
  have hb0 : ∀ (x : Bool), (x == true) = x := by intro x; cases x <;> rfl
  cases hp : Lib.hasPrefix s.data.toList p0.data.toList with
  | false =>
    go_enter Tryd.func51, Tryd.ntmps51
    go_wp2_with (first | (go_at_call 76; refine (Tryd.strings_HasPrefix _ _ _).mono ?_; rintro e w1 ⟨rfl, e1⟩; obtain rfl := e1.symm; rw [hp]))
    go_ret
    exact ⟨by simp [starB, hp], rfl⟩
  | true =>
    have hle : p0.size ≤ s.size := by
      have := (List.isPrefixOf_iff_prefix.1 hp).length_le
      simpa using this
    cases ps with
    | nil =>
      subst hn
      go_enter Tryd.func51, Tryd.ntmps51
      go_wp2_with (first | (go_at_call 76; refine (Tryd.strings_HasPrefix _ _ _).mono ?_; rintro e w1 ⟨rfl, e1⟩; obtain rfl := e1.symm; rw [hp]))
      all_goals go_ret
      all_goals refine ⟨?_, rfl⟩
      all_goals (simp only [starB, hp, if_true, List.isEmpty_nil]; first | (simp [*]; done) | (cases whole <;> simp_all [Lib.toList_data]))
    | cons q qs =>
      have hs1 : (s.extract p0.size s.size).size < 4294967281 := by simp; omega
      subst hn
      go_enter Tryd.func51, Tryd.ntmps51
      have hw7 : wrap64 ((qs.length : Int) + 1) = (qs.length : Int) + 1 := by simp only [List.length_cons] at hl; simp only [wrap64]; omega
      have hc2 : (c = 1) = False := eq_false (by simp at hc; omega)
      have h11 : (((qs.length : Int) + 1 + 1) == 1) = false := by simp; omega
      go_wp2_with (first | (go_at_call 76; refine (Tryd.strings_HasPrefix _ _ _).mono ?_; rintro e w1 ⟨rfl, e1⟩; obtain rfl := e1.symm; rw [hp]))
      have hB : starB p0 (q :: qs) s whole = starL whole (q :: qs) (s.extract p0.size s.size) := by simp [starB, hp]
      rw [hw7]
      go_loopw [1, 38] (fun v1 v38 wr => ∃ (i : Nat) (t : ByteArray), v1 = .string t ∧ v38 = .int .i64 i ∧ i ≤ (q :: qs).length ∧ t.size < 4294967281 ∧ Hid (starL whole ((q :: qs).drop i) t = starL whole (q :: qs) (s.extract p0.size s.size)) ∧ wr = w) (fun v1 v38 wr => (q :: qs).length - (intOf v38).toNat)
      case atStart =>
        refine ⟨0, _, rfl, rfl, by omega, hs1, rfl, rfl⟩
      case round =>
        obtain ⟨i, t, rfl, rfl, hi, ht, hH, rfl⟩ := hrel
        simp only [List.length_cons] at hi hl
        by_cases hlt : i < qs.length + 1
        · have hlt' : ((i : Int) < (qs.length : Int) + 1) = True := eq_true (by omega)
          have hci := hcell (i + 1) (by simp; omega)
          simp only [List.getElem_cons_succ] at hci
          obtain ⟨x, hx⟩ : ∃ x, x = (q :: qs)[i]'(by simpa using hlt) := ⟨_, rfl⟩
          rw [← hx] at hci
          have hci' : wr.cell? ⟨b, 1 + i, none⟩ = some (.string x) := by rw [Nat.add_comm]; exact hci
          have hin := Lib.index_ge t.data.toList x.data.toList
          have hro := Lib.index_room t.data.toList x.data.toList
          simp only [ByteArray.size_data, Array.length_toList] at hro
          have hd : (q :: qs).drop i = x :: (q :: qs).drop (i + 1) := by rw [hx]; exact (List.drop_eq_getElem_cons (by simpa using hlt))
          rw [hd] at hH
          clear hcell hr hx hd
          by_cases hlast : whole = true ∧ i = qs.length
          · obtain ⟨rfl, rfl⟩ := hlast
            go_wp2_with (first | (go_at_call 50; refine (Tryd.strings_HasSuffix _ _ _ (Nat.le_trans (Nat.le_of_lt ht) (by decide))).mono ?_; rintro e w1 ⟨rfl, e1⟩; obtain rfl := e1.symm))
            go_ret
            have h1 := hH.out
            rw [List.drop_of_length_le (show (q :: qs).length ≤ qs.length + 1 from Nat.le_refl _), starL_last] at h1
            exact ⟨by rw [hB, ← h1]; rfl, rfl⟩
          · have hlast2 : (whole && ((q :: qs).drop (i + 1)).isEmpty) = false := by
              cases whole with
              | false => rfl
              | true =>
                have : ¬ i = qs.length := fun h => hlast ⟨rfl, h⟩
                simp; omega
            have hne : whole = false ∨ (whole = true ∧ ((i : Int) + 1 == (qs.length : Int) + 1) = false) := by
              cases whole with
              | false => exact .inl rfl
              | true =>
                have : ¬ i = qs.length := fun h => hlast ⟨rfl, h⟩
                exact .inr ⟨rfl, by simp; omega⟩
            clear hs1 hle hc
            obtain ⟨ix, hix⟩ : ∃ ix : Int, Lib.index t.data.toList x.data.toList = ix := ⟨_, rfl⟩
            rw [hix] at hin hro
            by_cases hneg : ix < 0
            · have hneg' : (ix < 0) = True := eq_true hneg
              have h1 := hH.out
              rw [starL_miss hlast2 (by rw [hix]; exact hneg), ← hB] at h1
              replace h1 := h1.symm
              clear hro hin hneg hH hB hlast2 hlast
              rcases hne with rfl | ⟨rfl, hne⟩
              · go_wp2_with (first | (go_at_call 77; refine (Tryd.strings_Index _ _ m _ ht hm).mono ?_; rintro e w1 ⟨rfl, e1⟩; obtain rfl := e1.symm; rw [hix]))
                go_ret
                exact ⟨by rw [h1]; rfl, rfl⟩
              · go_wp2_with (first | (go_at_call 77; refine (Tryd.strings_Index _ _ m _ ht hm).mono ?_; rintro e w1 ⟨rfl, e1⟩; obtain rfl := e1.symm; rw [hix]))
                go_ret
                exact ⟨by rw [h1]; rfl, rfl⟩
            · obtain ⟨j, rfl⟩ : ∃ j : Nat, ix = j := ⟨ix.toNat, by omega⟩
              have hro2 := hro (by omega)
              have h1 := hH.out
              rw [starL_hit hlast2 hix] at h1
              have hts : (t.extract (j + x.size) t.size).size < 4294967281 := by simp; omega
              have hw8 : wrap64 ((j : Int) + (x.size : Int)) = ((j + x.size : Nat) : Int) := by simp only [wrap64]; omega
              have hsl1 : (((j + x.size : Nat) : Int) ≤ (t.size : Int)) = True := eq_true (by omega)
              have hj0 : ((j : Int) < 0) = False := eq_false (by omega)
              have H1 : Hid _ := h1
              clear hro hin hneg hlast2 hlast h1 hH hB
              have h1 := H1
              rcases hne with rfl | ⟨rfl, hne⟩
              · go_wp2_with (first | (go_at_call 77; refine (Tryd.strings_Index _ _ m _ ht hm).mono ?_; rintro e w1 ⟨rfl, e1⟩; obtain rfl := e1.symm; rw [hix]))
                go_roundw
                case rel =>
                  exact ⟨i + 1, _, rfl, by go_num, by simp only [List.length_cons]; omega, hts, h1, trivial⟩
                case measure =>
                  simp [intOf]; omega
              · go_wp2_with (first | (go_at_call 77; refine (Tryd.strings_Index _ _ m _ ht hm).mono ?_; rintro e w1 ⟨rfl, e1⟩; obtain rfl := e1.symm; rw [hix]))
                go_roundw
                case rel =>
                  exact ⟨i + 1, _, rfl, by go_num, by simp only [List.length_cons]; omega, hts, h1, trivial⟩
                case measure =>
                  simp [intOf]; omega
        · have hlt' : ((i : Int) < (qs.length : Int) + 1) = False := eq_false (by omega)
          obtain rfl : i = qs.length + 1 := by omega
          go_wp2
          go_ret
          have h1 := hH.out
          rw [List.drop_of_length_le (show (q :: qs).length ≤ qs.length + 1 from Nat.le_refl _), starL] at h1
          exact ⟨by rw [hB, ← h1]; rfl, rfl⟩
end Go.Proofs.YtdnaddignhjihaaDoor.GivenM
namespace Go.Proofs.YtdnaddignhjihaaDoor.GivenM
open Go.RowKit Go.Proofs.YtdnaddignhjihaaDoor.QMB Go.Proofs.YtdnaddignhjihaaDoor.QMM Go.Proofs.YtdnaddignhjihaaDoorW.PrintWords Go.Proofs.YtdnaddignhjihaaDoorW.PrintLast
set_option linter.unusedVariables false
/-- A pattern and a path in one form: does the path begin like the pattern? -/
def starP (s : ByteArray) (whole : Bool) : List ByteArray → Bool
  | [] => false
  | q :: qs => starB q qs s whole
def matchN (a p : ByteArray) : Bool :=
  let whole := Lib.hasSuffix a.data.toList [36]
  let b := if whole then a.extract 0 (a.size - 1) else a
  starP p whole (Lib.splitB ⟨#[42]⟩ 0 (Lib.countB b ⟨#[42]⟩) b)
def match_Match.f (a p : ByteArray) : Option Bool :=
  (match_one.f a).bind fun a' => (match_one.f p).bind fun p' => if a'.size < 1000000 ∧ p'.size < 4294967281 then some (matchN a' p') else none

open Go.Proofs.YtdnaddignhjihaaDoor.Given (Shp Shp.lt Shp.below)
theorem shp_alloc {w : World} (h : Shp w) (o : Obj) : Shp (w.alloc o) := h.below (Below.alloc (Below.refl _ _) (Nat.le_refl _) o)

theorem alloc_top (w : World) (o : Obj) : (w.alloc o).heap[w.heap.size]? = some o := by
  show (w.heap.push o)[w.heap.size]? = _
  simp

/-- The last call: the parts of a pattern, and star. -/
theorem parts_of (b : ByteArray) (hb : b.size < 1000000) : ∃ q qs, Lib.splitB ⟨#[42]⟩ 0 (Lib.countB b ⟨#[42]⟩) b = q :: qs ∧ Lib.countB b ⟨#[42]⟩ = qs.length ∧ qs.length < 1000000 := by
  have h1 := Lib.splitB_all ⟨#[42]⟩ (by decide) 0 _ b rfl
  have h2 := Lib.countB_le ⟨#[42]⟩ (by decide) _ b (Nat.le_refl _)
  cases hs : Lib.splitB ⟨#[42]⟩ 0 (Lib.countB b ⟨#[42]⟩) b with
  | nil => rw [hs] at h1; simp at h1
  | cons q qs =>
    rw [hs] at h1
    simp only [List.length_cons] at h1
    exact ⟨q, qs, rfl, by omega, by omega⟩

set_option maxHeartbeats 4000000 in
set_option maxRecDepth 1000000 in
theorem match_Match.calls (a0 a1 : ByteArray) (r : Bool) (w : World) (h : match_Match.f a0 a1 = some r) (hS_ : Shp w) :
    Calls Tryd.prog 36 #[.string a0, .string a1] w fun e w' => e = .returned (.bool r) ∧ Below w.heap.size w w' := by
  obtain ⟨A, hA0, h⟩ := Option.bind_eq_some_iff.mp h
  obtain ⟨P, hP0, h⟩ := Option.bind_eq_some_iff.mp h
  split at h
  case isFalse => cases h
  rename_i hz
  obtain ⟨hzA, hzP⟩ := hz
  have hr := Option.some.inj h
  clear h
  have A2 := Aside0.mk hA0
  have A3 := Aside0.mk hP0
  have HS := Aside0.mk hS_
  have HB := Aside0.mk (Below.refl w.heap.size w)
  clear hA0 hP0 hS_
  cases hw : Lib.hasSuffix A.data.toList (⟨#[36]⟩ : ByteArray).data.toList with
  | true =>
    have hA0 : A.size ≠ 0 := by
      intro e
      have : A.data.toList = [] := List.eq_nil_of_length_eq_zero (by simpa using e)
      rw [this] at hw
      exact absurd hw (by decide)
    have hw1 : wrap64 ((A.size : Int) - 1) = ((A.size - 1 : Nat) : Int) := by simp only [wrap64]; omega
    obtain ⟨q, qs, e1_, e2_, e3_⟩ := parts_of (A.extract 0 (A.size - 1)) (by simp; omega)
    have hr1 : starB q qs P true = r := by
      rw [← hr]
      have hw' : Lib.hasSuffix A.data.toList [36] = true := hw
      simp only [matchN, hw', if_true, e1_, starP]
    clear hr
    go_enter Tryd.func36, Tryd.ntmps36
    go_wp2_with (first
      | ((with_reducible refine gate_callee (f := 35) rfl ?_); refine goesL_ (some 7) rfl rfl Tryd.func35 (by kernel_rfl) rfl #[.string a0] rfl (by (try simp only [List.map_toArray, List.map_cons, List.map_nil]); first | done | rfl) ?_; (with_reducible refine (match_one.calls a0 A _ A2.out).mono ?_); rintro e w4 ⟨rfl, hb⟩; refine ⟨_, rfl, ?_⟩; have n0_ := Aside0.mk (below_step HB.out hb); clear HB; have HB := n0_; clear n0_; clear hb)
      | ((with_reducible refine gate_callee (f := 35) rfl ?_); refine goesL_ (some 9) rfl rfl Tryd.func35 (by kernel_rfl) rfl #[.string a1] rfl (by (try simp only [List.map_toArray, List.map_cons, List.map_nil]); first | done | rfl) ?_; (with_reducible refine (match_one.calls a1 P _ A3.out).mono ?_); rintro e w4 ⟨rfl, hb⟩; refine ⟨_, rfl, ?_⟩; have n0_ := Aside0.mk (below_step HB.out hb); clear HB; have HB := n0_; clear n0_; clear hb)
      | (go_at_call 50; refine (Tryd.strings_HasSuffix _ _ _ (by omega)).mono ?_; rintro e w6 ⟨rfl, e1⟩; obtain rfl := e1.symm; rw [hw])
      | (go_at_call 52; obtain ⟨m, hm⟩ := Shp.below HS.out HB.out; refine (Tryd.strings_Split (A.extract 0 (A.size - 1)) _ m _ (by simp; omega) hm (by decide)).mono ?_; rintro e w7 ⟨rfl, e1⟩; obtain rfl := e1.symm; rw [e1_, e2_])
      | (go_at_call 51; refine (star_calls q qs P true _ _ _ _ rfl (Nat.le_refl _) (alloc_top _ _) (shp_alloc (Shp.below HS.out HB.out) _) hzP e3_).mono ?_; rintro e w8 ⟨rfl, e1⟩; obtain rfl := e1.symm))
    go_ret
    exact ⟨rfl, Below.alloc HB.out HB.out.size _⟩
  | false =>
    obtain ⟨q, qs, e1_, e2_, e3_⟩ := parts_of A hzA
    have hr1 : starB q qs P false = r := by
      rw [← hr]
      have hw' : Lib.hasSuffix A.data.toList [36] = false := hw
      simp only [matchN, hw', Bool.false_eq_true, if_false, e1_, starP]
    clear hr
    go_enter Tryd.func36, Tryd.ntmps36
    go_wp2_with (first
      | ((with_reducible refine gate_callee (f := 35) rfl ?_); refine goesL_ (some 7) rfl rfl Tryd.func35 (by kernel_rfl) rfl #[.string a0] rfl (by (try simp only [List.map_toArray, List.map_cons, List.map_nil]); first | done | rfl) ?_; (with_reducible refine (match_one.calls a0 A _ A2.out).mono ?_); rintro e w4 ⟨rfl, hb⟩; refine ⟨_, rfl, ?_⟩; have n0_ := Aside0.mk (below_step HB.out hb); clear HB; have HB := n0_; clear n0_; clear hb)
      | ((with_reducible refine gate_callee (f := 35) rfl ?_); refine goesL_ (some 9) rfl rfl Tryd.func35 (by kernel_rfl) rfl #[.string a1] rfl (by (try simp only [List.map_toArray, List.map_cons, List.map_nil]); first | done | rfl) ?_; (with_reducible refine (match_one.calls a1 P _ A3.out).mono ?_); rintro e w4 ⟨rfl, hb⟩; refine ⟨_, rfl, ?_⟩; have n0_ := Aside0.mk (below_step HB.out hb); clear HB; have HB := n0_; clear n0_; clear hb)
      | (go_at_call 50; refine (Tryd.strings_HasSuffix _ _ _ (by omega)).mono ?_; rintro e w6 ⟨rfl, e1⟩; obtain rfl := e1.symm; rw [hw])
      | (go_at_call 52; obtain ⟨m, hm⟩ := Shp.below HS.out HB.out; refine (Tryd.strings_Split A _ m _ (by omega) hm (by decide)).mono ?_; rintro e w7 ⟨rfl, e1⟩; obtain rfl := e1.symm; rw [e1_, e2_])
      | (go_at_call 51; refine (star_calls q qs P false _ _ _ _ rfl (Nat.le_refl _) (alloc_top _ _) (shp_alloc (Shp.below HS.out HB.out) _) hzP e3_).mono ?_; rintro e w8 ⟨rfl, e1⟩; obtain rfl := e1.symm))
    go_ret
    exact ⟨rfl, Below.alloc HB.out HB.out.size _⟩
end Go.Proofs.YtdnaddignhjihaaDoor.GivenM
