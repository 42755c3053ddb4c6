/- Rate answers as the document says, of any events: no condition. -/
import Derived.Test.YtaggkdnnnmbblaaQAuditRatesx
namespace Go.Proofs.Ytaggkdnnnmbblaa.PureAuditRates
open Go.RowKit Go.Proofs.Ytaggkdnnnmbblaa.QAuditRates Go.Proofs.Ytaggkdnnnmbblaa.Given Go.Proofs.Ytaggkdnnnmbblaa.QBase Go.Proofs.YtaggkdnnnmbblaaW.PrintWords Go.Proofs.YtaggkdnnnmbblaaW.PrintLast
set_option linter.unusedVariables false
set_option linter.unusedSimpArgs false

/-- What a bucket lets from x to y. -/
def lets (rate burst x y : Int) : Int := ad (ml burst 1000) (ml rate (sb y x))
def rowOk (rate burst x : Int) : Int → List Int → Bool
  | _, [] => true
  | n, y :: t => decide (ml (n + 1) 1000 ≤ lets rate burst x y) && rowOk rate burst x (n + 1) t
def rateL (rate burst : Int) : List Int → Bool
  | [] => true
  | x :: t => rowOk rate burst x 0 (x :: t) && rateL rate burst t
def times (l : List Ev) : List Int := (l.filter wentB).map (·.f1)
def innerWant (rate burst x : Int) : Int → List Ev → Bool
  | _, [] => true
  | n, e :: t => if wentB e then decide (1000 * (n + 1) ≤ lets rate burst x e.f1) && innerWant rate burst x (n + 1) t else innerWant rate burst x n t
def wantR (rate burst : Int) : List Ev → Bool
  | [] => true
  | e :: t => (!wentB e || innerWant rate burst e.f1 0 (e :: t)) && wantR rate burst t
theorem ml_small (n : Int) (h : 0 ≤ n ∧ n ≤ 1000000) : ml n 1000 = 1000 * n := by
  unfold ml
  rw [hd_id n (by omega) (by omega), hd_id 1000 (by omega) (by omega), hd_id _ (by omega) (by omega)]
  omega
theorem inner_row (rate burst x : Int) : ∀ (l : List Ev) (n : Int), 0 ≤ n → n + l.length ≤ 1000 → innerWant rate burst x n l = rowOk rate burst x n (times l)
  | [], n, _, _ => rfl
  | e :: t, n, h0, h1 => by
    simp only [List.length_cons] at h1
    rw [innerWant]
    rcases hw : wentB e
    · rw [if_neg (by decide), inner_row rate burst x t n h0 (by omega)]
      simp [times, hw]
    · rw [if_pos rfl, inner_row rate burst x t (n + 1) (by omega) (by omega)]
      have e1 : times (e :: t) = e.f1 :: times t := by simp [times, hw]
      rw [e1, rowOk, ml_small (n + 1) (by omega)]
theorem want_rate (rate burst : Int) : ∀ l : List Ev, l.length ≤ 1000 → wantR rate burst l = rateL rate burst (times l)
  | [], _ => rfl
  | e :: t, h => by
    simp only [List.length_cons] at h
    rw [wantR, want_rate rate burst t (by omega)]
    rcases hw : wentB e
    · simp [times, hw]
    · rw [inner_row rate burst e.f1 (e :: t) 0 (by omega) (by simp; omega)]
      have e1 : times (e :: t) = e.f1 :: times t := by simp [times, hw]
      rw [e1, rateL]
      simp
theorem times_len (l : List Ev) : (times l).length ≤ l.length := by
  unfold times
  rw [List.length_map]
  exact List.length_filter_le _ _

theorem went_f' (e : Ev) : decorumlaw22_went.f e.f0 e.f1 e.f2.f0 e.f2.f1 e.f2.f2 e.f2.f3 e.f2.f4 = some (wentB e) := by
  unfold decorumlaw22_went.f wentB
  by_cases h : e.f0 = 1 <;> simp [h]
theorem wrap_succ (i : Nat) (h : i < 100000) : wrap64 ((i : Int) + 1) = ((i + 1 : Nat) : Int) := by rw [wrap_in _ (by omega) (by omega)]; omega
theorem radd_sb (k : Nat) (a b : Int) (hk : 0 < k) : decorumref01_Add.f k a (wrap64 (-(hd b))) = some (sb a b) := by
  have hb := hd_bd b
  rw [wrap_in _ (by omega) (by omega), radd_eq k _ _ hk]
  rfl
theorem ev_two {α : Type} {g f : Nat → Option α} {r : α} (n : Nat) (h : ∀ k, g (k + n) = f k) (e : Ev f r) : Ev g r := by
  obtain ⟨K, hK⟩ := e
  exact ⟨K + n, fun k hk => by
    obtain ⟨m, rfl⟩ : ∃ m, k = m + n := ⟨k - n, by omega⟩
    rw [h m]
    exact hK m (by omega)⟩
theorem ev_at {α : Type} {g f : Nat → Option α} {r : α} (n m : Nat) (h : ∀ k, g (k + n) = f (k + m)) (e : Ev f r) : Ev g r := by
  obtain ⟨K, hK⟩ := e
  exact ⟨K + n, fun k hk => by
    obtain ⟨q, rfl⟩ : ∃ q, k = q + n := ⟨k - n, by omega⟩
    rw [h q]
    exact hK (q + m) (by omega)⟩
theorem rd_int (at_ : List Int) (i : Nat) (h : i < at_.length) : rd at_ (i : Int) = at_[i] := by
  simp [rd, h]

/-! the program's -/
theorem rate_row (at_ : List Int) (hl : at_.length ≤ 1000) (rate burst : Int) (i : Nat) (hi : i < at_.length) (L : Int) (b : Bool) : ∀ (d j : Nat), i ≤ j → j + d = at_.length →
    Ev (fun k => audit_Rate.l1 k rate burst at_ L ((i + 1 : Nat) : Int)) b →
    Ev (fun k => audit_Rate.l2 k rate burst at_ (i : Int) (j : Int) L (i : Int)) (rowOk rate burst at_[i] ((j : Int) - i) (at_.drop j) && b) := by
  intro d
  induction d with
  | zero =>
    intro j hij hj h
    rw [List.drop_eq_nil_of_le (by omega)]
    refine Ev.step (f := fun k => audit_Rate.l1 k rate burst at_ L ((i + 1 : Nat) : Int)) (fun k => by simp only [audit_Rate.l2]; rw [if_neg (by omega), wrap_succ _ (by omega)]) ?_
    simpa [rowOk] using h
  | succ d ih =>
    intro j hij hj h
    have hjl : j < at_.length := by omega
    have ih' := ih (j + 1) (by omega) (by omega) h
    rw [List.drop_eq_getElem_cons hjl, rowOk]
    have hs : ∀ k, audit_Rate.l2 (k + 2) rate burst at_ (i : Int) (j : Int) L (i : Int) = if ml ((j : Int) - i + 1) 1000 ≤ lets rate burst at_[i] at_[j] then audit_Rate.l2 (k + 1) rate burst at_ (i : Int) ((j + 1 : Nat) : Int) L (i : Int) else some false := by
      intro k
      simp only [audit_Rate.l2]
      rw [if_pos (by omega), wrap_in ((j : Int) - i) (by omega) (by omega), wrap_in ((j : Int) - i + 1) (by omega) (by omega), mul_eq _ _ _ (by omega), Option.bind_some, mul_eq _ _ _ (by omega), Option.bind_some,
        if_pos (by omega), if_pos (by omega), if_pos (by omega), rd_int at_ i hi, rd_int at_ j hjl, sub_f, Option.bind_some, mul_eq _ _ _ (by omega), Option.bind_some, add_eq, Option.bind_some, wrap_succ _ (by omega)]
      unfold lets
      by_cases hc : ml ((j : Int) - i + 1) 1000 ≤ ad (ml burst 1000) (ml rate (sb at_[j] at_[i]))
      · rw [if_pos hc, if_neg (by omega)]
      · rw [if_neg hc, if_pos (by omega)]
    by_cases hc : ml ((j : Int) - i + 1) 1000 ≤ lets rate burst at_[i] at_[j]
    · refine ev_at 2 1 (f := fun k => audit_Rate.l2 k rate burst at_ (i : Int) ((j + 1 : Nat) : Int) L (i : Int)) (fun k => by rw [hs k, if_pos hc]) ?_
      rw [decide_eq_true hc, Bool.true_and, show (j : Int) - i + 1 = ((j + 1 : Nat) : Int) - i by omega]
      exact ih'
    · refine ev_at 2 0 (f := fun _ => some false) (fun k => by rw [hs k, if_neg hc]) ?_
      rw [decide_eq_false hc, Bool.false_and, Bool.false_and]
      exact Ev.now _
theorem rate_rows (at_ : List Int) (hl : at_.length ≤ 1000) (rate burst : Int) : ∀ (d i : Nat), i + d = at_.length →
    Ev (fun k => audit_Rate.l1 k rate burst at_ (at_.length : Int) (i : Int)) (rateL rate burst (at_.drop i)) := by
  intro d
  induction d with
  | zero =>
    intro i hi
    rw [List.drop_eq_nil_of_le (by omega), rateL]
    exact Ev.step (f := fun _ => some true) (fun k => by simp only [audit_Rate.l1]; rw [if_neg (by omega)]) (Ev.now _)
  | succ d ih =>
    intro i hi
    have hil : i < at_.length := by omega
    have h := rate_row at_ hl rate burst i hil (at_.length : Int) _ (at_.length - i) i (Nat.le_refl _) (by omega) (ih (i + 1) (by omega))
    refine Ev.step (f := fun k => audit_Rate.l2 k rate burst at_ (i : Int) (i : Int) (at_.length : Int) (i : Int)) (fun k => by simp only [audit_Rate.l1]; rw [if_pos (by omega)]) ?_
    rw [show (i : Int) - i = 0 by omega] at h
    rw [show rateL rate burst (at_.drop i) = (rowOk rate burst at_[i] 0 (at_.drop i) && rateL rate burst (at_.drop (i + 1))) by
      rw [List.drop_eq_getElem_cons hil]; rfl]
    exact h
theorem times_succ (l : List Ev) (i : Nat) (h : i < l.length) : times (l.take (i + 1)) = times (l.take i) ++ if wentB l[i] = true then [l[i].f1] else [] := by
  rw [List.take_succ_eq_append_getElem h]
  unfold times
  rw [List.filter_append, List.map_append]
  congr 1
  by_cases c : wentB l[i] = true <;> simp [List.filter_cons, c]
theorem rate_collect (l : List Ev) (hl : l.length ≤ 1000) (rate burst : Int) : ∀ (d i : Nat), i + d = l.length →
    Ev (fun k => audit_Rate.l0 k rate burst (times (l.take i)) l (l.length : Int) (i : Int)) (rateL rate burst (times l)) := by
  intro d
  induction d with
  | zero =>
    intro i hi
    rw [List.take_of_length_le (by omega)]
    have hlen := times_len l
    refine Ev.step (f := fun k => audit_Rate.l1 k rate burst (times l) ((times l).length : Int) ((0 : Nat) : Int)) (fun k => by simp only [audit_Rate.l0]; rw [if_neg (by omega)]; rfl) ?_
    have := rate_rows (times l) (by omega) rate burst (times l).length 0 (by omega)
    rwa [List.drop_zero] at this
  | succ d ih =>
    intro i hi
    have hil : i < l.length := by omega
    have hlen := times_len (l.take i)
    have hlt : (l.take i).length ≤ i := List.length_take_le _ _
    refine Ev.step (f := fun k => audit_Rate.l0 k rate burst (times (l.take (i + 1))) l (l.length : Int) ((i + 1 : Nat) : Int)) (fun k => ?_) (ih (i + 1) (by omega))
    simp only [audit_Rate.l0]
    rw [if_pos (by omega), if_pos (by omega), if_pos (by omega), rd_get l i hil, went_f, Option.bind_some, wrap_succ _ (by omega), times_succ l i hil]
    rcases hw : wentB l[i]
    · rw [if_neg (by decide), if_neg (by decide), List.append_nil]
    · rw [if_pos rfl, if_pos (by omega), if_pos rfl]
theorem rate_f (l : List Ev) (hl : l.length ≤ 1000) (rate burst : Int) : Ev (fun k => audit_Rate.f k l rate burst) (rateL rate burst (times l)) := by
  have := rate_collect l hl rate burst l.length 0 (by omega)
  rw [List.take_zero] at this
  exact this

/-! the law's -/
theorem inner (l : List Ev) (hl : l.length ≤ 60) (rate burst : Int) (i : Nat) (hi : i < l.length) (r : Bool) : ∀ (d j : Nat) (n : Nat) (b : Bool), j + d = l.length → n ≤ j →
    Ev (fun k => decorumlaw22_AuditRates.l0 k l rate burst (b && (!wentB l[i] || innerWant rate burst l[i].f1 n (l.drop j))) (wrap64 ((i : Int) + 1))) r →
    Ev (fun k => decorumlaw22_AuditRates.l1 k l rate burst b (i : Int) (n : Int) (j : Int)) r := by
  intro d
  induction d with
  | zero =>
    intro j n b hj hn h
    rw [List.drop_eq_nil_of_le (by omega)] at h
    refine Ev.step (f := fun k => decorumlaw22_AuditRates.j2 k l rate burst b (i : Int) (n : Int) (j : Int) false) (fun k => by simp only [decorumlaw22_AuditRates.l1]; rw [if_neg (by omega)]) ?_
    refine Ev.step (f := fun k => decorumlaw22_AuditRates.l0 k l rate burst b (wrap64 ((i : Int) + 1))) (fun k => by simp only [decorumlaw22_AuditRates.j2]; rw [if_neg (by decide)]) ?_
    simpa [innerWant] using h
  | succ d ih =>
    intro j n b hj hn h
    have hjl : j < l.length := by omega
    rw [List.drop_eq_getElem_cons hjl] at h
    refine Ev.step (f := fun k => decorumlaw22_AuditRates.j2 k l rate burst b (i : Int) (n : Int) (j : Int) (wentB l[i])) (fun k => by
      simp only [decorumlaw22_AuditRates.l1]
      rw [if_pos (by omega), if_pos (by omega), if_pos (by omega), rd_get l i hi, went_f', Option.bind_some]) ?_
    rcases hw : wentB l[i]
    · refine Ev.step (f := fun k => decorumlaw22_AuditRates.l0 k l rate burst b (wrap64 ((i : Int) + 1))) (fun k => by simp only [decorumlaw22_AuditRates.j2]; rw [if_neg (by decide)]) ?_
      simpa [hw] using h
    · rw [hw] at h
      simp only [Bool.not_true, Bool.false_or] at h
      rcases hwj : wentB l[j]
      · refine Ev.step (f := fun k => decorumlaw22_AuditRates.l1 k l rate burst b (i : Int) (n : Int) ((j + 1 : Nat) : Int)) (fun k => by
          simp only [decorumlaw22_AuditRates.j2]
          rw [if_pos (by trivial), if_pos (by omega), if_pos (by omega), rd_get l j hjl, went_f', Option.bind_some, hwj, if_neg (by decide), wrap_succ _ (by omega)]) ?_
        apply ih (j + 1) n b (by omega) (by omega)
        rw [hw]
        simpa [innerWant, hwj] using h
      · have hs : ∀ k, decorumlaw22_AuditRates.j2 (k + 4) l rate burst b (i : Int) (n : Int) (j : Int) true = decorumlaw22_AuditRates.l1 (k + 3) l rate burst (b && decide (1000 * ((n : Int) + 1) ≤ lets rate burst l[i].f1 l[j].f1)) (i : Int) ((n + 1 : Nat) : Int) ((j + 1 : Nat) : Int) := by
          intro k
          simp only [decorumlaw22_AuditRates.j2]
          rw [if_pos (by trivial), if_pos (by omega), if_pos (by omega), rd_get l j hjl, went_f', Option.bind_some, hwj, if_pos (by trivial), if_pos (by omega), if_pos (by omega), rd_get l i hi, rheld_eq, Option.bind_some,
            radd_sb _ _ _ (by omega), Option.bind_some, rmul_eq _ _ _ (by omega), Option.bind_some, rmul_eq _ _ _ (by omega), Option.bind_some, radd_eq _ _ _ (by omega), Option.bind_some, wrap_succ n (by omega), wrap_succ j (by omega),
            wrap_in (1000 * ((n + 1 : Nat) : Int)) (by omega) (by omega)]
          unfold lets
          by_cases hc : 1000 * ((n : Int) + 1) ≤ ad (ml burst 1000) (ml rate (sb l[j].f1 l[i].f1))
          · rw [if_neg (by omega), decide_eq_true hc, Bool.and_true]
          · rw [if_pos (by omega), decide_eq_false hc, Bool.and_false]
        refine ev_at 4 3 (f := fun k => decorumlaw22_AuditRates.l1 k l rate burst (b && decide (1000 * ((n : Int) + 1) ≤ lets rate burst l[i].f1 l[j].f1)) (i : Int) ((n + 1 : Nat) : Int) ((j + 1 : Nat) : Int)) hs ?_
        apply ih (j + 1) (n + 1) _ (by omega) (by omega)
        rw [hw]
        rw [innerWant, if_pos hwj] at h
        rw [Bool.not_true, Bool.false_or, Bool.and_assoc]
        exact h
theorem outer (l : List Ev) (hl : l.length ≤ 60) (rate burst : Int) : ∀ (d i : Nat) (b : Bool), i + d = l.length →
    Ev (fun k => decorumlaw22_AuditRates.l0 k l rate burst b (i : Int)) (rateL rate burst (times l) == (b && wantR rate burst (l.drop i))) := by
  intro d
  induction d with
  | zero =>
    intro i b hi
    rw [List.drop_eq_nil_of_le (by omega)]
    have hr := rate_f l (by omega) rate burst
    refine Ev.step (f := fun k => (audit_Rate.f k l rate burst).bind fun t => some (t == b)) (fun k => ?_) (Ev.bind hr (by simpa [wantR] using Ev.now _))
    simp only [decorumlaw22_AuditRates.l0]
    rw [if_neg (by omega)]
    simp only [decorumlaw22_awake.f, Option.bind_some, if_true]
  | succ d ih =>
    intro i b hi
    have hil : i < l.length := by omega
    refine Ev.step (f := fun k => decorumlaw22_AuditRates.l1 k l rate burst b (i : Int) ((0 : Nat) : Int) (i : Int)) (fun k => by simp only [decorumlaw22_AuditRates.l0]; rw [if_pos (by omega)]; rfl) ?_
    refine inner l hl rate burst i hil _ (l.length - i) i 0 b (by omega) (by omega) ?_
    have e1 : (b && wantR rate burst (l.drop i)) = ((b && (!wentB l[i] || innerWant rate burst l[i].f1 ((0 : Nat) : Int) (l.drop i))) && wantR rate burst (l.drop (i + 1))) := by
      conv => lhs; rw [List.drop_eq_getElem_cons hil, wantR, ← Bool.and_assoc, ← List.drop_eq_getElem_cons hil]
      rfl
    rw [e1, wrap_succ _ (by omega)]
    exact ih (i + 1) _ (by omega)
theorem law (l : List Ev) (rate burst : Int) : ∃ k, decorumlaw22_AuditRates.f k l rate burst = some true := by
  have main : ∀ l' : List Ev, l'.length ≤ 60 → ∃ k, decorumlaw22_AuditRates.l0 k l' rate burst true 0 = some true := by
    intro l' h1
    have h := (outer l' h1 rate burst l'.length 0 true (by omega)).rounds
    rw [List.drop_zero, Bool.true_and, want_rate rate burst l' (by omega)] at h
    simpa using h
  unfold decorumlaw22_AuditRates.f decorumlaw22_cut.f
  by_cases h : (l.length : Int) > 60
  · rw [if_pos h, if_pos (by omega)]
    simp only [Option.bind_some]
    exact main _ (by rw [List.length_take]; exact Nat.min_le_left _ _)
  · rw [if_neg h]
    simp only [Option.bind_some]
    exact main _ (by omega)
end Go.Proofs.Ytaggkdnnnmbblaa.PureAuditRates
