/- Gaps answers as the document says, of any events: no condition but that numbers and texts are as Go's. -/
import Derived.Test.YtaggkdnnnmbblaaQAuditGapsx
namespace Go.Proofs.Ytaggkdnnnmbblaa.PureAuditGaps
open Go.RowKit Go.Proofs.Ytaggkdnnnmbblaa.QAuditGaps Go.Proofs.Ytaggkdnnnmbblaa.Given Go.Proofs.Ytaggkdnnnmbblaa.QBase Go.Proofs.YtaggkdnnnmbblaaW.PrintWords Go.Proofs.YtaggkdnnnmbblaaW.PrintLast
set_option linter.unusedVariables false
set_option linter.unusedSimpArgs false

def okFrom (floor : Int) (e : Ev) : List Ev → Bool
  | [] => true
  | x :: t => if wentB x = true ∧ hostOf x = hostOf e then decide (floor ≤ sb x.f1 e.f1) else okFrom floor e t
def wantL (floor : Int) : List Ev → Bool
  | [] => true
  | e :: t => (!wentB e || okFrom floor e t) && wantL floor t
def stepL (floor : Int) (r : List Ev) (e : Ev) : Bool := !wentB e || match lastR r (hostOf e) with
  | some a => decide (floor ≤ sb e.f1 a)
  | none => true
theorem lastR_snoc (x : Ev) (h : ByteArray) : ∀ r : List Ev, lastR (r ++ [x]) h = match lastR r h with
    | some a => some a
    | none => if wentB x && decide (hostOf x = h) then some x.f1 else none
  | [] => by simp [lastR]
  | e :: r => by
    rw [List.cons_append, lastR, lastR_snoc x h r, lastR]
    by_cases c : (wentB e && decide (hostOf e = h)) = true
    · rw [if_pos c, if_pos c]
    · rw [if_neg c, if_neg c]
/-- Behind events that end with e: the first one of x's host, if there is none ahead, is e. -/
theorem okFrom_snoc (floor : Int) (x e : Ev) : ∀ t : List Ev, okFrom floor x (t ++ [e]) = match lastR t.reverse (hostOf x) with
    | some _ => okFrom floor x t
    | none => if wentB e = true ∧ hostOf e = hostOf x then decide (floor ≤ sb e.f1 x.f1) else true
  | [] => by simp [okFrom, lastR]
  | y :: t => by
    rw [List.cons_append, okFrom, okFrom_snoc floor x e t, List.reverse_cons, lastR_snoc]
    by_cases c : wentB y = true ∧ hostOf y = hostOf x
    · rw [if_pos c]
      have c' : (wentB y && decide (hostOf y = hostOf x)) = true := by simp [c.1, c.2]
      rw [if_pos c']
      rcases hl : lastR t.reverse (hostOf x) with _ | a
      · simp [okFrom, c]
      · simp [okFrom, c]
    · rw [if_neg c]
      have c' : ¬ (wentB y && decide (hostOf y = hostOf x)) = true := by simpa using c
      rw [if_neg c']
      rcases hl : lastR t.reverse (hostOf x) with _ | a
      · simp
      · simp [okFrom, c]
theorem okFrom_none (floor : Int) (x : Ev) : ∀ t : List Ev, lastR t.reverse (hostOf x) = none → okFrom floor x t = true
  | [], _ => rfl
  | y :: t, h => by
    rw [List.reverse_cons, lastR_snoc] at h
    rcases hl : lastR t.reverse (hostOf x) with _ | a
    · rw [hl] at h
      simp only at h
      rw [okFrom]
      by_cases c : wentB y = true ∧ hostOf y = hostOf x
      · simp [c] at h
      · rw [if_neg c]; exact okFrom_none floor x t hl
    · rw [hl] at h; cases h
theorem wantL_snoc (floor : Int) (e : Ev) : ∀ t : List Ev, wantL floor (t ++ [e]) = (wantL floor t && stepL floor t.reverse e)
  | [] => by simp [wantL, okFrom, stepL, lastR]
  | x :: t => by
    rw [List.cons_append, wantL, wantL_snoc floor e t, wantL, okFrom_snoc, List.reverse_cons]
    unfold stepL
    rw [lastR_snoc]
    rcases hw : wentB x
    · simp only [Bool.not_false, Bool.true_or, Bool.true_and, Bool.false_and, Bool.false_eq_true, if_false]
      rcases hl : lastR t.reverse (hostOf e) with _ | a <;> simp
    · rcases hx : lastR t.reverse (hostOf x) with _ | a
      · have h1 := okFrom_none floor x t hx
        rw [h1]
        rcases he : lastR t.reverse (hostOf e) with _ | b
        · by_cases c : hostOf x = hostOf e
          · rcases hwe : wentB e <;> simp [c, hwe]
            rw [Bool.and_comm]
          · have c2 : ¬ hostOf e = hostOf x := fun g => c g.symm
            simp [c, c2]
        · have c2 : ¬ hostOf e = hostOf x := by intro g; rw [g, hx] at he; cases he
          simp [c2]
      · rcases he : lastR t.reverse (hostOf e) with _ | b
        · have c : ¬ hostOf x = hostOf e := by intro g; rw [← g, hx] at he; cases he
          simp [c]
        · simp [Bool.and_assoc]
theorem gaps_want (floor : Int) (l : List Ev) : gapsB floor l = wantL floor l := by
  have main : ∀ r : List Ev, gapsR floor r = wantL floor r.reverse := by
    intro r
    induction r with
    | nil => rfl
    | cons e r ih =>
      rw [List.reverse_cons, wantL_snoc, ← ih, List.reverse_reverse]
      rfl
  unfold gapsB
  rw [main, List.reverse_reverse]

theorem went_f' (e : Ev) : decorumlaw22_went.f e.f0 e.f1 e.f2.f0 e.f2.f1 e.f2.f2 e.f2.f3 e.f2.f4 = some (wentB e) := by
  unfold decorumlaw22_went.f wentB
  by_cases h : e.f0 = 1 <;> simp [h]
theorem beq_hosts (a b : ByteArray) : (a.toList != b.toList) = decide (¬ a = b) := by
  by_cases h : a = b
  · subst h; simp
  · have : a.toList ≠ b.toList := by
      intro e
      apply h
      rw [ByteArray.toList_eq, ByteArray.toList_eq] at e
      exact ByteArray.ext (Array.ext' e)
    simp [h, this]
theorem radd_sb (k : Nat) (a b : Int) (hk : 0 < k) : decorumref01_Add.f k a (wrap64 (-(hd b))) = some (sb a b) := by
  have hb := hd_bd b
  rw [wrap_in _ (by omega) (by omega), radd_eq k _ _ hk]
  rfl

theorem inner (l : List Ev) (hl : l.length ≤ 60) (floor : Int) (b : Bool) (i : Nat) (hi : i < l.length) (r : Bool) : ∀ (d j : Nat), j + d = l.length →
    Ev (fun k => decorumlaw22_AuditGaps.l0 k l floor (b && (!wentB l[i] || okFrom floor l[i] (l.drop j))) (wrap64 ((i : Int) + 1))) r →
    Ev (fun k => decorumlaw22_AuditGaps.l1 k l floor b (i : Int) (j : Int)) r := by
  intro d
  induction d with
  | zero =>
    intro j hj h
    rw [List.drop_eq_nil_of_le (by omega)] at h
    refine Ev.step (f := fun k => decorumlaw22_AuditGaps.j2 k l floor b (i : Int) (j : Int) false) (fun k => by simp only [decorumlaw22_AuditGaps.l1]; rw [if_neg (by omega)]) ?_
    refine Ev.step (f := fun k => decorumlaw22_AuditGaps.l0 k l floor b (wrap64 ((i : Int) + 1))) (fun k => by simp only [decorumlaw22_AuditGaps.j2]; rw [if_neg (by decide)]) ?_
    simpa [okFrom] using h
  | succ d ih =>
    intro j hj h
    have hjl : j < l.length := by omega
    have hw1 : wrap64 ((j : Int) + 1) = ((j + 1 : Nat) : Int) := by rw [wrap_in _ (by omega) (by omega)]; omega
    rw [List.drop_eq_getElem_cons hjl] at h
    refine Ev.step (f := fun k => decorumlaw22_AuditGaps.j2 k l floor b (i : Int) (j : Int) (wentB l[i])) (fun k => by
      simp only [decorumlaw22_AuditGaps.l1]
      rw [if_pos (by omega), if_pos (by omega), if_pos (by omega), rd_get l i hi, went_f', Option.bind_some]) ?_
    rcases hw : wentB l[i]
    · refine Ev.step (f := fun k => decorumlaw22_AuditGaps.l0 k l floor b (wrap64 ((i : Int) + 1))) (fun k => by simp only [decorumlaw22_AuditGaps.j2]; rw [if_neg (by decide)]) ?_
      simpa [hw] using h
    · rw [hw] at h
      simp only [Bool.not_true, Bool.false_or] at h ih
      have ih' := ih (j + 1) (by omega)
      rw [hw] at ih'
      simp only [Bool.not_true, Bool.false_or] at ih'
      rcases hwj : wentB l[j]
      · refine Ev.step (f := fun k => decorumlaw22_AuditGaps.j3 k l floor b (i : Int) (j : Int) true) (fun k => by
          simp only [decorumlaw22_AuditGaps.j2]
          rw [if_pos (by trivial), if_pos (by omega), if_pos (by omega), rd_get l j hjl, went_f', Option.bind_some, hwj, if_neg (by decide)]) ?_
        refine Ev.step (f := fun k => decorumlaw22_AuditGaps.l1 k l floor b (i : Int) ((j + 1 : Nat) : Int)) (fun k => by simp only [decorumlaw22_AuditGaps.j3]; rw [if_pos (by trivial), hw1]) ?_
        apply ih'
        simpa [okFrom, hwj] using h
      · refine Ev.step (f := fun k => decorumlaw22_AuditGaps.j3 k l floor b (i : Int) (j : Int) (decide (¬ hostOf l[j] = hostOf l[i]))) (fun k => by
          simp only [decorumlaw22_AuditGaps.j2]
          rw [if_pos (by trivial), if_pos (by omega), if_pos (by omega), rd_get l j hjl, went_f', Option.bind_some, hwj, if_pos (by trivial), if_pos (by omega), if_pos (by omega), rd_get l i hi, beq_hosts]
          rfl) ?_
        by_cases hh : hostOf l[j] = hostOf l[i]
        · rw [show decide (¬ hostOf l[j] = hostOf l[i]) = false by simp [hh]]
          rw [okFrom, if_pos ⟨hwj, hh⟩] at h
          have hs : ∀ k, decorumlaw22_AuditGaps.j3 (k + 2) l floor b (i : Int) (j : Int) false = decorumlaw22_AuditGaps.l0 (k + 1) l floor (b && decide (floor ≤ sb l[j].f1 l[i].f1)) (wrap64 ((i : Int) + 1)) := by
            intro k
            simp only [decorumlaw22_AuditGaps.j3]
            rw [if_neg (by decide), if_pos (by omega), if_pos (by omega), if_pos (by omega), if_pos (by omega), rd_get l i hi, rd_get l j hjl, rheld_eq, Option.bind_some, radd_sb _ _ _ (by omega), Option.bind_some]
            by_cases hf : sb l[j].f1 l[i].f1 < floor
            · rw [if_pos hf, show decide (floor ≤ sb l[j].f1 l[i].f1) = false by simp; omega, Bool.and_false]
            · rw [if_neg hf, show decide (floor ≤ sb l[j].f1 l[i].f1) = true by simp; omega, Bool.and_true]
          obtain ⟨K, hK⟩ := h
          exact ⟨K + 2, fun k hk => by
            obtain ⟨m, rfl⟩ : ∃ m, k = m + 2 := ⟨k - 2, by omega⟩
            show decorumlaw22_AuditGaps.j3 (m + 2) l floor b (i : Int) (j : Int) false = some r
            rw [hs m]
            exact hK (m + 1) (by omega)⟩
        · rw [show decide (¬ hostOf l[j] = hostOf l[i]) = true by simp [hh]]
          refine Ev.step (f := fun k => decorumlaw22_AuditGaps.l1 k l floor b (i : Int) ((j + 1 : Nat) : Int)) (fun k => by simp only [decorumlaw22_AuditGaps.j3]; rw [if_pos (by trivial), hw1]) ?_
          apply ih'
          rw [okFrom, if_neg (fun g => hh g.2)] at h
          exact h

theorem outer (l : List Ev) (hl : l.length ≤ 60) (ok : ∀ e ∈ l, okEv e) (floor : Int) : ∀ (d i : Nat) (b : Bool), i + d = l.length →
    Ev (fun k => decorumlaw22_AuditGaps.l0 k l floor b (i : Int)) (gapsB floor l == (b && wantL floor (l.drop i))) := by
  intro d
  induction d with
  | zero =>
    intro i b hi
    rw [List.drop_eq_nil_of_le (by omega)]
    refine Ev.step (f := fun k => some (gapsB floor l == b)) (fun k => ?_) (by simpa [wantL] using Ev.now _)
    simp only [decorumlaw22_AuditGaps.l0]
    rw [if_neg (by omega)]
    simp only [decorumlaw22_awake.f, Option.bind_some, if_true]
    rw [show audit_Gaps.f l floor = some (gapsB floor l) by unfold audit_Gaps.f; rw [if_pos ⟨by omega, okEvB_of ok⟩], Option.bind_some]
  | succ d ih =>
    intro i b hi
    have hil : i < l.length := by omega
    have hw1 : wrap64 ((i : Int) + 1) = ((i + 1 : Nat) : Int) := by rw [wrap_in _ (by omega) (by omega)]; omega
    refine Ev.step (f := fun k => decorumlaw22_AuditGaps.l1 k l floor b (i : Int) ((i + 1 : Nat) : Int)) (fun k => by simp only [decorumlaw22_AuditGaps.l0]; rw [if_pos (by omega), hw1]) ?_
    refine inner l hl floor b i hil _ (l.length - (i + 1)) (i + 1) (by omega) ?_
    rw [hw1, List.drop_eq_getElem_cons hil, wantL, ← Bool.and_assoc]
    exact ih (i + 1) _ (by omega)

theorem law (l : List Ev) (floor : Int) (ok : ∀ e ∈ l, okEv e) : ∃ k, decorumlaw22_AuditGaps.f k l floor = some true := by
  have main : ∀ l' : List Ev, l'.length ≤ 60 → (∀ e ∈ l', okEv e) → ∃ k, decorumlaw22_AuditGaps.l0 k l' floor true 0 = some true := by
    intro l' h1 h2
    have h := (outer l' h1 h2 floor l'.length 0 true (by omega)).rounds
    rw [List.drop_zero, Bool.true_and, ← gaps_want] at h
    simpa using h
  unfold decorumlaw22_AuditGaps.f decorumlaw22_cut.f
  by_cases h : (l.length : Int) > 60
  · rw [if_pos h, if_pos (by omega)]
    simp only [Option.bind_some]
    exact main _ (by rw [List.length_take]; exact Nat.min_le_left _ _) (fun e he => ok e (List.mem_of_mem_take he))
  · rw [if_neg h]
    simp only [Option.bind_some]
    exact main _ (by omega) ok
end Go.Proofs.Ytaggkdnnnmbblaa.PureAuditGaps
