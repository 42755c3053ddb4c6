/- What holds of events holds of the first ones, and at looser bounds. -/
import Derived.Test.YtaggkdnnnmbblaaQAuditLessx
import Derived.Test.YtaggkdnnnmbblaaPureAuditRates
namespace Go.Proofs.Ytaggkdnnnmbblaa.PureAuditLess
open Go.RowKit Go.Proofs.Ytaggkdnnnmbblaa.QAuditLess Go.Proofs.Ytaggkdnnnmbblaa.Given Go.Proofs.Ytaggkdnnnmbblaa.QBase Go.Proofs.YtaggkdnnnmbblaaW.PrintWords Go.Proofs.YtaggkdnnnmbblaaW.PrintLast
open Go.Proofs.Ytaggkdnnnmbblaa.PureAuditRates (lets rowOk rateL times rate_f ml_small wrap_succ ev_at)
set_option linter.unusedVariables false
set_option linter.unusedSimpArgs false

theorem gaps_take (f : Int) (l : List Ev) (k : Nat) (h : gapsB f l = true) : gapsB f (l.take k) = true := by
  cases hh : gapsB f (l.take k)
  · exact (gapsB_false k hh).symm.trans h
  · rfl
theorem once_take (l : List Ev) (k : Nat) (h : onceB l = true) : onceB (l.take k) = true := by
  cases hh : onceB (l.take k)
  · exact (onceB_false k hh).symm.trans h
  · rfl
theorem gapsR_less (f g : Int) (hg : g ≤ f) : ∀ r : List Ev, gapsR f r = true → gapsR g r = true
  | [], _ => rfl
  | e :: r, h => by
    rw [gapsR, Bool.and_eq_true] at h ⊢
    refine ⟨gapsR_less f g hg r h.1, ?_⟩
    have h2 := h.2
    revert h2
    rcases wentB e
    · intro _; rfl
    · rcases lastR r (hostOf e) with _ | a
      · intro _; rfl
      · intro h2
        have h3 : f ≤ sb e.f1 a := of_decide_eq_true h2
        exact decide_eq_true (by omega)
theorem gaps_less (f : Int) (l : List Ev) (h : gapsB f l = true) : gapsB (f - 1) l = true := gapsR_less f (f - 1) (by omega) _ h
theorem row_pre (r b x : Int) (c : List Int) : ∀ (a : List Int) (n : Int), rowOk r b x n (a ++ c) = true → rowOk r b x n a = true
  | [], _, _ => rfl
  | y :: t, n, h => by
    rw [List.cons_append, rowOk, Bool.and_eq_true] at h
    rw [rowOk, Bool.and_eq_true]
    exact ⟨h.1, row_pre r b x c t (n + 1) h.2⟩
theorem rate_pre (r b : Int) (c : List Int) : ∀ a : List Int, rateL r b (a ++ c) = true → rateL r b a = true
  | [], _ => rfl
  | x :: t, h => by
    rw [List.cons_append, rateL, Bool.and_eq_true] at h
    rw [rateL, Bool.and_eq_true]
    exact ⟨row_pre r b x c (x :: t) 0 h.1, rate_pre r b c t h.2⟩
theorem rate_take (r b : Int) (l : List Ev) (k : Nat) (h : rateL r b (times l) = true) : rateL r b (times (l.take k)) = true := by
  have e : times l = times (l.take k) ++ times (l.drop k) := by
    unfold times
    rw [← List.map_append, ← List.filter_append, List.take_append_drop]
  rw [e] at h
  exact rate_pre r b _ _ h
theorem lets_more (r b x y : Int) (hb : 0 ≤ b ∧ b ≤ 65535) : lets r b x y ≤ lets r (b + 1) x y := by
  unfold lets
  rw [ml_small b (by omega), ml_small (b + 1) (by omega)]
  generalize ml r (sb y x) = q
  unfold ad hd mx mn
  omega
theorem row_more (r b x : Int) (hb : 0 ≤ b ∧ b ≤ 65535) : ∀ (a : List Int) (n : Int), rowOk r b x n a = true → rowOk r (b + 1) x n a = true
  | [], _, _ => rfl
  | y :: t, n, h => by
    rw [rowOk, Bool.and_eq_true] at h ⊢
    have := lets_more r b x y hb
    have h1 := of_decide_eq_true h.1
    exact ⟨decide_eq_true (by omega), row_more r b x hb t (n + 1) h.2⟩
theorem rate_more (r b : Int) (hb : 0 ≤ b ∧ b ≤ 65535) : ∀ a : List Int, rateL r b a = true → rateL r (b + 1) a = true
  | [], _ => rfl
  | x :: t, h => by
    rw [rateL, Bool.and_eq_true] at h ⊢
    exact ⟨row_more r b x hb _ _ h.1, rate_more r b hb t h.2⟩

theorem gaps_fn (l : List Ev) (hl : l.length ≤ 60) (ok : ∀ e ∈ l, okEv e) (f : Int) : audit_Gaps.f l f = some (gapsB f l) := by
  unfold audit_Gaps.f; rw [if_pos ⟨by omega, okEvB_of ok⟩]
theorem once_fn (l : List Ev) (hl : l.length ≤ 60) (ok : ∀ e ∈ l, okEv e) : audit_Once.f l = some (onceB l) := by
  unfold audit_Once.f; rw [if_pos ⟨by omega, okEvB_of ok⟩]
section
variable (l : List Ev) (hl : l.length ≤ 60) (ok : ∀ e ∈ l, okEv e) (n : Nat) (hn : n ≤ l.length) (a1 a2 a3 a4 : Int) (h1 : 0 ≤ a1 ∧ a1 ≤ 65535) (h2 : 0 ≤ a2 ∧ a2 ≤ 65535) (h3 : 0 ≤ a3 ∧ a3 ≤ 65535)
include hl hn h3 in
theorem j2_true : Ev (fun k => decorumlaw22_AuditLess.j2 k l (n : Int) a2 a3 false) true := by
  have t1 := rate_f l (by omega) a2 a3
  have t2 := rate_f (l.take n) (by rw [List.length_take]; omega) a2 a3
  have t3 := rate_f l (by omega) a2 (a3 + 1)
  refine Ev.step (f := fun k => (audit_Rate.f k l a2 a3).bind fun t => if t = true then ((audit_Rate.f k (l.take n) a2 a3).bind fun u => if u = true then (audit_Rate.f k l a2 (a3 + 1)).bind fun v => some v else some false) else some true) (fun k => ?_) ?_
  · simp only [decorumlaw22_AuditLess.j2]
    rw [if_neg (by decide)]
    simp only [decorumlaw22_awake.f, Option.bind_some, if_true]
    rw [if_pos (by omega), if_pos (by omega), Int.toNat_natCast, wrap_in (a3 + 1) (by omega) (by omega)]
  · refine Ev.bind t1 ?_
    cases hr : rateL a2 a3 (times l)
    · simpa using Ev.now _
    · simp only [if_true]
      refine Ev.bind t2 ?_
      rw [rate_take a2 a3 l n hr]
      simp only [if_true]
      refine Ev.bind t3 ?_
      rw [rate_more a2 a3 h3 _ hr]
      exact Ev.now _
include hl ok hn h3 in
theorem j1_true : Ev (fun k => decorumlaw22_AuditLess.j1 k l (n : Int) a2 a3 false) true := by
  refine Ev.step (f := fun k => decorumlaw22_AuditLess.j2 k l (n : Int) a2 a3 false) (fun k => ?_) (j2_true l hl n hn a2 a3 h3)
  simp only [decorumlaw22_AuditLess.j1]
  rw [if_neg (by decide), once_fn l hl ok, Option.bind_some]
  cases ho : onceB l
  · rw [if_neg (by decide)]
  · rw [if_pos (by trivial), if_pos (by omega), if_pos (by omega), Int.toNat_natCast, once_fn (l.take n) (by rw [List.length_take]; omega) (fun e he => ok e (List.mem_of_mem_take he)), Option.bind_some, once_take l n ho]
    rfl
end
theorem l0_true (l : List Ev) (hl : l.length ≤ 60) (ok : ∀ e ∈ l, okEv e) (a1 a2 a3 a4 : Int) (h1 : 0 ≤ a1 ∧ a1 ≤ 65535) (h2 : 0 ≤ a2 ∧ a2 ≤ 65535) (h3 : 0 ≤ a3 ∧ a3 ≤ 65535) (h4 : 0 ≤ a4 ∧ a4 ≤ 255) : ∀ (d i : Nat), i + d = l.length →
    Ev (fun k => decorumlaw22_AuditLess.l0 k l a1 a2 a3 a4 (i : Int)) true := by
  intro d
  induction d with
  | zero =>
    intro i hi
    obtain ⟨n, hn⟩ : ∃ n : Nat, (wrap64 a4).tmod (wrap64 ((l.length : Int) + 1)) = (n : Int) ∧ n ≤ l.length := by
      rw [wrap_in a4 (by omega) (by omega), wrap_in _ (by omega) (by omega), Int.tmod_eq_emod_of_nonneg h4.1]
      have p := Int.emod_nonneg a4 (show (l.length : Int) + 1 ≠ 0 by omega)
      have q := Int.emod_lt_of_pos a4 (show (0 : Int) < (l.length : Int) + 1 by omega)
      exact ⟨(a4 % ((l.length : Int) + 1)).toNat, by omega, by omega⟩
    refine Ev.step (f := fun k => decorumlaw22_AuditLess.j1 k l (n : Int) a2 a3 false) (fun k => ?_) (j1_true l hl ok n hn.2 a2 a3 h3)
    simp only [decorumlaw22_AuditLess.l0]
    rw [if_neg (by omega), if_neg (by rw [wrap_in _ (by omega) (by omega)]; omega), hn.1, wrap_in a1 (by omega) (by omega), wrap_in a2 (by omega) (by omega), wrap_in a3 (by omega) (by omega), gaps_fn l hl ok, Option.bind_some]
    cases hg : gapsB a1 l
    · rw [if_neg (by decide)]
    · rw [if_pos (by trivial), if_pos (by omega), if_pos (by omega), Int.toNat_natCast, gaps_fn (l.take n) (by rw [List.length_take]; omega) (fun e he => ok e (List.mem_of_mem_take he)), Option.bind_some, gaps_take a1 l n hg, if_pos (by trivial),
        wrap_in (a1 - 1) (by omega) (by omega), gaps_fn l hl ok, gaps_less a1 l hg]
      by_cases hp : a1 > 0
      · rw [if_pos hp]; rfl
      · rw [if_neg hp]
  | succ d ih =>
    intro i hi
    have hil : i < l.length := by omega
    have hs : ∀ k, decorumlaw22_AuditLess.l0 (k + 1) l a1 a2 a3 a4 (i : Int) = if l[i].f1 < 0 then some true else if l[i].f1 > 1099511627776 then some true else decorumlaw22_AuditLess.l0 k l a1 a2 a3 a4 ((i + 1 : Nat) : Int) := by
      intro k
      simp only [decorumlaw22_AuditLess.l0]
      rw [if_pos (by omega), if_pos (by omega), rd_get l i hil, wrap_succ _ (by omega)]
      rfl
    by_cases c1 : l[i].f1 < 0
    · exact Ev.step (f := fun _ => some true) (fun k => by rw [hs k, if_pos c1]) (Ev.now _)
    · by_cases c2 : l[i].f1 > 1099511627776
      · exact Ev.step (f := fun _ => some true) (fun k => by rw [hs k, if_neg c1, if_pos c2]) (Ev.now _)
      · exact Ev.step (f := fun k => decorumlaw22_AuditLess.l0 k l a1 a2 a3 a4 ((i + 1 : Nat) : Int)) (fun k => by rw [hs k, if_neg c1, if_neg c2]) (ih (i + 1) (by omega))
theorem law (l : List Ev) (ok : ∀ e ∈ l, okEv e) (a1 a2 a3 a4 : Int) (h1 : 0 ≤ a1 ∧ a1 ≤ 65535) (h2 : 0 ≤ a2 ∧ a2 ≤ 65535) (h3 : 0 ≤ a3 ∧ a3 ≤ 65535) (h4 : 0 ≤ a4 ∧ a4 ≤ 255) : ∃ k, decorumlaw22_AuditLess.f k l a1 a2 a3 a4 = some true := by
  have main : ∀ l' : List Ev, l'.length ≤ 60 → (∀ e ∈ l', okEv e) → ∃ k, decorumlaw22_AuditLess.l0 k l' a1 a2 a3 a4 0 = some true := fun l' e1 e2 => (l0_true l' e1 e2 a1 a2 a3 a4 h1 h2 h3 h4 l'.length 0 (by omega)).rounds
  unfold decorumlaw22_AuditLess.f decorumlaw22_cut.f
  by_cases h : (l.length : Int) > 60
  · rw [if_pos h, if_pos (by omega)]
    simp only [Option.bind_some]
    exact main _ (by rw [List.length_take]; exact Nat.min_le_left _ _) (fun e he => ok e (List.mem_of_mem_take he))
  · rw [if_neg h]
    simp only [Option.bind_some]
    exact main _ (by omega) ok
end Go.Proofs.Ytaggkdnnnmbblaa.PureAuditLess
