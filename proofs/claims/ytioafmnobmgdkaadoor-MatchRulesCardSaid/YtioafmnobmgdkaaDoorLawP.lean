/- What is true of Match on lists of bytes: a text matches itself and its beginnings; a longer pattern matches no more; rules in any order. -/
import Derived.Test.YtioafmnobmgdkaaDoorSem
namespace Go.Proofs.YtioafmnobmgdkaaDoor.Given
open Go.RowKit Go.Proofs.YtioafmnobmgdkaaDoor.Glob
set_option linter.unusedVariables false

/-- Texts without a percent: each byte by itself. -/
def fm (l : List UInt8) : List UInt8 := l.flatMap out1
theorem fm_app (a b : List UInt8) : fm (a ++ b) = fm a ++ fm b := by simp [fm]
theorem norm_fm (l : List UInt8) (h : ∀ c ∈ l, c ≠ 37) : normB l = some (fm l) := by
  induction l with
  | nil => exact normB_nil
  | cons c t ih =>
    rw [normB_one c t (h c (List.mem_cons_self ..)), ih (fun d hd => h d (List.mem_cons_of_mem _ hd))]
    rfl
theorem nf_fm (l : List UInt8) (h : ∀ c ∈ l, c ≠ 37) : nf l = fm l := by rw [nf, norm_fm l h]; rfl
theorem out1_ne (c : UInt8) : out1 c ≠ [] := by
  unfold out1
  split
  · simp
  · simp [codeB]
theorem out1_star (c : UInt8) (h : (42 : UInt8) ∈ out1 c) : c = 42 := by
  have h0 : ∀ c : Fin 256, (42 : UInt8) ∈ out1 (UInt8.ofNat c.val) → UInt8.ofNat c.val = 42 := by decide +kernel
  have := h0 ⟨c.toNat, c.toNat_lt⟩
  simp only [UInt8.ofNat_toNat] at this
  exact this h
theorem out1_end (c : UInt8) (h : (36 : UInt8) ∈ out1 c) : c = 36 := by
  have h0 : ∀ c : Fin 256, (36 : UInt8) ∈ out1 (UInt8.ofNat c.val) → UInt8.ofNat c.val = 36 := by decide +kernel
  have := h0 ⟨c.toNat, c.toNat_lt⟩
  simp only [UInt8.ofNat_toNat] at this
  exact this h
theorem fm_star (l : List UInt8) (h : (42 : UInt8) ∉ l) : (42 : UInt8) ∉ fm l := by
  intro hh
  obtain ⟨c, hc, h2⟩ := List.mem_flatMap.mp hh
  exact h (out1_star c h2 ▸ hc)
theorem fm_end (l : List UInt8) (h : (36 : UInt8) ∉ l) : (36 : UInt8) ∉ fm l := by
  intro hh
  obtain ⟨c, hc, h2⟩ := List.mem_flatMap.mp hh
  exact h (out1_end c h2 ▸ hc)
theorem fm_empty (l : List UInt8) : (fm l).isEmpty = l.isEmpty := by
  cases l with
  | nil => rfl
  | cons c t =>
    simp only [fm, List.flatMap_cons, List.isEmpty_cons]
    rw [List.isEmpty_eq_false_iff]
    intro e
    exact out1_ne c (List.append_eq_nil_iff.mp e).1
theorem last_ne (l : List UInt8) (h : (36 : UInt8) ∉ l) : ¬ l.getLast? = some 36 := by
  intro e
  exact h (List.mem_of_getLast? e)
theorem fm_end1 : fm [36] = [36] := by decide
theorem fm_star1 : fm [42] = [42] := by decide

/-- Match, where neither text has a percent, and the pattern no dollar but perhaps at its end. -/
theorem mv_plain (a p : List UInt8) (ha : ∀ c ∈ a, c ≠ 37) (hp : ∀ c ∈ p, c ≠ 37) (hd : (36 : UInt8) ∉ a) : matchV a p = mt false (fm a) (fm p) := by
  unfold matchV
  rw [nf_fm a ha, nf_fm p hp, if_neg (last_ne _ (fm_end a hd))]
theorem mv_end (a p : List UInt8) (ha : ∀ c ∈ a, c ≠ 37) (hp : ∀ c ∈ p, c ≠ 37) : matchV (a ++ [36]) p = mt true (fm a) (fm p) := by
  unfold matchV
  have h1 : ∀ c ∈ a ++ [36], c ≠ 37 := by
    intro c hc
    rcases List.mem_append.mp hc with h | h
    · exact ha c h
    · obtain rfl := List.mem_singleton.mp h; decide
  rw [nf_fm _ h1, nf_fm p hp, fm_app, fm_end1, if_pos (by simp)]
  simp

theorem mt_true_false (a : List UInt8) : ∀ s, mt true a s = true → mt false a s = true := by
  induction a with
  | nil => intro s _; rw [mt_nil]; rfl
  | cons c a ih =>
    intro s h
    by_cases hc : c = 42
    · subst hc
      rw [mt_star, anyT_iff] at h ⊢
      obtain ⟨k, hk, h⟩ := h
      exact ⟨k, hk, ih _ h⟩
    · cases s with
      | nil => rw [mt_one_nil _ c a hc] at h; cases h
      | cons d t =>
        rw [mt_one_cons _ c d a t hc, Bool.and_eq_true] at h ⊢
        exact ⟨h.1, ih _ h.2⟩
theorem mt_longer (a b : List UInt8) : ∀ s, mt false (a ++ b) s = true → mt false a s = true := by
  induction a with
  | nil => intro s _; rw [mt_nil]; rfl
  | cons c a ih =>
    intro s h
    rw [List.cons_append] at h
    by_cases hc : c = 42
    · subst hc
      rw [mt_star, anyT_iff] at h ⊢
      obtain ⟨k, hk, h⟩ := h
      exact ⟨k, hk, ih _ h⟩
    · cases s with
      | nil => rw [mt_one_nil _ c _ hc] at h; cases h
      | cons d t =>
        rw [mt_one_cons _ c d _ t hc, Bool.and_eq_true] at h
        rw [mt_one_cons _ c d _ t hc, Bool.and_eq_true]
        exact ⟨h.1, ih _ h.2⟩
theorem mt_star_end (a : List UInt8) : ∀ s, mt false (a ++ [42]) s = mt false a s := by
  induction a with
  | nil =>
    intro s
    rw [List.nil_append, mt_star, mt_nil]
    show _ = true
    rw [anyT_iff]
    exact ⟨0, by omega, by rw [mt_nil]; rfl⟩
  | cons c a ih =>
    intro s
    rw [List.cons_append]
    by_cases hc : c = 42
    · subst hc
      rw [mt_star, mt_star]
      exact anyT_congr ih s
    · cases s with
      | nil => rw [mt_one_nil _ c _ hc, mt_one_nil _ c _ hc]
      | cons d t => rw [mt_one_cons _ c d _ t hc, mt_one_cons _ c d _ t hc, ih]

/-! ### a path without signs that mean something -/
theorem pre_app (a b : List UInt8) : a.isPrefixOf (a ++ b) = true := by
  rw [List.isPrefixOf_iff_prefix]; exact List.prefix_append a b
theorem own_begin (a b : List UInt8) (h42 : (42 : UInt8) ∉ a) : mt false (fm a) (fm (a ++ b)) = true := by
  rw [mt_free false _ (fm_star a h42), fm_app, pre_app]; rfl
theorem own_whole (a b : List UInt8) (h42 : (42 : UInt8) ∉ a) : mt true (fm a) (fm (a ++ b)) = b.isEmpty := by
  rw [mt_free true _ (fm_star a h42), fm_app, pre_app]
  simp [fm_empty]
theorem own_gap (a q b : List UInt8) (ha : (42 : UInt8) ∉ a) (hb : (42 : UInt8) ∉ b) : mt true (fm (a ++ [42] ++ b)) (fm (a ++ q ++ b)) = true := by
  rw [fm_app, fm_app, fm_app, fm_app, fm_star1, List.append_assoc, List.append_assoc, List.singleton_append, mt_pre true _ _ (fm_star a ha), pre_app, Bool.true_and, List.drop_left, mt_star, anyT_iff]
  refine ⟨(fm q).length, by simp, ?_⟩
  rw [List.drop_left, mt_free true _ (fm_star b hb)]
  simp

/-! ### rules -/
section
variable {R : Type} (mm al : R → Bool) (n : R → Nat)
/-- What is allowed: none matches, or one of the longest that match allows it. -/
def OKr (l : List R) : Prop := (∀ r ∈ l, mm r = false) ∨ ∃ r ∈ l, mm r = true ∧ al r = true ∧ ∀ q ∈ l, mm q = true → n q ≤ n r
theorem OKr_of_mem {l l' : List R} (h : ∀ r, r ∈ l ↔ r ∈ l') : OKr mm al n l ↔ OKr mm al n l' := by
  unfold OKr
  constructor
  · rintro (h1 | ⟨r, hr, h1, h2, h3⟩)
    · exact .inl fun r hr => h1 r ((h r).mpr hr)
    · exact .inr ⟨r, (h r).mp hr, h1, h2, fun q hq => h3 q ((h q).mpr hq)⟩
  · rintro (h1 | ⟨r, hr, h1, h2, h3⟩)
    · exact .inl fun r hr => h1 r ((h r).mp hr)
    · exact .inr ⟨r, (h r).mpr hr, h1, h2, fun q hq => h3 q ((h q).mp hq)⟩
/-- The program's round. -/
def stp (st : Int × Bool) (r : R) : Int × Bool := if mm r = true then (if (n r : Int) < st.1 then st else if al r = true then ((n r : Int), true) else if (n r : Int) = st.1 then ((n r : Int), st.2) else ((n r : Int), false)) else st
def Best (l : List R) (st : Int × Bool) : Prop :=
  ((∀ r ∈ l, mm r = false) ∧ st = (-1, true)) ∨ ((∃ r ∈ l, mm r = true ∧ (n r : Int) = st.1) ∧ (∀ q ∈ l, mm q = true → (n q : Int) ≤ st.1) ∧ (st.2 = true ↔ ∃ r ∈ l, mm r = true ∧ al r = true ∧ (n r : Int) = st.1))
theorem best_step (l : List R) (st : Int × Bool) (r : R) (h : Best mm al n l st) : Best mm al n (l ++ [r]) (stp mm al n st r) := by
  obtain ⟨b, ok⟩ := st
  unfold stp
  have hm : ∀ q, q ∈ l ++ [r] ↔ q ∈ l ∨ q = r := by intro q; simp
  by_cases hr : mm r = true
  · rw [if_pos hr]
    rcases h with ⟨h1, h2⟩ | ⟨⟨r0, hr0, h1, h2⟩, h3, h4⟩
    · cases h2
      simp only
      rw [if_neg (by omega), if_neg (show ¬ (n r : Int) = -1 by omega)]
      refine .inr ?_
      have key : (∀ q ∈ l ++ [r], mm q = true → q = r) := by
        intro q hq hq2
        rcases (hm q).mp hq with h | h
        · rw [h1 q h] at hq2; cases hq2
        · exact h
      by_cases ha : al r = true
      · rw [if_pos ha]
        exact ⟨⟨r, (hm r).mpr (.inr rfl), hr, rfl⟩, fun q hq h => by rw [key q hq h]; exact Int.le_refl _, ⟨fun _ => ⟨r, (hm r).mpr (.inr rfl), hr, ha, rfl⟩, fun _ => rfl⟩⟩
      · rw [if_neg ha]
        refine ⟨⟨r, (hm r).mpr (.inr rfl), hr, rfl⟩, fun q hq h => by rw [key q hq h]; exact Int.le_refl _, ⟨fun h => (by cases h), ?_⟩⟩
        rintro ⟨q, hq, h1, h2, h3⟩
        rw [key q hq h1] at h2
        exact absurd h2 ha
    · simp only at h2 h3 h4 ⊢
      by_cases hlt : (n r : Int) < b
      · rw [if_pos hlt]
        refine .inr ⟨⟨r0, (hm r0).mpr (.inl hr0), h1, h2⟩, ?_, ?_⟩
        · intro q hq h
          rcases (hm q).mp hq with h' | h'
          · exact h3 q h' h
          · subst h'; exact Int.le_of_lt hlt
        · rw [h4]
          constructor
          · rintro ⟨q, hq, h⟩; exact ⟨q, (hm q).mpr (.inl hq), h⟩
          · rintro ⟨q, hq, h⟩
            rcases (hm q).mp hq with h' | h'
            · exact ⟨q, h', h⟩
            · subst h'; simp only at h; omega
      · rw [if_neg hlt]
        have hle : ∀ q ∈ l ++ [r], mm q = true → (n q : Int) ≤ n r := by
          intro q hq h
          rcases (hm q).mp hq with h' | h'
          · have := h3 q h' h; omega
          · subst h'; exact Int.le_refl _
        by_cases ha : al r = true
        · rw [if_pos ha]
          exact .inr ⟨⟨r, (hm r).mpr (.inr rfl), hr, rfl⟩, hle, ⟨fun _ => ⟨r, (hm r).mpr (.inr rfl), hr, ha, rfl⟩, fun _ => rfl⟩⟩
        · rw [if_neg ha]
          by_cases he : (n r : Int) = b
          · rw [if_pos he]
            refine .inr ⟨⟨r, (hm r).mpr (.inr rfl), hr, rfl⟩, hle, ?_⟩
            simp only
            rw [h4]
            constructor
            · rintro ⟨q, hq, h1, h2, h5⟩; exact ⟨q, (hm q).mpr (.inl hq), h1, h2, by omega⟩
            · rintro ⟨q, hq, h1, h2, h5⟩
              rcases (hm q).mp hq with h' | h'
              · exact ⟨q, h', h1, h2, by omega⟩
              · subst h'; exact absurd h2 ha
          · rw [if_neg he]
            refine .inr ⟨⟨r, (hm r).mpr (.inr rfl), hr, rfl⟩, hle, ⟨fun h => (by cases h), ?_⟩⟩
            rintro ⟨q, hq, h1, h2, h5⟩
            simp only at h5
            rcases (hm q).mp hq with h' | h'
            · have := h3 q h' h1; omega
            · subst h'; exact absurd h2 ha
  · rw [if_neg hr]
    rcases h with ⟨h1, h2⟩ | ⟨⟨r0, hr0, h1, h2⟩, h3, h4⟩
    · refine .inl ⟨?_, h2⟩
      intro q hq
      rcases (hm q).mp hq with h' | h'
      · exact h1 q h'
      · subst h'; simpa using hr
    · refine .inr ⟨⟨r0, (hm r0).mpr (.inl hr0), h1, h2⟩, ?_, ?_⟩
      · intro q hq h
        rcases (hm q).mp hq with h' | h'
        · exact h3 q h' h
        · subst h'; exact absurd h hr
      · rw [h4]
        constructor
        · rintro ⟨q, hq, h⟩; exact ⟨q, (hm q).mpr (.inl hq), h⟩
        · rintro ⟨q, hq, h⟩
          rcases (hm q).mp hq with h' | h'
          · exact ⟨q, h', h⟩
          · subst h'; exact absurd h.1 hr
theorem best_fold (l : List R) : ∀ (pre : List R) (st : Int × Bool), Best mm al n pre st → Best mm al n (pre ++ l) (l.foldl (stp mm al n) st) := by
  induction l with
  | nil => intro pre st h; simpa using h
  | cons r l ih =>
    intro pre st h
    have := ih (pre ++ [r]) _ (best_step mm al n pre st r h)
    simpa using this
theorem best_ok (l : List R) (st : Int × Bool) (h : Best mm al n l st) : st.2 = true ↔ OKr mm al n l := by
  unfold OKr
  rcases h with ⟨h1, rfl⟩ | ⟨⟨r0, hr0, h1, h2⟩, h3, h4⟩
  · exact ⟨fun _ => .inl h1, fun _ => rfl⟩
  · rw [h4]
    constructor
    · rintro ⟨r, hr, a, b, c⟩
      exact .inr ⟨r, hr, a, b, fun q hq h => by have := h3 q hq h; omega⟩
    · rintro (h | ⟨r, hr, a, b, c⟩)
      · rw [h r0 hr0] at h1; cases h1
      · refine ⟨r, hr, a, b, ?_⟩
        have := c r0 hr0 h1
        have := h3 r hr a
        omega
theorem fold_ok (l : List R) : (l.foldl (stp mm al n) (-1, true)).2 = true ↔ OKr mm al n l := by
  have := best_fold mm al n l [] (-1, true) (.inl ⟨by simp, rfl⟩)
  exact best_ok mm al n l _ (by simpa using this)
/-- The document's first loop: the length of the longest that matches. -/
def mst (b : Int) (r : R) : Int := if mm r = true then (if (n r : Int) > b then (n r : Int) else b) else b
theorem mst_fold (l : List R) : ∀ b : Int, (∀ r ∈ l, mm r = true → (n r : Int) ≤ l.foldl (mst mm n) b) ∧ b ≤ l.foldl (mst mm n) b ∧ (l.foldl (mst mm n) b = b ∨ ∃ r ∈ l, mm r = true ∧ (n r : Int) = l.foldl (mst mm n) b) := by
  induction l with
  | nil => intro b; simp
  | cons r l ih =>
    intro b
    obtain ⟨h1, h2, h3⟩ := ih (mst mm n b r)
    simp only [List.foldl_cons]
    have hb : b ≤ mst mm n b r ∧ (mm r = true → (n r : Int) ≤ mst mm n b r) ∧ (mst mm n b r = b ∨ mm r = true ∧ (n r : Int) = mst mm n b r) := by
      unfold mst
      by_cases hr : mm r = true
      · rw [if_pos hr]
        by_cases hg : (n r : Int) > b
        · rw [if_pos hg]; exact ⟨by omega, fun _ => Int.le_refl _, .inr ⟨hr, rfl⟩⟩
        · rw [if_neg hg]; exact ⟨Int.le_refl _, fun _ => by omega, .inl rfl⟩
      · rw [if_neg hr]; exact ⟨Int.le_refl _, fun h => absurd h hr, .inl rfl⟩
    refine ⟨?_, by omega, ?_⟩
    · intro q hq hm
      rcases List.mem_cons.mp hq with rfl | hq
      · have := hb.2.1 hm; omega
      · exact h1 q hq hm
    · rcases h3 with h3 | ⟨q, hq, ha, hbq⟩
      · rw [h3]
        rcases hb.2.2 with h4 | ⟨h4, h5⟩
        · exact .inl h4
        · exact .inr ⟨r, List.mem_cons_self .., h4, h5⟩
      · exact .inr ⟨q, List.mem_cons_of_mem _ hq, ha, hbq⟩
/-- The document's answer. -/
def refR (l : List R) : Bool := (l.any fun r => al r && ((n r : Int) == l.foldl (mst mm n) (-1)) && mm r) || decide (l.foldl (mst mm n) (-1) < 0)
theorem ref_ok (l : List R) : refR mm al n l = true ↔ OKr mm al n l := by
  obtain ⟨h1, h2, h3⟩ := mst_fold mm n l (-1)
  unfold refR OKr
  rw [Bool.or_eq_true, List.any_eq_true, decide_eq_true_iff]
  constructor
  · rintro (⟨r, hr, h⟩ | h)
    · simp only [Bool.and_eq_true, beq_iff_eq] at h
      exact .inr ⟨r, hr, h.2, h.1.1, fun q hq hm => by have := h1 q hq hm; omega⟩
    · refine .inl fun r hr => ?_
      cases hm : mm r with
      | false => rfl
      | true => have := h1 r hr hm; omega
  · rintro (h | ⟨r, hr, hm, ha, h⟩)
    · refine .inr ?_
      rcases h3 with h3 | ⟨q, hq, hm, _⟩
      · omega
      · rw [h q hq] at hm; cases hm
    · refine .inl ⟨r, hr, ?_⟩
      simp only [Bool.and_eq_true, beq_iff_eq]
      refine ⟨⟨ha, ?_⟩, hm⟩
      have h4 := h1 r hr hm
      rcases h3 with h3 | ⟨q, hq, hmq, hq2⟩
      · omega
      · have := h q hq hmq; omega
theorem ref_fold (l : List R) : (l.foldl (stp mm al n) (-1, true)).2 = refR mm al n l := by
  apply Bool.eq_iff_iff.mpr
  rw [fold_ok, ref_ok]
end
end Go.Proofs.YtioafmnobmgdkaaDoor.Given
