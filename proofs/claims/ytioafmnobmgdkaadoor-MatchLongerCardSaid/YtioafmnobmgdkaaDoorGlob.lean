/- A text and a pattern with stars: that the one begins like the other, said in three ways; on lists of bytes alone. -/
import Derived.Lib.SplitLaws
import Derived.Lib.IndexMore
namespace Go.Proofs.YtioafmnobmgdkaaDoor.Glob
open Go.Lib
set_option linter.unusedVariables false

/-- Does f hold of s, or of what is left of it behind some of its first bytes? -/
def anyT (f : List UInt8 → Bool) : List UInt8 → Bool
  | [] => f []
  | d :: t => f (d :: t) || anyT f t
/-- Does s begin like the pattern (whole: is it that)? -/
def mt (w : Bool) : List UInt8 → List UInt8 → Bool
  | [], s => !w || s.isEmpty
  | c :: p, s => if c = 42 then anyT (mt w p) s else match s with
    | [] => false
    | d :: t => d == c && mt w p t

theorem mt_nil (w : Bool) (s : List UInt8) : mt w [] s = (!w || s.isEmpty) := by simp [mt]
theorem mt_star (w : Bool) (p s : List UInt8) : mt w (42 :: p) s = anyT (mt w p) s := by simp [mt]
theorem mt_one_nil (w : Bool) (c : UInt8) (p : List UInt8) (h : c ≠ 42) : mt w (c :: p) [] = false := by simp [mt, h]
theorem mt_one_cons (w : Bool) (c d : UInt8) (p t : List UInt8) (h : c ≠ 42) : mt w (c :: p) (d :: t) = (d == c && mt w p t) := by simp [mt, h]

theorem anyT_iff (f : List UInt8 → Bool) (s : List UInt8) : anyT f s = true ↔ ∃ k, k ≤ s.length ∧ f (s.drop k) = true := by
  induction s with
  | nil => simp [anyT]
  | cons d t ih =>
    rw [anyT, Bool.or_eq_true, ih]
    constructor
    · rintro (h | ⟨k, hk, h⟩)
      · exact ⟨0, by simp, h⟩
      · exact ⟨k + 1, by simp; omega, h⟩
    · rintro ⟨k, hk, h⟩
      cases k with
      | zero => exact .inl h
      | succ k => exact .inr ⟨k, by simp at hk; omega, h⟩
theorem anyT_cons (f : List UInt8 → Bool) (d : UInt8) (t : List UInt8) (h : anyT f t = true) : anyT f (d :: t) = true := by
  rw [anyT, h, Bool.or_true]
theorem anyT_drop (f : List UInt8 → Bool) : ∀ (s : List UInt8) (k : Nat), anyT f (s.drop k) = true → anyT f s = true
  | [], k, h => by simpa using h
  | d :: t, 0, h => h
  | d :: t, k + 1, h => anyT_cons f d t (anyT_drop f t k h)
theorem anyT_congr {f g : List UInt8 → Bool} (h : ∀ t, f t = g t) : ∀ s, anyT f s = anyT g s
  | [] => h []
  | d :: t => by rw [anyT, anyT, h, anyT_congr h t]

/-- A pattern without a star ahead of its first star. -/
theorem mt_pre (w : Bool) (u p : List UInt8) (h : (42 : UInt8) ∉ u) : ∀ s, mt w (u ++ p) s = (u.isPrefixOf s && mt w p (s.drop u.length)) := by
  induction u with
  | nil => intro s; simp
  | cons c u ih =>
    intro s
    have hc : c ≠ 42 := fun e => h (e ▸ List.mem_cons_self ..)
    have hu : (42 : UInt8) ∉ u := fun e => h (List.mem_cons_of_mem _ e)
    cases s with
    | nil => rw [List.cons_append, mt_one_nil w c _ hc]; simp [List.isPrefixOf]
    | cons d t =>
      rw [List.cons_append, mt_one_cons w c d _ t hc, ih hu t]
      simp only [List.isPrefixOf, List.length_cons, List.drop_succ_cons, Bool.and_assoc]
      rw [show (d == c) = (c == d) from Bool.eq_iff_iff.mpr (by rw [beq_iff_eq, beq_iff_eq]; exact eq_comm)]
theorem mt_free (w : Bool) (u : List UInt8) (h : (42 : UInt8) ∉ u) (s : List UInt8) : mt w u s = (u.isPrefixOf s && (!w || (s.drop u.length).isEmpty)) := by
  have := mt_pre w u [] h s
  rwa [List.append_nil, mt_nil] at this

/-- The leftmost place of u is the best. -/
theorem hit (u : List UInt8) (g : List UInt8 → Bool) (hg : ∀ t k, g (t.drop k) = true → g t = true) : ∀ s,
    anyT (fun t => u.isPrefixOf t && g (t.drop u.length)) s = if index s u < 0 then false else g (s.drop ((index s u).toNat + u.length))
  | [] => by
    cases u with
    | nil => simp [anyT, index]
    | cons a u => simp [anyT, index]
  | b :: l => by
    have ih := hit u g hg l
    rw [anyT, index]
    by_cases hp : u.isPrefixOf (b :: l) = true
    · rw [if_pos hp, if_neg (by decide), hp]
      simp only [Bool.true_and, Int.toNat_zero, Nat.zero_add]
      cases hgv : g ((b :: l).drop u.length) with
      | true => rfl
      | false =>
        rw [Bool.false_or]
        apply Bool.eq_false_iff.mpr
        intro hh
        obtain ⟨k, hk, h2⟩ := (anyT_iff _ _).mp hh
        rw [Bool.and_eq_true, List.drop_drop] at h2
        have h3 : g (((b :: l).drop u.length).drop (k + 1)) = true := by
          rw [List.drop_drop, show u.length + (k + 1) = (k + u.length) + 1 by omega, List.drop_succ_cons]; exact h2.2
        rw [hg _ _ h3] at hgv
        cases hgv
    · rw [if_neg hp, Bool.eq_false_iff.mpr hp, Bool.false_and, Bool.false_or, ih]
      have hge := index_ge l u
      by_cases hm : index l u = -1
      · rw [hm]; rfl
      · have e : (if (index l u == -1) = true then (-1 : Int) else index l u + 1) = index l u + 1 := if_neg (by simpa using hm)
        rw [e, if_neg (by omega), if_neg (by omega), show (index l u + 1).toNat + u.length = ((index l u).toNat + u.length) + 1 by omega, List.drop_succ_cons]

/-- star's loop: the parts behind the first. -/
def starLL (w : Bool) : List (List UInt8) → List UInt8 → Bool
  | [], _ => true
  | p :: ps, s => if w && ps.isEmpty then hasSuffix s p else if index s p < 0 then false else starLL w ps (s.drop ((index s p).toNat + p.length))
def starBL (w : Bool) : List (List UInt8) → List UInt8 → Bool
  | [], _ => false
  | p :: ps, s => hasPrefix s p && (if ps.isEmpty then !w || (s.drop p.length).isEmpty else starLL w ps (s.drop p.length))

theorem count_zero (b : List UInt8) (h : b.count 42 = 0) : (42 : UInt8) ∉ b := List.count_eq_zero.mp h
theorem count_succ (k : Nat) : ∀ b : List UInt8, b.count 42 = k + 1 → ∃ u q, b = u ++ 42 :: q ∧ (42 : UInt8) ∉ u ∧ q.count 42 = k ∧ index b [42] = u.length
  | [], h => by simp at h
  | c :: t, h => by
    by_cases hc : c = 42
    · subst hc
      refine ⟨[], t, rfl, by simp, by simpa using h, ?_⟩
      simp [index, List.isPrefixOf]
    · rw [List.count_cons_of_ne (by simpa using hc)] at h
      obtain ⟨u, q, rfl, h1, h2, h3⟩ := count_succ k t h
      refine ⟨c :: u, q, rfl, by simp [h1, Ne.symm hc], h2, ?_⟩
      rw [index, h3]
      have h0 : ([42] : List UInt8).isPrefixOf (c :: (u ++ 42 :: q)) = false := by simp [List.isPrefixOf, Ne.symm hc]
      rw [if_neg (by rw [h0]; simp), if_neg (by simp)]
      simp only [List.length_cons]; omega

theorem splitK_ne (sep : List UInt8) (sv k : Nat) (b : List UInt8) : (splitK sep sv k b).isEmpty = false := by
  cases k with
  | zero => rfl
  | succ k => rw [splitK]; split <;> rfl
theorem splitK_hit (k : Nat) (u q : List UInt8) (h : index (u ++ 42 :: q) [42] = u.length) : splitK [42] 0 (k + 1) (u ++ 42 :: q) = u :: splitK [42] 0 k q := by
  rw [splitK, h, if_neg (by simp)]
  simp

theorem suffix_any (b : List UInt8) : ∀ s : List UInt8, anyT (fun t => b.isPrefixOf t && (t.drop b.length).isEmpty) s = hasSuffix s b := by
  intro s
  unfold hasSuffix
  apply Bool.eq_iff_iff.mpr
  rw [anyT_iff, List.isSuffixOf_iff_suffix]
  constructor
  · rintro ⟨k, hk, h⟩
    rw [Bool.and_eq_true, List.isPrefixOf_iff_prefix, List.isEmpty_iff, List.drop_drop] at h
    obtain ⟨⟨r, hr⟩, h2⟩ := h
    have hl : s.length ≤ k + b.length := List.drop_eq_nil_iff.mp h2
    have hl2 := congrArg List.length hr
    simp at hl2
    have : r = [] := List.eq_nil_of_length_eq_zero (by omega)
    subst this
    rw [List.append_nil] at hr
    rw [hr]
    exact List.drop_suffix _ _
  · rintro ⟨r, rfl⟩
    refine ⟨r.length, by simp, ?_⟩
    simp [List.isPrefixOf_iff_prefix]

theorem star_rest (w : Bool) (k : Nat) : ∀ (b s : List UInt8), b.count 42 = k → mt w (42 :: b) s = starLL w (splitK [42] 0 k b) s := by
  induction k with
  | zero =>
    intro b s h
    have hb := count_zero b h
    rw [mt_star, anyT_congr (mt_free w b hb), splitK, starLL]
    cases w with
    | true => simp only [Bool.not_true, Bool.false_or, Bool.true_and, List.isEmpty_nil, if_true]; exact suffix_any b s
    | false =>
      have := hit b (fun _ => true) (fun _ _ _ => rfl) s
      simp only [Bool.not_false, Bool.true_or, Bool.false_and, starLL]
      rw [this]
      simp
  | succ k ih =>
    intro b s h
    obtain ⟨u, q, rfl, h1, h2, h3⟩ := count_succ k b h
    rw [mt_star, anyT_congr (mt_pre w u (42 :: q) h1), splitK_hit k u q h3, starLL, splitK_ne, Bool.and_false]
    have := hit u (mt w (42 :: q)) (fun t j hh => by rw [mt_star] at hh ⊢; exact anyT_drop _ _ _ hh) s
    rw [this]
    simp only [Bool.false_eq_true, if_false]
    rw [ih q _ h2]

/-- What star says of a pattern's parts is what the pattern says. -/
theorem star_eq (w : Bool) (b s : List UInt8) : starBL w (splitK [42] 0 (b.count 42) b) s = mt w b s := by
  cases hk : b.count 42 with
  | zero =>
    have hb := count_zero b hk
    rw [mt_free w b hb, splitK, starBL]
    simp [hasPrefix]
  | succ k =>
    obtain ⟨u, q, rfl, h1, h2, h3⟩ := count_succ k b hk
    rw [splitK_hit k u q h3, starBL, splitK_ne, mt_pre w u (42 :: q) h1, star_rest w k q _ h2]
    simp [hasPrefix]

/-! ### The document's way: by where in the text one may be -/
def nxs (a : Nat → Bool) : Nat → Bool
  | 0 => a 0
  | k + 1 => a (k + 1) || nxs a k
def nx (c : UInt8) (s : List UInt8) (a : Nat → Bool) (k : Nat) : Bool :=
  if c = 42 then nxs a k else match k with
    | 0 => false
    | k + 1 => a k && s[k]? == some c
def rs (w : Bool) (p s : List UInt8) (a : Nat → Bool) : Bool := (List.range (s.length + 1)).any fun k => a k && mt w p (s.drop k)
theorem rs_iff (w : Bool) (p s : List UInt8) (a : Nat → Bool) : rs w p s a = true ↔ ∃ k, k ≤ s.length ∧ a k = true ∧ mt w p (s.drop k) = true := by
  unfold rs
  rw [List.any_eq_true]
  constructor
  · rintro ⟨k, hk, h⟩
    rw [Bool.and_eq_true] at h
    exact ⟨k, by simp at hk; omega, h.1, h.2⟩
  · rintro ⟨k, hk, h1, h2⟩
    exact ⟨k, by simp; omega, by rw [h1, h2]; rfl⟩
theorem nxs_iff (a : Nat → Bool) (k : Nat) : nxs a k = true ↔ ∃ j, j ≤ k ∧ a j = true := by
  induction k with
  | zero => simp [nxs]
  | succ k ih =>
    rw [nxs, Bool.or_eq_true, ih]
    constructor
    · rintro (h | ⟨j, hj, h⟩)
      · exact ⟨k + 1, by omega, h⟩
      · exact ⟨j, by omega, h⟩
    · rintro ⟨j, hj, h⟩
      by_cases e : j = k + 1
      · subst e; exact .inl h
      · exact .inr ⟨j, by omega, h⟩
theorem rs_step (w : Bool) (c : UInt8) (p s : List UInt8) (a : Nat → Bool) : rs w (c :: p) s a = rs w p s (nx c s a) := by
  apply Bool.eq_iff_iff.mpr
  rw [rs_iff, rs_iff]
  by_cases hc : c = 42
  · subst hc
    constructor
    · rintro ⟨k, hk, ha, hm⟩
      rw [mt_star, anyT_iff] at hm
      obtain ⟨j, hj, hm⟩ := hm
      rw [List.drop_drop] at hm
      rw [List.length_drop] at hj
      exact ⟨k + j, by omega, by simp only [nx, if_true]; exact (nxs_iff a _).mpr ⟨k, by omega, ha⟩, hm⟩
    · rintro ⟨k, hk, ha, hm⟩
      simp only [nx, if_true] at ha
      obtain ⟨j, hj, ha⟩ := (nxs_iff a _).mp ha
      refine ⟨j, by omega, ha, ?_⟩
      rw [mt_star, anyT_iff]
      exact ⟨k - j, by rw [List.length_drop]; omega, by rw [List.drop_drop, show j + (k - j) = k by omega]; exact hm⟩
  · constructor
    · rintro ⟨k, hk, ha, hm⟩
      by_cases e : k < s.length
      · rw [List.drop_eq_getElem_cons e, mt_one_cons w c _ p _ hc, Bool.and_eq_true] at hm
        exact ⟨k + 1, by omega, by simp [nx, hc, ha, e]; simpa using hm.1, hm.2⟩
      · rw [List.drop_of_length_le (by omega), mt_one_nil w c p hc] at hm
        cases hm
    · rintro ⟨k, hk, ha, hm⟩
      cases k with
      | zero => simp [nx, hc] at ha
      | succ k =>
        simp only [nx, if_neg hc, Bool.and_eq_true] at ha
        refine ⟨k, by omega, ha.1, ?_⟩
        rw [List.drop_eq_getElem_cons (by omega), mt_one_cons w c _ p _ hc, hm, Bool.and_true]
        have := ha.2
        rw [List.getElem?_eq_getElem (by omega)] at this
        simpa using this
theorem rs_start (w : Bool) (p s : List UInt8) (a : Nat → Bool) (h0 : a 0 = true) (h1 : ∀ k, 0 < k → a k = false) : rs w p s a = mt w p s := by
  apply Bool.eq_iff_iff.mpr
  rw [rs_iff]
  constructor
  · rintro ⟨k, hk, ha, hm⟩
    by_cases e : k = 0
    · subst e; exact hm
    · rw [h1 k (by omega)] at ha; cases ha
  · intro h; exact ⟨0, by omega, h0, h⟩
theorem rs_end_whole (s : List UInt8) (a : Nat → Bool) : rs true [] s a = a s.length := by
  apply Bool.eq_iff_iff.mpr
  rw [rs_iff]
  constructor
  · rintro ⟨k, hk, ha, hm⟩
    rw [mt_nil] at hm
    simp at hm
    obtain rfl : k = s.length := by omega
    exact ha
  · intro h; exact ⟨s.length, by omega, h, by simp [mt_nil]⟩
theorem rs_end_begin (s : List UInt8) (a : Nat → Bool) : rs false [] s a = (List.range (s.length + 1)).any a := by
  unfold rs
  congr 1
  funext k
  simp [mt_nil]
end Go.Proofs.YtioafmnobmgdkaaDoor.Glob
