/- robotsMay_holds: a part of its proof (the texts MGlob, MSem, MLawP, QBasex1, QBasex6, QBasex2, Dec, GivD, GivN without what this claim does not lean on). -/
import Derived.Lib.SplitLaws
import Derived.Lib.IndexMore
import Derived.WalkKit
import Derived.Lib.OthersKept
import Derived.BigCall
import Derived.Test.YtdnaddignhjihaaDoorZM4
namespace Go.Proofs.YtdnaddignhjihaaDoor.GlobM
open Go.Lib
set_option linter.unusedVariables false
/-- Does f hold of s, or of what is left of it behind some of its first bytes? -/
def anyT (f : List UInt8 → Bool) : List UInt8 → Bool
  | [] => f []
  | d :: t => f (d :: t) || anyT f t
/-- Does s begin like the pattern (whole: is it that)? -/
def mt (w : Bool) : List UInt8 → List UInt8 → Bool
  | [], s => !w || s.isEmpty
  | c :: p, s => if c = 42 then anyT (mt w p) s else match s with
    | [] => false
    | d :: t => d == c && mt w p t

theorem mt_nil (w : Bool) (s : List UInt8) : mt w [] s = (!w || s.isEmpty) := by simp [mt]
theorem mt_star (w : Bool) (p s : List UInt8) : mt w (42 :: p) s = anyT (mt w p) s := by simp [mt]
theorem mt_one_nil (w : Bool) (c : UInt8) (p : List UInt8) (h : c ≠ 42) : mt w (c :: p) [] = false := by simp [mt, h]
theorem mt_one_cons (w : Bool) (c d : UInt8) (p t : List UInt8) (h : c ≠ 42) : mt w (c :: p) (d :: t) = (d == c && mt w p t) := by simp [mt, h]

theorem anyT_iff (f : List UInt8 → Bool) (s : List UInt8) : anyT f s = true ↔ ∃ k, k ≤ s.length ∧ f (s.drop k) = true := by
  induction s with
  | nil => simp [anyT]
  | cons d t ih =>
    rw [anyT, Bool.or_eq_true, ih]
    constructor
    · rintro (h | ⟨k, hk, h⟩)
      · exact ⟨0, by simp, h⟩
      · exact ⟨k + 1, by simp; omega, h⟩
    · rintro ⟨k, hk, h⟩
      cases k with
      | zero => exact .inl h
      | succ k => exact .inr ⟨k, by simp at hk; omega, h⟩
theorem anyT_cons (f : List UInt8 → Bool) (d : UInt8) (t : List UInt8) (h : anyT f t = true) : anyT f (d :: t) = true := by
  rw [anyT, h, Bool.or_true]
theorem anyT_drop (f : List UInt8 → Bool) : ∀ (s : List UInt8) (k : Nat), anyT f (s.drop k) = true → anyT f s = true
  | [], k, h => by simpa using h
  | d :: t, 0, h => h
  | d :: t, k + 1, h => anyT_cons f d t (anyT_drop f t k h)
theorem anyT_congr {f g : List UInt8 → Bool} (h : ∀ t, f t = g t) : ∀ s, anyT f s = anyT g s
  | [] => h []
  | d :: t => by rw [anyT, anyT, h, anyT_congr h t]

/-- A pattern without a star ahead of its first star. -/
theorem mt_pre (w : Bool) (u p : List UInt8) (h : (42 : UInt8) ∉ u) : ∀ s, mt w (u ++ p) s = (u.isPrefixOf s && mt w p (s.drop u.length)) := by
  induction u with
  | nil => intro s; simp
  | cons c u ih =>
    intro s
    have hc : c ≠ 42 := fun e => h (e ▸ List.mem_cons_self ..)
    have hu : (42 : UInt8) ∉ u := fun e => h (List.mem_cons_of_mem _ e)
    cases s with
    | nil => rw [List.cons_append, mt_one_nil w c _ hc]; simp [List.isPrefixOf]
    | cons d t =>
      rw [List.cons_append, mt_one_cons w c d _ t hc, ih hu t]
      simp only [List.isPrefixOf, List.length_cons, List.drop_succ_cons, Bool.and_assoc]
      rw [show (d == c) = (c == d) from Bool.eq_iff_iff.mpr (by rw [beq_iff_eq, beq_iff_eq]; exact eq_comm)]
theorem mt_free (w : Bool) (u : List UInt8) (h : (42 : UInt8) ∉ u) (s : List UInt8) : mt w u s = (u.isPrefixOf s && (!w || (s.drop u.length).isEmpty)) := by
  have := mt_pre w u [] h s
  rwa [List.append_nil, mt_nil] at this

/-- The leftmost place of u is the best. -/
theorem hit (u : List UInt8) (g : List UInt8 → Bool) (hg : ∀ t k, g (t.drop k) = true → g t = true) : ∀ s,
    anyT (fun t => u.isPrefixOf t && g (t.drop u.length)) s = if index s u < 0 then false else g (s.drop ((index s u).toNat + u.length))
  | [] => by
    cases u with
    | nil => simp [anyT, index]
    | cons a u => simp [anyT, index]
  | b :: l => by
    have ih := hit u g hg l
    rw [anyT, index]
    by_cases hp : u.isPrefixOf (b :: l) = true
    · rw [if_pos hp, if_neg (by decide), hp]
      simp only [Bool.true_and, Int.toNat_zero, Nat.zero_add]
      cases hgv : g ((b :: l).drop u.length) with
      | true => rfl
      | false =>
        rw [Bool.false_or]
        apply Bool.eq_false_iff.mpr
        intro hh
        obtain ⟨k, hk, h2⟩ := (anyT_iff _ _).mp hh
        rw [Bool.and_eq_true, List.drop_drop] at h2
        have h3 : g (((b :: l).drop u.length).drop (k + 1)) = true := by
          rw [List.drop_drop, show u.length + (k + 1) = (k + u.length) + 1 by omega, List.drop_succ_cons]; exact h2.2
        rw [hg _ _ h3] at hgv
        cases hgv
    · rw [if_neg hp, Bool.eq_false_iff.mpr hp, Bool.false_and, Bool.false_or, ih]
      have hge := index_ge l u
      by_cases hm : index l u = -1
      · rw [hm]; rfl
      · have e : (if (index l u == -1) = true then (-1 : Int) else index l u + 1) = index l u + 1 := if_neg (by simpa using hm)
        rw [e, if_neg (by omega), if_neg (by omega), show (index l u + 1).toNat + u.length = ((index l u).toNat + u.length) + 1 by omega, List.drop_succ_cons]

/-- star's loop: the parts behind the first. -/
def starLL (w : Bool) : List (List UInt8) → List UInt8 → Bool
  | [], _ => true
  | p :: ps, s => if w && ps.isEmpty then hasSuffix s p else if index s p < 0 then false else starLL w ps (s.drop ((index s p).toNat + p.length))
def starBL (w : Bool) : List (List UInt8) → List UInt8 → Bool
  | [], _ => false
  | p :: ps, s => hasPrefix s p && (if ps.isEmpty then !w || (s.drop p.length).isEmpty else starLL w ps (s.drop p.length))

theorem count_zero (b : List UInt8) (h : b.count 42 = 0) : (42 : UInt8) ∉ b := List.count_eq_zero.mp h
theorem count_succ (k : Nat) : ∀ b : List UInt8, b.count 42 = k + 1 → ∃ u q, b = u ++ 42 :: q ∧ (42 : UInt8) ∉ u ∧ q.count 42 = k ∧ index b [42] = u.length
  | [], h => by simp at h
  | c :: t, h => by
    by_cases hc : c = 42
    · subst hc
      refine ⟨[], t, rfl, by simp, by simpa using h, ?_⟩
      simp [index, List.isPrefixOf]
    · rw [List.count_cons_of_ne (by simpa using hc)] at h
      obtain ⟨u, q, rfl, h1, h2, h3⟩ := count_succ k t h
      refine ⟨c :: u, q, rfl, by simp [h1, Ne.symm hc], h2, ?_⟩
      rw [index, h3]
      have h0 : ([42] : List UInt8).isPrefixOf (c :: (u ++ 42 :: q)) = false := by simp [List.isPrefixOf, Ne.symm hc]
      rw [if_neg (by rw [h0]; simp), if_neg (by simp)]
      simp only [List.length_cons]; omega

theorem splitK_ne (sep : List UInt8) (sv k : Nat) (b : List UInt8) : (splitK sep sv k b).isEmpty = false := by
  cases k with
  | zero => rfl
  | succ k => rw [splitK]; split <;> rfl
theorem splitK_hit (k : Nat) (u q : List UInt8) (h : index (u ++ 42 :: q) [42] = u.length) : splitK [42] 0 (k + 1) (u ++ 42 :: q) = u :: splitK [42] 0 k q := by
  rw [splitK, h, if_neg (by simp)]
  simp

theorem suffix_any (b : List UInt8) : ∀ s : List UInt8, anyT (fun t => b.isPrefixOf t && (t.drop b.length).isEmpty) s = hasSuffix s b := by
  intro s
  unfold hasSuffix
  apply Bool.eq_iff_iff.mpr
  rw [anyT_iff, List.isSuffixOf_iff_suffix]
  constructor
  · rintro ⟨k, hk, h⟩
    rw [Bool.and_eq_true, List.isPrefixOf_iff_prefix, List.isEmpty_iff, List.drop_drop] at h
    obtain ⟨⟨r, hr⟩, h2⟩ := h
    have hl : s.length ≤ k + b.length := List.drop_eq_nil_iff.mp h2
    have hl2 := congrArg List.length hr
    simp at hl2
    have : r = [] := List.eq_nil_of_length_eq_zero (by omega)
    subst this
    rw [List.append_nil] at hr
    rw [hr]
    exact List.drop_suffix _ _
  · rintro ⟨r, rfl⟩
    refine ⟨r.length, by simp, ?_⟩
    simp [List.isPrefixOf_iff_prefix]

theorem star_rest (w : Bool) (k : Nat) : ∀ (b s : List UInt8), b.count 42 = k → mt w (42 :: b) s = starLL w (splitK [42] 0 k b) s := by
  induction k with
  | zero =>
    intro b s h
    have hb := count_zero b h
    rw [mt_star, anyT_congr (mt_free w b hb), splitK, starLL]
    cases w with
    | true => simp only [Bool.not_true, Bool.false_or, Bool.true_and, List.isEmpty_nil, if_true]; exact suffix_any b s
    | false =>
      have := hit b (fun _ => true) (fun _ _ _ => rfl) s
      simp only [Bool.not_false, Bool.true_or, Bool.false_and, starLL]
      rw [this]
      simp
  | succ k ih =>
    intro b s h
    obtain ⟨u, q, rfl, h1, h2, h3⟩ := count_succ k b h
    rw [mt_star, anyT_congr (mt_pre w u (42 :: q) h1), splitK_hit k u q h3, starLL, splitK_ne, Bool.and_false]
    have := hit u (mt w (42 :: q)) (fun t j hh => by rw [mt_star] at hh ⊢; exact anyT_drop _ _ _ hh) s
    rw [this]
    simp only [Bool.false_eq_true, if_false]
    rw [ih q _ h2]

/-- What star says of a pattern's parts is what the pattern says. -/
theorem star_eq (w : Bool) (b s : List UInt8) : starBL w (splitK [42] 0 (b.count 42) b) s = mt w b s := by
  cases hk : b.count 42 with
  | zero =>
    have hb := count_zero b hk
    rw [mt_free w b hb, splitK, starBL]
    simp [hasPrefix]
  | succ k =>
    obtain ⟨u, q, rfl, h1, h2, h3⟩ := count_succ k b hk
    rw [splitK_hit k u q h3, starBL, splitK_ne, mt_pre w u (42 :: q) h1, star_rest w k q _ h2]
    simp [hasPrefix]

def nxs (a : Nat → Bool) : Nat → Bool
  | 0 => a 0
  | k + 1 => a (k + 1) || nxs a k
def nx (c : UInt8) (s : List UInt8) (a : Nat → Bool) (k : Nat) : Bool :=
  if c = 42 then nxs a k else match k with
    | 0 => false
    | k + 1 => a k && s[k]? == some c
def rs (w : Bool) (p s : List UInt8) (a : Nat → Bool) : Bool := (List.range (s.length + 1)).any fun k => a k && mt w p (s.drop k)
theorem rs_iff (w : Bool) (p s : List UInt8) (a : Nat → Bool) : rs w p s a = true ↔ ∃ k, k ≤ s.length ∧ a k = true ∧ mt w p (s.drop k) = true := by
  unfold rs
  rw [List.any_eq_true]
  constructor
  · rintro ⟨k, hk, h⟩
    rw [Bool.and_eq_true] at h
    exact ⟨k, by simp at hk; omega, h.1, h.2⟩
  · rintro ⟨k, hk, h1, h2⟩
    exact ⟨k, by simp; omega, by rw [h1, h2]; rfl⟩
theorem nxs_iff (a : Nat → Bool) (k : Nat) : nxs a k = true ↔ ∃ j, j ≤ k ∧ a j = true := by
  induction k with
  | zero => simp [nxs]
  | succ k ih =>
    rw [nxs, Bool.or_eq_true, ih]
    constructor
    · rintro (h | ⟨j, hj, h⟩)
      · exact ⟨k + 1, by omega, h⟩
      · exact ⟨j, by omega, h⟩
    · rintro ⟨j, hj, h⟩
      by_cases e : j = k + 1
      · subst e; exact .inl h
      · exact .inr ⟨j, by omega, h⟩
theorem rs_step (w : Bool) (c : UInt8) (p s : List UInt8) (a : Nat → Bool) : rs w (c :: p) s a = rs w p s (nx c s a) := by
  apply Bool.eq_iff_iff.mpr
  rw [rs_iff, rs_iff]
  by_cases hc : c = 42
  · subst hc
    constructor
    · rintro ⟨k, hk, ha, hm⟩
      rw [mt_star, anyT_iff] at hm
      obtain ⟨j, hj, hm⟩ := hm
      rw [List.drop_drop] at hm
      rw [List.length_drop] at hj
      exact ⟨k + j, by omega, by simp only [nx, if_true]; exact (nxs_iff a _).mpr ⟨k, by omega, ha⟩, hm⟩
    · rintro ⟨k, hk, ha, hm⟩
      simp only [nx, if_true] at ha
      obtain ⟨j, hj, ha⟩ := (nxs_iff a _).mp ha
      refine ⟨j, by omega, ha, ?_⟩
      rw [mt_star, anyT_iff]
      exact ⟨k - j, by rw [List.length_drop]; omega, by rw [List.drop_drop, show j + (k - j) = k by omega]; exact hm⟩
  · constructor
    · rintro ⟨k, hk, ha, hm⟩
      by_cases e : k < s.length
      · rw [List.drop_eq_getElem_cons e, mt_one_cons w c _ p _ hc, Bool.and_eq_true] at hm
        exact ⟨k + 1, by omega, by simp [nx, hc, ha, e]; simpa using hm.1, hm.2⟩
      · rw [List.drop_of_length_le (by omega), mt_one_nil w c p hc] at hm
        cases hm
    · rintro ⟨k, hk, ha, hm⟩
      cases k with
      | zero => simp [nx, hc] at ha
      | succ k =>
        simp only [nx, if_neg hc, Bool.and_eq_true] at ha
        refine ⟨k, by omega, ha.1, ?_⟩
        rw [List.drop_eq_getElem_cons (by omega), mt_one_cons w c _ p _ hc, hm, Bool.and_true]
        have := ha.2
        rw [List.getElem?_eq_getElem (by omega)] at this
        simpa using this
theorem rs_start (w : Bool) (p s : List UInt8) (a : Nat → Bool) (h0 : a 0 = true) (h1 : ∀ k, 0 < k → a k = false) : rs w p s a = mt w p s := by
  apply Bool.eq_iff_iff.mpr
  rw [rs_iff]
  constructor
  · rintro ⟨k, hk, ha, hm⟩
    by_cases e : k = 0
    · subst e; exact hm
    · rw [h1 k (by omega)] at ha; cases ha
  · intro h; exact ⟨0, by omega, h0, h⟩
theorem rs_end_whole (s : List UInt8) (a : Nat → Bool) : rs true [] s a = a s.length := by
  apply Bool.eq_iff_iff.mpr
  rw [rs_iff]
  constructor
  · rintro ⟨k, hk, ha, hm⟩
    rw [mt_nil] at hm
    simp at hm
    obtain rfl : k = s.length := by omega
    exact ha
  · intro h; exact ⟨s.length, by omega, h, by simp [mt_nil]⟩
theorem rs_end_begin (s : List UInt8) (a : Nat → Bool) : rs false [] s a = (List.range (s.length + 1)).any a := by
  unfold rs
  congr 1
  funext k
  simp [mt_nil]
end Go.Proofs.YtdnaddignhjihaaDoor.GlobM
namespace Go.Proofs.YtdnaddignhjihaaDoor.GivenM
open Go.RowKit Go.Proofs.YtdnaddignhjihaaDoor.QMB Go.Proofs.YtdnaddignhjihaaDoor.QMM Go.Proofs.YtdnaddignhjihaaDoor.GlobM Go.Proofs.YtdnaddignhjihaaDoorW.PrintWords Go.Proofs.YtdnaddignhjihaaDoorW.PrintLast
set_option linter.unusedVariables false
set_option linter.unusedSimpArgs false
theorem wrap_in (n : Int) (h : -9223372036854775808 ≤ n) (h' : n ≤ 9223372036854775807) : wrap64 n = n := by
  unfold wrap64; omega
def nums (l : List UInt8) : List Int := l.map fun b => (b.toNat : Int)
theorem nums_length (l : List UInt8) : (nums l).length = l.length := by simp [nums]
theorem nums_append (a b : List UInt8) : nums (a ++ b) = nums a ++ nums b := by simp [nums]
theorem of_nums (l : List UInt8) : strOfNums (nums l) = ⟨l.toArray⟩ := by
  unfold strOfNums nums
  congr 2
  rw [List.map_map]
  conv => rhs; rw [← List.map_id l]
  apply List.map_congr_left
  intro a _
  simp
theorem size_list (s : ByteArray) : s.data.toList.length = s.size := by simp

def resR (o : Option (List UInt8)) (acc : List UInt8) : ByteArray × Bool :=
  match o with
  | some l => (⟨(acc ++ l).toArray⟩, true)
  | none => (⟨#[]⟩, false)
theorem resR_map (o : Option (List UInt8)) (x acc : List UInt8) : resR (o.map (x ++ ·)) acc = resR o (acc ++ x) := by
  cases o <;> simp [resR]
theorem hex_f (c : UInt8) (k : Nat) (hk : 20 ≤ k) : decorumref04_hex.f k (c.toNat : Int) = some (match hexv c.toNat with | some x => (x : Int) | none => -1) := by
  have h0 : ∀ c : Fin 256, decorumref04_hex.f 20 ((c.val : Nat) : Int) = some (match hexv c.val with | some x => (x : Int) | none => -1) := by decide +kernel
  exact at_rounds (decorumref04_hex.mono _) hk (h0 ⟨c.toNat, c.toNat_lt⟩)
theorem free_f (c : UInt8) (k : Nat) (hk : 70 ≤ k) : decorumref04_free.f k (c.toNat : Int) = some (freeN c.toNat) := by
  have h0 : ∀ c : Fin 256, decorumref04_free.f 70 ((c.val : Nat) : Int) = some (freeN c.val) := by decide +kernel
  exact at_rounds (decorumref04_free.mono _) hk (h0 ⟨c.toNat, c.toNat_lt⟩)
theorem in_f (c : UInt8) (k : Nat) (hk : 70 ≤ k) : decorumref04_in.f k (⟨#[33, 36, 38, 39, 40, 41, 42, 43, 44, 59, 61, 58, 64, 47, 63, 91, 93]⟩ : ByteArray) (c.toNat : Int) = some (otherN c.toNat) := by
  have h0 : ∀ c : Fin 256, decorumref04_in.f 70 (⟨#[33, 36, 38, 39, 40, 41, 42, 43, 44, 59, 61, 58, 64, 47, 63, 91, 93]⟩ : ByteArray) ((c.val : Nat) : Int) = some (otherN c.val) := by decide +kernel
  exact at_rounds (decorumref04_in.mono _ _) hk (h0 ⟨c.toNat, c.toNat_lt⟩)
theorem code_f (c : UInt8) : decorumref04_code.f (c.toNat : Int) = some ⟨(codeB c).toArray⟩ := by
  have h0 : ∀ c : Fin 256, decorumref04_code.f ((c.val : Nat) : Int) = some ⟨(codeB (UInt8.ofNat c.val)).toArray⟩ := by decide +kernel
  have := h0 ⟨c.toNat, c.toNat_lt⟩
  simpa using this
theorem bytesOf_code (c : UInt8) : bytesOf ⟨(codeB c).toArray⟩ = nums (codeB c) := rfl

theorem byte_at (s : ByteArray) (i : Nat) (c : UInt8) (t : List UInt8) (h : s.data.toList.drop i = c :: t) : i < s.size ∧ bt s (i : Int) = (c.toNat : Int) ∧ s.data.toList.drop (i + 1) = t := by
  have h1 : i < s.data.toList.length := by
    apply Decidable.byContradiction
    intro hh
    rw [List.drop_of_length_le (by omega)] at h
    cases h
  have h2 := drop_cons s.data.toList i h1
  rw [h2] at h
  injection h with ha hb
  refine ⟨by rw [← size_list]; exact h1, ?_, hb⟩
  rw [bt_list s i h1, ha]
theorem ne37 {c : UInt8} (h : c ≠ 37) : ¬ ((c.toNat : Int) = 37) := by
  intro hh; apply h; apply UInt8.toNat_inj.mp; rw [show (37 : UInt8).toNat = 37 from rfl]; omega
theorem two_hex (x y : Nat) (hx : x < 16) (hy : y < 16) : (wrap64 ((wrap64 (16 * (x : Int))) + (y : Int))) % 256 = (((UInt8.ofNat (16 * x + y)).toNat : Nat) : Int) := by
  rw [wrap_in (16 * (x : Int)) (by omega) (by omega), wrap_in _ (by omega) (by omega)]
  simp

theorem refnorm_l (s : ByteArray) (hs : s.size ≤ 1099511627776) (n : Nat) : ∀ (i : Nat) (acc : List UInt8) (k : Nat), s.size ≤ i + n → i ≤ s.size → acc.length ≤ 3 * i → 2 * n + 80 ≤ k →
    decorumref04_Norm.l0 k s (nums acc) (i : Int) = some (resR (normB (s.data.toList.drop i)) acc) := by
  induction n with
  | zero =>
    intro i acc k hn hi hb hk
    obtain ⟨k, rfl⟩ : ∃ k', k = k' + 1 := ⟨k - 1, by omega⟩
    simp only [decorumref04_Norm.l0]
    rw [if_neg (by omega), List.drop_of_length_le (by rw [size_list]; omega), normB_nil, of_nums]
    simp [resR]
  | succ n ih =>
    intro i acc k hn hi hb hk
    obtain ⟨k, rfl⟩ : ∃ k', k = k' + 1 := ⟨k - 1, by omega⟩
    have hl := size_list s
    simp only [decorumref04_Norm.l0]
    rcases hL : s.data.toList.drop i with _ | ⟨c, t⟩
    · have : s.size ≤ i := by rw [← hl]; exact List.drop_eq_nil_iff.mp hL
      rw [if_neg (by omega), normB_nil, of_nums]
      simp [resR]
    · obtain ⟨h1, e1, hL1⟩ := byte_at s i c t hL
      rw [if_pos (by omega), if_pos (by omega), e1]
      by_cases hc : c = 37
      · rw [if_pos (by rw [hc]; rfl), wrap_in ((i : Int) + 2) (by omega) (by omega), wrap_in ((i : Int) + 1) (by omega) (by omega)]
        have no : ∀ k', 1 ≤ k' → tripB (c :: t) = none → decorumref04_Norm.j1 k' s (nums acc) (i : Int) true = some (resR (normB (c :: t)) acc) := by
          intro k' hk' ht
          obtain ⟨k', rfl⟩ : ∃ k'', k' = k'' + 1 := ⟨k' - 1, by omega⟩
          simp only [decorumref04_Norm.j1]
          rw [normB_pct c t hc, ht]
          rfl
        have hlen : t.length + 1 + i = s.size := by
          have := congrArg List.length hL
          rw [List.length_drop, hl] at this
          simp at this
          omega
        rcases t with _ | ⟨h, _ | ⟨l, u⟩⟩
        · rw [if_pos (by simp at hlen; omega)]; exact no k (by omega) (by simp [tripB])
        · rw [if_pos (by simp at hlen; omega)]; exact no k (by omega) (by simp [tripB])
        · simp only [List.length_cons] at hlen
          obtain ⟨h2, e2, hL2⟩ := byte_at s (i + 1) h (l :: u) hL1
          obtain ⟨h3, e3, hL3⟩ := byte_at s (i + 1 + 1) l u hL2
          rw [show (((i + 1 : Nat)) : Int) = (i : Int) + 1 by omega] at e2
          rw [show (((i + 1 + 1 : Nat)) : Int) = (i : Int) + 2 by omega] at e3
          rw [if_neg (by omega), if_pos (by omega), if_pos (by omega), e2, hex_f h k (by omega), Option.bind_some]
          rcases hx : hexv h.toNat with _ | x
          · rw [if_pos (by simp)]
            exact no k (by omega) (by simp [tripB, hx])
          · simp only
            rw [if_neg (by omega), if_pos (by omega), if_pos (by omega), e3, hex_f l k (by omega), Option.bind_some]
            rcases hy : hexv l.toNat with _ | y
            · simp only
              rw [show decide ((-1 : Int) < 0) = true from rfl]
              exact no k (by omega) (by simp [tripB, hx, hy])
            · simp only
              rw [show decide (((y : Nat) : Int) < 0) = false from decide_eq_false (by omega)]
              obtain ⟨k, rfl⟩ : ∃ k', k = k' + 1 := ⟨k - 1, by omega⟩
              have ht : tripB (c :: h :: l :: u) = some (UInt8.ofNat (16 * x + y)) := by simp [tripB, hx, hy]
              have hu : s.data.toList.drop (i + 3) = u := hL3
              rw [normB_pct c _ hc, ht, Option.bind_some, resR_map]
              simp only [decorumref04_Norm.j1]
              rw [if_neg (by simp), wrap_in ((i : Int) + 2) (by omega) (by omega), wrap_in ((i : Int) + 1) (by omega) (by omega), wrap_in ((i : Int) + 2 + 1) (by omega) (by omega), if_pos (by omega), if_pos (by omega), e2, hex_f h k (by omega), Option.bind_some, if_pos (by omega), if_pos (by omega), e3, hex_f l k (by omega), Option.bind_some, hx, hy]
              simp only
              rw [two_hex x y (hexv_lt hx) (hexv_lt hy), free_f _ k (by omega), Option.bind_some, show (i : Int) + 2 + 1 = ((i + 3 : Nat) : Int) by omega]
              generalize UInt8.ofNat (16 * x + y) = b
              have hob := outB_length b
              have hnext := ih (i + 3) (acc ++ outB b) k (by omega) (by omega) (by rw [List.length_append]; omega) (by omega)
              rw [hu, nums_append] at hnext
              show _ = some (resR (normB u) (acc ++ outB b))
              rw [← hnext]
              by_cases hf : freeN b.toNat = true
              · rw [if_pos hf, if_pos (by rw [nums_length]; omega), outB, if_pos hf]; rfl
              · rw [if_neg hf, code_f b, Option.bind_some, if_pos (by rw [nums_length]; show _ + 3 < _; omega), outB, if_neg hf, bytesOf_code]
      · rw [if_neg (ne37 hc), free_f c k (by omega), Option.bind_some, wrap_in ((i : Int) + 1) (by omega) (by omega), normB_one c t hc, resR_map, show (i : Int) + 1 = ((i + 1 : Nat) : Int) by omega]
        have hob := out1_length c
        have hnext := ih (i + 1) (acc ++ out1 c) k (by omega) (by omega) (by rw [List.length_append]; omega) (by omega)
        rw [hL1, nums_append] at hnext
        rw [← hnext]
        by_cases hf : freeN c.toNat = true
        · rw [if_pos hf, if_pos (by rw [nums_length]; omega), out1, if_pos (by simp [hf])]; rfl
        · rw [if_neg hf, in_f c k (by omega), Option.bind_some]
          by_cases ho : otherN c.toNat = true
          · rw [if_pos ho, if_pos (by rw [nums_length]; omega), out1, if_pos (by simp [ho])]; rfl
          · rw [if_neg ho, code_f c, Option.bind_some, if_pos (by rw [nums_length]; show _ + 3 < _; omega), out1, if_neg (by simp [hf, ho]), bytesOf_code]

theorem refnorm_f (s : ByteArray) (hs : s.size ≤ 1099511627776) (k : Nat) (hk : 2 * s.size + 80 ≤ k) : decorumref04_Norm.f k s = some (resR (normB s.data.toList) []) :=
  refnorm_l s hs s.size 0 [] k (by omega) (by omega) (by simp) hk

theorem norm_f (s : ByteArray) (hs : s.size ≤ 1099511627776) : pct_Norm.f s = some (resR (normB s.data.toList) []) := by
  rw [pct_Norm.f, if_pos hs]
  cases normB s.data.toList <;> simp [resR]

def okB (c : UInt8) : Bool := decide (32 < c.toNat) && decide (c.toNat < 127) && c != 34 && c != 60 && c != 62 && c != 92 && c != 94 && c != 123 && c != 125 && c != 124 && c != 35 && c != 96
theorem ok_outB (c : UInt8) : (outB c).all okB = true := by
  have h0 : ∀ c : Fin 256, (outB (UInt8.ofNat c.val)).all okB = true := by decide +kernel
  simpa using h0 ⟨c.toNat, c.toNat_lt⟩
theorem ok_out1 (c : UInt8) : (out1 c).all okB = true := by
  have h0 : ∀ c : Fin 256, (out1 (UInt8.ofNat c.val)).all okB = true := by decide +kernel
  simpa using h0 ⟨c.toNat, c.toNat_lt⟩
theorem norm_ok (n : Nat) : ∀ (a x : List UInt8), a.length ≤ n → normB a = some x → x.all okB = true ∧ x.length ≤ 3 * a.length := by
  induction n with
  | zero =>
    intro a x h ha
    obtain rfl : a = [] := List.eq_nil_of_length_eq_zero (by omega)
    rw [normB_nil] at ha
    obtain rfl := Option.some.inj ha
    simp
  | succ n ih =>
    intro a x h ha
    rcases a with _ | ⟨c, t⟩
    · rw [normB_nil] at ha
      obtain rfl := Option.some.inj ha
      simp
    by_cases hc : c = 37
    · rw [normB_pct c t hc] at ha
      rcases ht : tripB (c :: t) with _ | z
      · rw [ht] at ha; cases ha
      · have hlen := tripB_len ht
        simp at hlen
        rw [ht, Option.bind_some] at ha
        obtain ⟨u, hu, rfl⟩ := Option.map_eq_some_iff.mp ha
        have ⟨h1, h2⟩ := ih (t.drop 2) u (by simp at h ⊢; omega) hu
        have h3 := outB_length z
        refine ⟨by rw [List.all_append, ok_outB, h1]; rfl, ?_⟩
        simp at h2 ⊢
        omega
    · rw [normB_one c t hc] at ha
      obtain ⟨u, hu, rfl⟩ := Option.map_eq_some_iff.mp ha
      have ⟨h1, h2⟩ := ih t u (by simp at h ⊢; omega) hu
      have h3 := out1_length c
      refine ⟨by rw [List.all_append, ok_out1, h1]; rfl, ?_⟩
      simp at h2 ⊢
      omega

/-- A text in one form; as it is, if it has none. -/
def nf (l : List UInt8) : List UInt8 := (normB l).getD l
theorem resR_one (s : ByteArray) : (if (resR (normB s.data.toList) []).2 = true then (some (resR (normB s.data.toList) []).1) else (some s)) = some (⟨(nf s.data.toList).toArray⟩ : ByteArray) := by
  unfold nf
  cases normB s.data.toList <;> simp [resR]
theorem one_f (s : ByteArray) (hs : s.size ≤ 1099511627776) : match_one.f s = some ⟨(nf s.data.toList).toArray⟩ := by
  rw [match_one.f, norm_f s hs, Option.bind_some, resR_one]
theorem form_f (s : ByteArray) (hs : s.size ≤ 1099511627776) (k : Nat) (hk : 2 * s.size + 80 ≤ k) : decorumref09_Form.f k s = some ⟨(nf s.data.toList).toArray⟩ := by
  rw [decorumref09_Form.f, refnorm_f s hs k hk, Option.bind_some, resR_one]

def lst (n : Nat) (a : Nat → Bool) : List Bool := (List.range (n + 1)).map a
theorem lst_length (n : Nat) (a : Nat → Bool) : (lst n a).length = n + 1 := by simp [lst]
theorem lst_get (n : Nat) (a : Nat → Bool) (j : Nat) (h : j ≤ n) : rdOf false (lst n a) (j : Int) = a j := by
  unfold rdOf lst
  rw [Int.toNat_natCast, List.getD_eq_getElem?_getD, List.getElem?_map, List.getElem?_range (by omega)]
  rfl
theorem lst_set (n : Nat) (a : Nat → Bool) (j : Nat) (v : Bool) (b : Nat → Bool) (hj : b j = v) (hb : ∀ q, q ≠ j → b q = a q) : (lst n a).set j v = lst n b := by
  apply List.ext_getElem?
  intro q
  unfold lst
  rw [List.getElem?_set, List.getElem?_map, List.getElem?_map]
  by_cases h : j = q
  · subst h
    rw [if_pos rfl]
    by_cases hl : j < n + 1
    · rw [if_pos (by simpa using hl), List.getElem?_range hl, Option.map_some, hj]
    · rw [if_neg (by simpa using hl), List.getElem?_eq_none (by simp; omega)]
      rfl
  · rw [if_neg h]
    by_cases hl : q < n + 1
    · rw [List.getElem?_range hl, Option.map_some, Option.map_some, hb q (Ne.symm h)]
    · rw [List.getElem?_eq_none (by simp; omega)]; rfl
theorem lst_congr (n : Nat) (a b : Nat → Bool) (h : ∀ q, q ≤ n → a q = b q) : lst n a = lst n b := by
  unfold lst
  apply List.map_congr_left
  intro q hq
  exact h q (by simp at hq; omega)
theorem lst_replicate (n : Nat) : List.replicate (n + 1) false = lst n (fun _ => false) := by
  unfold lst
  apply List.ext_getElem?
  intro q
  rw [List.getElem?_map, List.getElem?_replicate]
  by_cases hl : q < n + 1
  · rw [if_pos hl, List.getElem?_range hl]; rfl
  · rw [if_neg hl, List.getElem?_eq_none (by simp; omega)]; rfl

theorem glob_l2 (x1 : ByteArray) (hs : x1.size ≤ 1000000) (a : Nat → Bool) (m : Nat) : ∀ (j k : Nat), x1.size + 1 = j + m → m + 1 ≤ k →
    decorumref09_glob.l2 k x1 (lst x1.size a) (j : Int) = some ((List.range' j m).any a) := by
  induction m with
  | zero =>
    intro j k hj hk
    obtain ⟨k, rfl⟩ : ∃ k', k = k' + 1 := ⟨k - 1, by omega⟩
    simp only [decorumref09_glob.l2]
    rw [if_neg (by omega)]
    rfl
  | succ m ih =>
    intro j k hj hk
    obtain ⟨k, rfl⟩ : ∃ k', k = k' + 1 := ⟨k - 1, by omega⟩
    simp only [decorumref09_glob.l2]
    rw [if_pos (by omega), if_pos (by omega), if_pos (by rw [lst_length]; omega), lst_get _ _ _ (by omega), wrap_in ((j : Int) + 1) (by omega) (by omega), show (j : Int) + 1 = ((j + 1 : Nat) : Int) by omega, ih (j + 1) k (by omega) (by omega), List.range'_succ, List.any_cons]
    cases a j <;> simp

theorem bt_ge (s : ByteArray) (i : Nat) (h : i < s.size) : ∃ c : UInt8, s.data.toList[i]? = some c ∧ bt s (i : Int) = (c.toNat : Int) := by
  have hl : i < s.data.toList.length := by simpa using h
  exact ⟨s.data.toList[i], List.getElem?_eq_getElem hl, bt_list s i hl⟩
theorem toNat_eq (c d : UInt8) : ((c.toNat : Int) = (d.toNat : Int)) ↔ c = d := by
  constructor
  · intro h; exact UInt8.toNat_inj.mp (by omega)
  · rintro rfl; rfl

def part (b : Nat → Bool) (j : Nat) : Nat → Bool := fun q => if q < j then b q else false
theorem part_set (n : Nat) (b : Nat → Bool) (j : Nat) (v : Bool) (h : b j = v) : (lst n (part b j)).set j v = lst n (part b (j + 1)) := by
  apply lst_set
  · simp [part, h]
  · intro q hq
    unfold part
    by_cases e : q < j
    · rw [if_pos e, if_pos (by omega)]
    · rw [if_neg e, if_neg (by omega)]
theorem part_skip (n : Nat) (b : Nat → Bool) (j : Nat) (h : b j = false) : lst n (part b j) = lst n (part b (j + 1)) := by
  apply lst_congr
  intro q hq
  unfold part
  by_cases e : q < j
  · rw [if_pos e, if_pos (by omega)]
  · by_cases e2 : q = j
    · subst e2; simp [h]
    · rw [if_neg e, if_neg (by omega)]
theorem part_all (n : Nat) (b : Nat → Bool) : lst n (part b (n + 1)) = lst n b := by
  apply lst_congr
  intro q hq
  unfold part
  rw [if_pos (by omega)]

theorem glob_l1 (x0 x1 : ByteArray) (w : Bool) (hs : x1.size ≤ 1000000) (i : Nat) (c : UInt8) (hc : x0.data.toList[i]? = some c) (hi : i < x0.size) (h0 : x0.size ≤ 1000000) (a : Nat → Bool) (r : Bool) (K : Nat)
    (hnext : ∀ k, K ≤ k → decorumref09_glob.l0 k x0 x1 w (lst x1.size (nx c x1.data.toList a)) ((i + 1 : Nat) : Int) = some r) (m : Nat) :
    ∀ (j k : Nat), x1.size + 1 = j + m → K + m + 1 ≤ k → decorumref09_glob.l1 k x0 x1 w (lst x1.size a) (i : Int) (lst x1.size (part (nx c x1.data.toList a) j)) (j : Int) = some r := by
  have hbt : bt x0 (i : Int) = (c.toNat : Int) := by
    obtain ⟨c', h1, h2⟩ := bt_ge x0 i hi
    rw [hc] at h1
    cases h1
    exact h2
  induction m with
  | zero =>
    intro j k hj hk
    obtain ⟨k, rfl⟩ : ∃ k', k = k' + 1 := ⟨k - 1, by omega⟩
    simp only [decorumref09_glob.l1]
    rw [if_neg (by omega), wrap_in ((i : Int) + 1) (by omega) (by omega)]
    obtain rfl : j = x1.size + 1 := by omega
    rw [part_all]
    exact hnext k (by omega)
  | succ m ih =>
    intro j k hj hk
    obtain ⟨k, rfl⟩ : ∃ k', k = k' + 1 := ⟨k - 1, by omega⟩
    simp only [decorumref09_glob.l1]
    have ih := ih (j + 1) k (by omega) (by omega)
    rw [if_pos (by omega), if_pos (by omega), if_pos (by omega), hbt, wrap_in ((j : Int) + 1) (by omega) (by omega), show (j : Int) + 1 = ((j + 1 : Nat) : Int) by omega]
    simp only [lst_length, Int.toNat_natCast]
    by_cases h42 : c = 42
    · subst h42
      rw [if_pos (show ((UInt8.toNat 42 : Nat) : Int) = 42 from rfl), if_pos (by omega), if_pos (by omega), lst_get _ _ _ (by omega)]
      cases haj : a j with
      | true =>
        rw [if_pos rfl, if_pos (by omega), part_set _ _ j true (by cases j <;> simp [nx, nxs, haj])]
        exact ih
      | false =>
        rw [if_neg (by simp)]
        cases j with
        | zero =>
          rw [if_neg (by omega), if_pos (by omega), part_set _ _ 0 false (by simp [nx, nxs, haj])]
          exact ih
        | succ j =>
          rw [if_pos (by omega), wrap_in (((j + 1 : Nat) : Int) - 1) (by omega) (by omega), show ((j + 1 : Nat) : Int) - 1 = (j : Int) by omega, if_pos (by omega), if_pos (by omega), if_pos (by omega), lst_get _ _ _ (by omega), part_set _ _ (j + 1) _ (by simp [nx, nxs, haj, part])]
          exact ih
    · rw [if_neg (show ¬ ((c.toNat : Int) = 42) from fun e => h42 ((toNat_eq c 42).mp e))]
      cases j with
      | zero =>
        rw [if_neg (by omega), part_skip _ _ 0 (by simp [nx, h42])]
        exact ih
      | succ j =>
        obtain ⟨d, hd1, hd2⟩ := bt_ge x1 j (by omega)
        rw [if_pos (by omega), wrap_in (((j + 1 : Nat) : Int) - 1) (by omega) (by omega), show ((j + 1 : Nat) : Int) - 1 = (j : Int) by omega, if_pos (by omega), if_pos (by omega), lst_get _ _ _ (by omega), hd2]
        cases haj : a j with
        | false =>
          rw [if_neg (by simp), part_skip _ _ (j + 1) (by simp [nx, h42, haj])]
          exact ih
        | true =>
          rw [if_pos rfl, if_pos (by omega)]
          by_cases hdc : d = c
          · subst hdc
            rw [if_pos rfl, if_pos (by omega), if_pos (by omega), part_set _ _ (j + 1) true (by simp [nx, h42, haj, hd1])]
            exact ih
          · rw [if_neg (fun e => hdc ((toNat_eq d c).mp e)), part_skip _ _ (j + 1) (by simp [nx, h42, haj, hd1, hdc])]
            exact ih

theorem glob_l0 (x0 x1 : ByteArray) (w : Bool) (h0 : x0.size ≤ 1000000) (hs : x1.size ≤ 1000000) (m : Nat) : ∀ (i : Nat) (a : Nat → Bool) (k : Nat), x0.size = i + m → m * (x1.size + 4) + x1.size + 5 ≤ k →
    decorumref09_glob.l0 k x0 x1 w (lst x1.size a) (i : Int) = some (rs w (x0.data.toList.drop i) x1.data.toList a) := by
  induction m with
  | zero =>
    intro i a k hi hk
    obtain ⟨k, rfl⟩ : ∃ k', k = k' + 1 := ⟨k - 1, by omega⟩
    simp only [decorumref09_glob.l0]
    rw [if_neg (by omega), List.drop_of_length_le (by rw [size_list]; omega)]
    cases w with
    | true => rw [if_pos rfl, if_pos (by omega), if_pos (by rw [lst_length]; omega), lst_get _ _ _ (by omega), rs_end_whole, size_list]
    | false =>
      rw [if_neg (by simp), rs_end_begin, size_list, List.range_eq_range']
      exact glob_l2 x1 hs a (x1.size + 1) 0 k (by omega) (by omega)
  | succ m ih =>
    intro i a k hi hk
    obtain ⟨k, rfl⟩ : ∃ k', k = k' + 1 := ⟨k - 1, by omega⟩
    simp only [decorumref09_glob.l0]
    have hk' : m * (x1.size + 4) + (x1.size + 4) + x1.size + 5 ≤ k + 1 := by rw [Nat.succ_mul] at hk; exact hk
    obtain ⟨c, hc, hb⟩ := bt_ge x0 i (by omega)
    have hl : i < x0.data.toList.length := by rw [size_list]; omega
    have hdr : x0.data.toList.drop i = c :: x0.data.toList.drop (i + 1) := by
      rw [List.drop_eq_getElem_cons hl]
      rw [List.getElem?_eq_getElem hl] at hc
      rw [Option.some.inj hc]
    rw [if_pos (by omega), wrap_in ((x1.size : Int) + 1) (by omega) (by omega), if_pos (by omega), show ((x1.size : Int) + 1).toNat = x1.size + 1 by omega, if_pos (by omega), lst_replicate, hdr, rs_step]
    have := glob_l1 x0 x1 w hs i c hc (by omega) h0 a (rs w (x0.data.toList.drop (i + 1)) x1.data.toList (nx c x1.data.toList a)) (m * (x1.size + 4) + x1.size + 5)
      (fun k hk => ih (i + 1) _ k (by omega) hk) (x1.size + 1) 0 k (by omega) (by omega)
    rw [show part (nx c x1.data.toList a) 0 = fun _ => false from by funext q; simp [part]] at this
    exact this

theorem glob_f (x0 x1 : ByteArray) (w : Bool) (h0 : x0.size ≤ 1000000) (hs : x1.size ≤ 1000000) (k : Nat) (hk : x0.size * (x1.size + 4) + x1.size + 5 ≤ k) :
    decorumref09_glob.f k x0 x1 w = some (mt w x0.data.toList x1.data.toList) := by
  rw [decorumref09_glob.f, wrap_in ((x1.size : Int) + 1) (by omega) (by omega), if_pos (by omega), show ((x1.size : Int) + 1).toNat = x1.size + 1 by omega, if_pos (by omega), lst_replicate, Option.bind_some, if_pos (by rw [lst_length]; omega),
    lst_set x1.size _ (0 : Int).toNat true (fun q => decide (q = 0)) (by decide) (fun q hq => decide_eq_false hq)]
  have := glob_l0 x0 x1 w h0 hs x0.size 0 (fun q => decide (q = 0)) k (by omega) hk
  rw [rs_start w _ _ _ (by decide) (fun q hq => decide_eq_false (by omega)), List.drop_zero] at this
  exact this

/-- Does a path begin like a pattern? On lists of bytes, each brought into one form. -/
def matchV (a p : List UInt8) : Bool := if (nf a).getLast? = some 36 then mt true (nf a).dropLast (nf p) else mt false (nf a) (nf p)

theorem nf_length (l : List UInt8) : (nf l).length ≤ 3 * l.length + l.length := by
  unfold nf
  cases h : normB l with
  | none => simp
  | some t => have := (norm_ok l.length l t (Nat.le_refl _) h).2; simp; omega
theorem last_take (l : List UInt8) : l.take (l.length - 1) = l.dropLast := by rw [List.dropLast_eq_take]
theorem refmatch_f (a p : ByteArray) (ha : a.size ≤ 10000) (hp : p.size ≤ 10000) (k : Nat) (hk : 4 * a.size * (4 * p.size + 4) + 4 * p.size + 2 * a.size + 100 ≤ k) :
    decorumref09_Match.f k a p = some (matchV a.data.toList p.data.toList) := by
  have h1 := nf_length a.data.toList
  have h2 := nf_length p.data.toList
  rw [size_list] at h1 h2
  rw [decorumref09_Match.f, form_f a (by omega) k (by omega), Option.bind_some, form_f p (by omega) k (by omega), Option.bind_some]
  unfold matchV
  generalize nf a.data.toList = A at *
  generalize nf p.data.toList = P at *
  have hsz : (⟨A.toArray⟩ : ByteArray).size = A.length := rfl
  have hszP : (⟨P.toArray⟩ : ByteArray).size = P.length := rfl
  have hmul : ∀ n, n ≤ A.length → n * (P.length + 4) + P.length + 5 ≤ k - 1 := by
    intro n hn
    have := Nat.mul_le_mul (show n ≤ 4 * a.size by omega) (show P.length + 4 ≤ 4 * p.size + 4 by omega)
    omega
  obtain ⟨k, rfl⟩ : ∃ k', k = k' + 1 := ⟨k - 1, by omega⟩
  rw [hsz]
  by_cases hA : A = []
  · subst hA
    rw [if_neg (by simp)]
    simp only [decorumref09_Match.j0]
    rw [if_neg (by simp), glob_f _ _ _ (by simp [hsz]) (by rw [hszP]; omega) k (by rw [hsz, hszP]; exact hmul _ (Nat.le_refl _)), Option.bind_some]
    simp
  · have hlen : 0 < A.length := List.length_pos_iff.mpr hA
    rw [if_pos (by omega), wrap_in ((A.length : Int) - 1) (by omega) (by omega), if_pos (by omega), if_pos (by omega)]
    have hbt : bt (⟨A.toArray⟩ : ByteArray) ((A.length : Int) - 1) = ((A[A.length - 1]'(by omega)).toNat : Int) := by
      rw [show ((A.length : Int) - 1) = ((A.length - 1 : Nat) : Int) by omega]
      exact bt_list ⟨A.toArray⟩ (A.length - 1) (by simp; omega)
    have hlast : A.getLast? = some (A[A.length - 1]'(by omega)) := by
      rw [List.getLast?_eq_getElem?, List.getElem?_eq_getElem (by omega)]
    rw [hbt, hlast]
    generalize A[A.length - 1]'(by omega) = z
    by_cases hz : z = 36
    · subst hz
      rw [if_pos rfl]
      simp only [decorumref09_Match.j0]
      rw [if_pos (by decide), hsz, wrap_in ((A.length : Int) - 1) (by omega) (by omega), if_pos (by omega), if_pos (by omega), show ((A.length : Int) - 1).toNat = A.length - 1 by omega]
      have e : ((⟨A.toArray⟩ : ByteArray).extract 0 (A.length - 1)).data.toList = A.dropLast := by
        rw [Lib.extract_from_zero]; exact last_take A
      have es : ((⟨A.toArray⟩ : ByteArray).extract 0 (A.length - 1)).size = A.length - 1 := by simp [hsz]
      rw [glob_f _ _ _ (by rw [es]; omega) (by rw [hszP]; omega) k (by rw [es, hszP]; exact hmul _ (by omega)), Option.bind_some, e]
    · have hz' : (((z.toNat : Nat) : Int) == 36) = false := by
        rw [beq_eq_false_iff_ne]
        exact fun h => hz ((toNat_eq z 36).mp h)
      rw [hz', if_neg (by simpa using hz)]
      simp only [decorumref09_Match.j0]
      rw [if_neg (by simp), glob_f _ _ _ (by rw [hsz]; omega) (by rw [hszP]; omega) k (by rw [hsz, hszP]; exact hmul _ (Nat.le_refl _)), Option.bind_some]

theorem starL_list (w : Bool) : ∀ (ps : List ByteArray) (s : ByteArray), starL w ps s = starLL w (ps.map (·.data.toList)) s.data.toList
  | [], s => rfl
  | p :: ps, s => by
    simp only [starL, starLL, List.map_cons, List.isEmpty_map]
    split
    · rfl
    · split
      · rfl
      · rw [starL_list w ps, Lib.extract_to_end, size_list p]
theorem starP_list (w : Bool) (ps : List ByteArray) (s : ByteArray) : starP s w ps = starBL w (ps.map (·.data.toList)) s.data.toList := by
  cases ps with
  | nil => rfl
  | cons p ps =>
    simp only [starP, starB, starBL, List.map_cons, List.isEmpty_map]
    rw [starL_list, Lib.extract_to_end, Lib.size_eq]
    cases Lib.hasPrefix s.data.toList p.data.toList <;> simp
theorem matchN_eq (a p : ByteArray) : matchN a p = if a.data.toList.getLast? = some 36 then mt true a.data.toList.dropLast p.data.toList else mt false a.data.toList p.data.toList := by
  have hw : Lib.hasSuffix a.data.toList [36] = decide (a.data.toList.getLast? = some 36) := by
    apply Bool.eq_iff_iff.mpr
    rw [decide_eq_true_iff]
    unfold Lib.hasSuffix
    rw [List.isSuffixOf_iff_suffix]
    constructor
    · rintro ⟨t, h⟩; rw [← h]; simp
    · intro h
      obtain ⟨t, ht⟩ := List.getLast?_eq_some_iff.mp h
      exact ⟨t, ht.symm⟩
  have key : ∀ (w : Bool) (b : ByteArray), starP p w (Lib.splitB ⟨#[42]⟩ 0 (Lib.countB b ⟨#[42]⟩) b) = mt w b.data.toList p.data.toList := by
    intro w b
    rw [starP_list, Lib.splitB_data, ← star_eq]
    rw [show Lib.countB b ⟨#[42]⟩ = b.data.toList.count 42 from Lib.count_one 42 b.data.toList]
  unfold matchN
  simp only []
  rw [key, hw]
  by_cases h : a.data.toList.getLast? = some 36
  · rw [if_pos h]
    simp only [decide_eq_true h, if_true]
    rw [Lib.extract_from_zero, ← size_list, last_take]
  · rw [if_neg h]
    simp only [decide_eq_false h]
    rfl
theorem match_f (a p : ByteArray) (ha : a.size ≤ 10000) (hp : p.size ≤ 10000) : match_Match.f a p = some (matchV a.data.toList p.data.toList) := by
  have h1 := nf_length a.data.toList
  have h2 := nf_length p.data.toList
  rw [size_list] at h1 h2
  rw [match_Match.f, one_f a (by omega), Option.bind_some, one_f p (by omega), Option.bind_some]
  have hsz : ∀ A : List UInt8, (⟨A.toArray⟩ : ByteArray).size = A.length := fun _ => rfl
  rw [if_pos (by rw [hsz, hsz]; omega), matchN_eq]
  rfl
end Go.Proofs.YtdnaddignhjihaaDoor.GivenM
namespace Go.Proofs.YtdnaddignhjihaaDoor.GivenM
open Go.RowKit Go.Proofs.YtdnaddignhjihaaDoor.GlobM
set_option linter.unusedVariables false
section
variable {R : Type} (mm al : R → Bool) (n : R → Nat)
/-- What is allowed: none matches, or one of the longest that match allows it. -/
def OKr (l : List R) : Prop := (∀ r ∈ l, mm r = false) ∨ ∃ r ∈ l, mm r = true ∧ al r = true ∧ ∀ q ∈ l, mm q = true → n q ≤ n r
/-- The program's round. -/
def stp (st : Int × Bool) (r : R) : Int × Bool := if mm r = true then (if (n r : Int) < st.1 then st else if al r = true then ((n r : Int), true) else if (n r : Int) = st.1 then ((n r : Int), st.2) else ((n r : Int), false)) else st
def Best (l : List R) (st : Int × Bool) : Prop :=
  ((∀ r ∈ l, mm r = false) ∧ st = (-1, true)) ∨ ((∃ r ∈ l, mm r = true ∧ (n r : Int) = st.1) ∧ (∀ q ∈ l, mm q = true → (n q : Int) ≤ st.1) ∧ (st.2 = true ↔ ∃ r ∈ l, mm r = true ∧ al r = true ∧ (n r : Int) = st.1))
theorem best_step (l : List R) (st : Int × Bool) (r : R) (h : Best mm al n l st) : Best mm al n (l ++ [r]) (stp mm al n st r) := by
  obtain ⟨b, ok⟩ := st
  unfold stp
  have hm : ∀ q, q ∈ l ++ [r] ↔ q ∈ l ∨ q = r := by intro q; simp
  by_cases hr : mm r = true
  · rw [if_pos hr]
    rcases h with ⟨h1, h2⟩ | ⟨⟨r0, hr0, h1, h2⟩, h3, h4⟩
    · cases h2
      simp only
      rw [if_neg (by omega), if_neg (show ¬ (n r : Int) = -1 by omega)]
      refine .inr ?_
      have key : (∀ q ∈ l ++ [r], mm q = true → q = r) := by
        intro q hq hq2
        rcases (hm q).mp hq with h | h
        · rw [h1 q h] at hq2; cases hq2
        · exact h
      by_cases ha : al r = true
      · rw [if_pos ha]
        exact ⟨⟨r, (hm r).mpr (.inr rfl), hr, rfl⟩, fun q hq h => by rw [key q hq h]; exact Int.le_refl _, ⟨fun _ => ⟨r, (hm r).mpr (.inr rfl), hr, ha, rfl⟩, fun _ => rfl⟩⟩
      · rw [if_neg ha]
        refine ⟨⟨r, (hm r).mpr (.inr rfl), hr, rfl⟩, fun q hq h => by rw [key q hq h]; exact Int.le_refl _, ⟨fun h => (by cases h), ?_⟩⟩
        rintro ⟨q, hq, h1, h2, h3⟩
        rw [key q hq h1] at h2
        exact absurd h2 ha
    · simp only at h2 h3 h4 ⊢
      by_cases hlt : (n r : Int) < b
      · rw [if_pos hlt]
        refine .inr ⟨⟨r0, (hm r0).mpr (.inl hr0), h1, h2⟩, ?_, ?_⟩
        · intro q hq h
          rcases (hm q).mp hq with h' | h'
          · exact h3 q h' h
          · subst h'; exact Int.le_of_lt hlt
        · rw [h4]
          constructor
          · rintro ⟨q, hq, h⟩; exact ⟨q, (hm q).mpr (.inl hq), h⟩
          · rintro ⟨q, hq, h⟩
            rcases (hm q).mp hq with h' | h'
            · exact ⟨q, h', h⟩
            · subst h'; simp only at h; omega
      · rw [if_neg hlt]
        have hle : ∀ q ∈ l ++ [r], mm q = true → (n q : Int) ≤ n r := by
          intro q hq h
          rcases (hm q).mp hq with h' | h'
          · have := h3 q h' h; omega
          · subst h'; exact Int.le_refl _
        by_cases ha : al r = true
        · rw [if_pos ha]
          exact .inr ⟨⟨r, (hm r).mpr (.inr rfl), hr, rfl⟩, hle, ⟨fun _ => ⟨r, (hm r).mpr (.inr rfl), hr, ha, rfl⟩, fun _ => rfl⟩⟩
        · rw [if_neg ha]
          by_cases he : (n r : Int) = b
          · rw [if_pos he]
            refine .inr ⟨⟨r, (hm r).mpr (.inr rfl), hr, rfl⟩, hle, ?_⟩
            simp only
            rw [h4]
            constructor
            · rintro ⟨q, hq, h1, h2, h5⟩; exact ⟨q, (hm q).mpr (.inl hq), h1, h2, by omega⟩
            · rintro ⟨q, hq, h1, h2, h5⟩
              rcases (hm q).mp hq with h' | h'
              · exact ⟨q, h', h1, h2, by omega⟩
              · subst h'; exact absurd h2 ha
          · rw [if_neg he]
            refine .inr ⟨⟨r, (hm r).mpr (.inr rfl), hr, rfl⟩, hle, ⟨fun h => (by cases h), ?_⟩⟩
            rintro ⟨q, hq, h1, h2, h5⟩
            simp only at h5
            rcases (hm q).mp hq with h' | h'
            · have := h3 q h' h1; omega
            · subst h'; exact absurd h2 ha
  · rw [if_neg hr]
    rcases h with ⟨h1, h2⟩ | ⟨⟨r0, hr0, h1, h2⟩, h3, h4⟩
    · refine .inl ⟨?_, h2⟩
      intro q hq
      rcases (hm q).mp hq with h' | h'
      · exact h1 q h'
      · subst h'; simpa using hr
    · refine .inr ⟨⟨r0, (hm r0).mpr (.inl hr0), h1, h2⟩, ?_, ?_⟩
      · intro q hq h
        rcases (hm q).mp hq with h' | h'
        · exact h3 q h' h
        · subst h'; exact absurd h hr
      · rw [h4]
        constructor
        · rintro ⟨q, hq, h⟩; exact ⟨q, (hm q).mpr (.inl hq), h⟩
        · rintro ⟨q, hq, h⟩
          rcases (hm q).mp hq with h' | h'
          · exact ⟨q, h', h⟩
          · subst h'; exact absurd h.1 hr
theorem best_fold (l : List R) : ∀ (pre : List R) (st : Int × Bool), Best mm al n pre st → Best mm al n (pre ++ l) (l.foldl (stp mm al n) st) := by
  induction l with
  | nil => intro pre st h; simpa using h
  | cons r l ih =>
    intro pre st h
    have := ih (pre ++ [r]) _ (best_step mm al n pre st r h)
    simpa using this
theorem best_ok (l : List R) (st : Int × Bool) (h : Best mm al n l st) : st.2 = true ↔ OKr mm al n l := by
  unfold OKr
  rcases h with ⟨h1, rfl⟩ | ⟨⟨r0, hr0, h1, h2⟩, h3, h4⟩
  · exact ⟨fun _ => .inl h1, fun _ => rfl⟩
  · rw [h4]
    constructor
    · rintro ⟨r, hr, a, b, c⟩
      exact .inr ⟨r, hr, a, b, fun q hq h => by have := h3 q hq h; omega⟩
    · rintro (h | ⟨r, hr, a, b, c⟩)
      · rw [h r0 hr0] at h1; cases h1
      · refine ⟨r, hr, a, b, ?_⟩
        have := c r0 hr0 h1
        have := h3 r hr a
        omega
theorem fold_ok (l : List R) : (l.foldl (stp mm al n) (-1, true)).2 = true ↔ OKr mm al n l := by
  have := best_fold mm al n l [] (-1, true) (.inl ⟨by simp, rfl⟩)
  exact best_ok mm al n l _ (by simpa using this)
/-- The document's first loop: the length of the longest that matches. -/
def mst (b : Int) (r : R) : Int := if mm r = true then (if (n r : Int) > b then (n r : Int) else b) else b
theorem mst_fold (l : List R) : ∀ b : Int, (∀ r ∈ l, mm r = true → (n r : Int) ≤ l.foldl (mst mm n) b) ∧ b ≤ l.foldl (mst mm n) b ∧ (l.foldl (mst mm n) b = b ∨ ∃ r ∈ l, mm r = true ∧ (n r : Int) = l.foldl (mst mm n) b) := by
  induction l with
  | nil => intro b; simp
  | cons r l ih =>
    intro b
    obtain ⟨h1, h2, h3⟩ := ih (mst mm n b r)
    simp only [List.foldl_cons]
    have hb : b ≤ mst mm n b r ∧ (mm r = true → (n r : Int) ≤ mst mm n b r) ∧ (mst mm n b r = b ∨ mm r = true ∧ (n r : Int) = mst mm n b r) := by
      unfold mst
      by_cases hr : mm r = true
      · rw [if_pos hr]
        by_cases hg : (n r : Int) > b
        · rw [if_pos hg]; exact ⟨by omega, fun _ => Int.le_refl _, .inr ⟨hr, rfl⟩⟩
        · rw [if_neg hg]; exact ⟨Int.le_refl _, fun _ => by omega, .inl rfl⟩
      · rw [if_neg hr]; exact ⟨Int.le_refl _, fun h => absurd h hr, .inl rfl⟩
    refine ⟨?_, by omega, ?_⟩
    · intro q hq hm
      rcases List.mem_cons.mp hq with rfl | hq
      · have := hb.2.1 hm; omega
      · exact h1 q hq hm
    · rcases h3 with h3 | ⟨q, hq, ha, hbq⟩
      · rw [h3]
        rcases hb.2.2 with h4 | ⟨h4, h5⟩
        · exact .inl h4
        · exact .inr ⟨r, List.mem_cons_self .., h4, h5⟩
      · exact .inr ⟨q, List.mem_cons_of_mem _ hq, ha, hbq⟩
/-- The document's answer. -/
def refR (l : List R) : Bool := (l.any fun r => al r && ((n r : Int) == l.foldl (mst mm n) (-1)) && mm r) || decide (l.foldl (mst mm n) (-1) < 0)
theorem ref_ok (l : List R) : refR mm al n l = true ↔ OKr mm al n l := by
  obtain ⟨h1, h2, h3⟩ := mst_fold mm n l (-1)
  unfold refR OKr
  rw [Bool.or_eq_true, List.any_eq_true, decide_eq_true_iff]
  constructor
  · rintro (⟨r, hr, h⟩ | h)
    · simp only [Bool.and_eq_true, beq_iff_eq] at h
      exact .inr ⟨r, hr, h.2, h.1.1, fun q hq hm => by have := h1 q hq hm; omega⟩
    · refine .inl fun r hr => ?_
      cases hm : mm r with
      | false => rfl
      | true => have := h1 r hr hm; omega
  · rintro (h | ⟨r, hr, hm, ha, h⟩)
    · refine .inr ?_
      rcases h3 with h3 | ⟨q, hq, hm, _⟩
      · omega
      · rw [h q hq] at hm; cases hm
    · refine .inl ⟨r, hr, ?_⟩
      simp only [Bool.and_eq_true, beq_iff_eq]
      refine ⟨⟨ha, ?_⟩, hm⟩
      have h4 := h1 r hr hm
      rcases h3 with h3 | ⟨q, hq, hmq, hq2⟩
      · omega
      · have := h q hq hmq; omega
theorem ref_fold (l : List R) : (l.foldl (stp mm al n) (-1, true)).2 = refR mm al n l := by
  apply Bool.eq_iff_iff.mpr
  rw [fold_ok, ref_ok]
end
end Go.Proofs.YtdnaddignhjihaaDoor.GivenM
namespace Go.Proofs.YtdnaddignhjihaaDoor.QBase
open Go.Proofs.YtdnaddignhjihaaDoor.Given
open Go.RowKit Go.Proofs.YtdnaddignhjihaaDoorW.PrintWords Go.Proofs.YtdnaddignhjihaaDoorW.PrintLast Go.Proofs.YtdnaddignhjihaaDoorW.PrintMore
attribute [local go_sem] max2_int min2_int max_two min_two max_three min_three max_four min_four   -- for this text's walks alone
set_option linter.unusedVariables false
set_option linter.unusedSimpArgs false
theorem eqA30 (d : Nat) (w : World) (x0 y0 : Bool) (x1 y1 : ByteArray) :
    (Op.equalIn (d + 2) 30 (.agg #[.bool x0, .string x1]) (.agg #[.bool y0, .string y1])).run Tryd.prog w = .ok (x0 == y0 && (x1.toList == y1.toList)) w := by
  refine eqA_of Tryd.underlying30 (by kernel_rfl) ?_
  refine eqf_cons (by rfl) (by go_simp; rfl) (by go_simp; rfl) (by go_simp) ?_
  exact eqf_last (by rfl) (by go_simp; rfl) (by go_simp; rfl) (by go_simp)
end Go.Proofs.YtdnaddignhjihaaDoor.QBase
namespace Go.Proofs.YtdnaddignhjihaaDoor.QBase
open Go.Proofs.YtdnaddignhjihaaDoor.Given
open Go.RowKit Go.Proofs.YtdnaddignhjihaaDoorW.PrintWords Go.Proofs.YtdnaddignhjihaaDoorW.PrintLast Go.Proofs.YtdnaddignhjihaaDoorW.PrintMore
attribute [local go_sem] max2_int min2_int max_two min_two max_three min_three max_four min_four   -- for this text's walks alone
set_option linter.unusedVariables false
set_option linter.unusedSimpArgs false
attribute [local go_sem high] eqA30
def decorumref09_Token.l0 : Nat → ByteArray → Int → Option (ByteArray)
  | 0, _, _ => none
  | k + 1, x3, x4 => if x4 < (x3.size : Int) then (if 0 ≤ x4 then (if (bt x3 x4) ≥ 97 then (if (bt x3 x4) ≤ 122 then (decorumref09_Token.l0 k x3 (wrap64 (x4 + 1))) else (if (bt x3 x4) = 45 then (decorumref09_Token.l0 k x3 (wrap64 (x4 + 1))) else (if (bt x3 x4) = 95 then (decorumref09_Token.l0 k x3 (wrap64 (x4 + 1))) else (if x4 ≤ (x3.size : Int) then (some (x3.extract 0 (x4 : Int).toNat)) else (none))))) else (if (bt x3 x4) = 45 then (decorumref09_Token.l0 k x3 (wrap64 (x4 + 1))) else (if (bt x3 x4) = 95 then (decorumref09_Token.l0 k x3 (wrap64 (x4 + 1))) else (if x4 ≤ (x3.size : Int) then (some (x3.extract 0 (x4 : Int).toNat)) else (none))))) else (none)) else (if 0 ≤ x4 then (if x4 ≤ (x3.size : Int) then (some (x3.extract 0 (x4 : Int).toNat)) else (none)) else (none))
def decorumref09_Token.f (k : Nat) (a0 : ByteArray) : Option (ByteArray) := (decorumref09_Lower.f a0).bind fun t153 => (decorumref09_Token.l0 k t153 0)
set_option maxHeartbeats 8000000 in
set_option maxRecDepth 100000 in
theorem decorumref09_Token.calls (k : Nat) (a0 : ByteArray) (r : ByteArray) (w : World) (h : decorumref09_Token.f k a0 = some r) :
    Calls Tryd.prog 15 #[.string a0] w fun e w' => e = .returned (.string r) ∧ Below w.heap.size w w' := by
  have HB := Aside0.mk (Below.refl w.heap.size w)
  have H : ((decorumref09_Lower.f a0).bind fun t153 => (decorumref09_Token.l0 k t153 0)) = some r := h
  clear h
  replace H := Option.bind_eq_some_iff.mp H
  obtain ⟨t153, A20, H⟩ := H
  replace H : (decorumref09_Token.l0 k t153 0) = some r := H
  have A2 := Aside0.mk A20
  clear A20
  have H' := Aside0.mk H
  clear H
  go_enter Tryd.func15, Tryd.ntmps15
  go_wp2_with (first | ((with_reducible refine gate_callee (f := 29) rfl ?_); refine goesL_ (some 6) rfl rfl Tryd.func29 (by kernel_rfl) rfl #[.string a0] rfl (by (try simp only [List.map_toArray, List.map_cons, List.map_nil]); first | done | rfl | (simp only [List.length_drop, List.length_take]; rfl)) ?_; (with_reducible refine (decorumref09_Lower.calls a0 t153 _ A2.out).mono ?_); rintro e w3 ⟨rfl, hb⟩; refine ⟨_, rfl, ?_⟩; have n0_ := Aside0.mk (below_step (by repeat (first | (with_reducible first | exact HB.out | apply below_alloc | apply pw_below_drewN | apply below_drew1) | exact HB.out)) hb); clear HB; have HB := n0_; clear n0_; (try clear hb); (try clear hb2); (try clear hk); (try clear hi)))
  go_loopg [4] k (fun kq v4 w' => ∃ (x4_1 : Int), v4 = .int .i64 x4_1 ∧ Aside0 (decorumref09_Token.l0 kq t153 x4_1 = some r) ∧ Aside0 (kq ≤ k) ∧ Aside0 (Below w.heap.size w w'))
  case atStart => exact ⟨(0), (by first | rfl | (simp; done) | (simp [*]; done)), H', ⟨Nat.le_refl _⟩, ⟨by repeat (first | (with_reducible first | exact HB.out | apply below_alloc | apply pw_below_drewN | apply below_drew1) | exact HB.out)⟩⟩
  case round =>
    clear H'
    try clear c1
    try clear c2
    try clear p2
    obtain ⟨x4_1, rfl, HA, HK1, HB⟩ := hrel
    cases gk with
    | zero => exact absurd HA.out (by simp [decorumref09_Token.l0])
    | succ k1 =>
      have H := HA.out
      clear HA
      simp only [decorumref09_Token.l0] at H
      by_cases c4 : x4_1 < (t153.size : Int)
      · rw [if_pos c4] at H
        have c4b0 : decide (x4_1 < (t153.size : Int)) = true := decide_eq_true c4
        clear c4
        by_cases c5 : 0 ≤ x4_1
        · rw [if_pos c5] at H
          have c5b0 : decide (0 ≤ x4_1) = true := decide_eq_true c5
          clear c5
          by_cases c7 : (bt t153 x4_1) ≥ 97
          · rw [if_pos c7] at H
            have c7b0 : decide (97 ≤ (bt t153 x4_1)) = true := decide_eq_true c7
            clear c7
            by_cases c9 : (bt t153 x4_1) ≤ 122
            · rw [if_pos c9] at H
              have c9b0 : decide ((bt t153 x4_1) ≤ 122) = true := decide_eq_true c9
              clear c9
              have H' := Aside0.mk H
              clear H
              have p6 : 0 ≤ (x4_1 : Int) := of_decide_eq_true (by first | (with_reducible assumption) | assumption)
              have q6 : x4_1 < (t153.size : Int) := of_decide_eq_true (by first | (with_reducible assumption) | assumption)
              have hx6 := bt_at t153 x4_1
              replace p6 := eq_true p6
              replace q6 := eq_true q6
              have p8 : 0 ≤ (x4_1 : Int) := of_decide_eq_true (by first | (with_reducible assumption) | assumption)
              have q8 : x4_1 < (t153.size : Int) := of_decide_eq_true (by first | (with_reducible assumption) | assumption)
              have hx8 := bt_at t153 x4_1
              replace p8 := eq_true p8
              replace q8 := eq_true q8
              go_wp2
              go_roundg k1
              case measure => have := HK1.out; omega
              case rel => exact ⟨(wrap64 (x4_1 + 1)), (by first | rfl | (simp; done) | (simp [*]; done)), H', ⟨by have := HK1.out; omega⟩, ⟨by repeat (first | (with_reducible first | exact HB.out | apply below_alloc | apply pw_below_drewN | apply below_drew1) | exact HB.out)⟩⟩
            · rw [if_neg c9] at H
              have c9b0 : decide ((bt t153 x4_1) ≤ 122) = false := decide_eq_false c9
              clear c9
              by_cases c11 : (bt t153 x4_1) = 45
              · rw [if_pos c11] at H
                have c11b0 : ((bt t153 x4_1) == 45) = true := beq_iff_eq.mpr c11
                have c11b1 : ((bt t153 x4_1) != 45) = false := bne_eq_false_iff_eq.mpr c11
                clear c11
                have H' := Aside0.mk H
                clear H
                have p6 : 0 ≤ (x4_1 : Int) := of_decide_eq_true (by first | (with_reducible assumption) | assumption)
                have q6 : x4_1 < (t153.size : Int) := of_decide_eq_true (by first | (with_reducible assumption) | assumption)
                have hx6 := bt_at t153 x4_1
                replace p6 := eq_true p6
                replace q6 := eq_true q6
                have p8 : 0 ≤ (x4_1 : Int) := of_decide_eq_true (by first | (with_reducible assumption) | assumption)
                have q8 : x4_1 < (t153.size : Int) := of_decide_eq_true (by first | (with_reducible assumption) | assumption)
                have hx8 := bt_at t153 x4_1
                replace p8 := eq_true p8
                replace q8 := eq_true q8
                have p10 : 0 ≤ (x4_1 : Int) := of_decide_eq_true (by first | (with_reducible assumption) | assumption)
                have q10 : x4_1 < (t153.size : Int) := of_decide_eq_true (by first | (with_reducible assumption) | assumption)
                have hx10 := bt_at t153 x4_1
                replace p10 := eq_true p10
                replace q10 := eq_true q10
                go_wp2
                go_roundg k1
                case measure => have := HK1.out; omega
                case rel => exact ⟨(wrap64 (x4_1 + 1)), (by first | rfl | (simp; done) | (simp [*]; done)), H', ⟨by have := HK1.out; omega⟩, ⟨by repeat (first | (with_reducible first | exact HB.out | apply below_alloc | apply pw_below_drewN | apply below_drew1) | exact HB.out)⟩⟩
              · rw [if_neg c11] at H
                have c11b0 : ((bt t153 x4_1) == 45) = false := beq_eq_false_iff_ne.mpr c11
                have c11b1 : ((bt t153 x4_1) != 45) = true := bne_iff_ne.mpr c11
                by_cases c13 : (bt t153 x4_1) = 95
                · rw [if_pos c13] at H
                  have c13b0 : ((bt t153 x4_1) == 95) = true := beq_iff_eq.mpr c13
                  have c13b1 : ((bt t153 x4_1) != 95) = false := bne_eq_false_iff_eq.mpr c13
                  clear c13
                  have H' := Aside0.mk H
                  clear H
                  have p6 : 0 ≤ (x4_1 : Int) := of_decide_eq_true (by first | (with_reducible assumption) | assumption)
                  have q6 : x4_1 < (t153.size : Int) := of_decide_eq_true (by first | (with_reducible assumption) | assumption)
                  have hx6 := bt_at t153 x4_1
                  replace p6 := eq_true p6
                  replace q6 := eq_true q6
                  have p8 : 0 ≤ (x4_1 : Int) := of_decide_eq_true (by first | (with_reducible assumption) | assumption)
                  have q8 : x4_1 < (t153.size : Int) := of_decide_eq_true (by first | (with_reducible assumption) | assumption)
                  have hx8 := bt_at t153 x4_1
                  replace p8 := eq_true p8
                  replace q8 := eq_true q8
                  have p10 : 0 ≤ (x4_1 : Int) := of_decide_eq_true (by first | (with_reducible assumption) | assumption)
                  have q10 : x4_1 < (t153.size : Int) := of_decide_eq_true (by first | (with_reducible assumption) | assumption)
                  have hx10 := bt_at t153 x4_1
                  replace p10 := eq_true p10
                  replace q10 := eq_true q10
                  have p12 : 0 ≤ (x4_1 : Int) := of_decide_eq_true (by first | (with_reducible assumption) | assumption)
                  have q12 : x4_1 < (t153.size : Int) := of_decide_eq_true (by first | (with_reducible assumption) | assumption)
                  have hx12 := bt_at t153 x4_1
                  replace p12 := eq_true p12
                  replace q12 := eq_true q12
                  go_wp2
                  go_roundg k1
                  case measure => have := HK1.out; omega
                  case rel => exact ⟨(wrap64 (x4_1 + 1)), (by first | rfl | (simp; done) | (simp [*]; done)), H', ⟨by have := HK1.out; omega⟩, ⟨by repeat (first | (with_reducible first | exact HB.out | apply below_alloc | apply pw_below_drewN | apply below_drew1) | exact HB.out)⟩⟩
                · rw [if_neg c13] at H
                  have c13b0 : ((bt t153 x4_1) == 95) = false := beq_eq_false_iff_ne.mpr c13
                  have c13b1 : ((bt t153 x4_1) != 95) = true := bne_iff_ne.mpr c13
                  have c14b0 := eq_true (of_decide_eq_true (by first | (with_reducible assumption) | assumption) : 0 ≤ x4_1)
                  by_cases c15 : x4_1 ≤ (t153.size : Int)
                  · rw [if_pos c15] at H
                    have c15b0 := eq_true c15
                    have c15b1 : decide (x4_1 ≤ (t153.size : Int)) = true := decide_eq_true c15
                    clear c15
                    obtain rfl := Option.some.inj H
                    have p6 : 0 ≤ (x4_1 : Int) := of_decide_eq_true (by first | (with_reducible assumption) | assumption)
                    have q6 : x4_1 < (t153.size : Int) := of_decide_eq_true (by first | (with_reducible assumption) | assumption)
                    have hx6 := bt_at t153 x4_1
                    replace p6 := eq_true p6
                    replace q6 := eq_true q6
                    have p8 : 0 ≤ (x4_1 : Int) := of_decide_eq_true (by first | (with_reducible assumption) | assumption)
                    have q8 : x4_1 < (t153.size : Int) := of_decide_eq_true (by first | (with_reducible assumption) | assumption)
                    have hx8 := bt_at t153 x4_1
                    replace p8 := eq_true p8
                    replace q8 := eq_true q8
                    have p10 : 0 ≤ (x4_1 : Int) := of_decide_eq_true (by first | (with_reducible assumption) | assumption)
                    have q10 : x4_1 < (t153.size : Int) := of_decide_eq_true (by first | (with_reducible assumption) | assumption)
                    have hx10 := bt_at t153 x4_1
                    replace p10 := eq_true p10
                    replace q10 := eq_true q10
                    have p12 : 0 ≤ (x4_1 : Int) := of_decide_eq_true (by first | (with_reducible assumption) | assumption)
                    have q12 : x4_1 < (t153.size : Int) := of_decide_eq_true (by first | (with_reducible assumption) | assumption)
                    have hx12 := bt_at t153 x4_1
                    replace p12 := eq_true p12
                    replace q12 := eq_true q12
                    go_wp2
                    go_ret
                    exact ⟨by first | rfl | (simp [errW_none, errW_some] <;> rfl) | (simp [*, errW_none, errW_some] <;> rfl) | (simp [wrap64]; done) | (simp [errW_none, errW_some] <;> exact empty_bne _), by repeat (first | (with_reducible first | exact HB.out | apply below_alloc | apply pw_below_drewN | apply below_drew1) | exact HB.out)⟩
                  · rw [if_neg c15] at H
                    exact absurd H (by simp)
          · rw [if_neg c7] at H
            have c7b0 : decide (97 ≤ (bt t153 x4_1)) = false := decide_eq_false c7
            clear c7
            by_cases c17 : (bt t153 x4_1) = 45
            · rw [if_pos c17] at H
              have c17b0 : ((bt t153 x4_1) == 45) = true := beq_iff_eq.mpr c17
              have c17b1 : ((bt t153 x4_1) != 45) = false := bne_eq_false_iff_eq.mpr c17
              clear c17
              have H' := Aside0.mk H
              clear H
              have p6 : 0 ≤ (x4_1 : Int) := of_decide_eq_true (by first | (with_reducible assumption) | assumption)
              have q6 : x4_1 < (t153.size : Int) := of_decide_eq_true (by first | (with_reducible assumption) | assumption)
              have hx6 := bt_at t153 x4_1
              replace p6 := eq_true p6
              replace q6 := eq_true q6
              have p16 : 0 ≤ (x4_1 : Int) := of_decide_eq_true (by first | (with_reducible assumption) | assumption)
              have q16 : x4_1 < (t153.size : Int) := of_decide_eq_true (by first | (with_reducible assumption) | assumption)
              have hx16 := bt_at t153 x4_1
              replace p16 := eq_true p16
              replace q16 := eq_true q16
              go_wp2
              go_roundg k1
              case measure => have := HK1.out; omega
              case rel => exact ⟨(wrap64 (x4_1 + 1)), (by first | rfl | (simp; done) | (simp [*]; done)), H', ⟨by have := HK1.out; omega⟩, ⟨by repeat (first | (with_reducible first | exact HB.out | apply below_alloc | apply pw_below_drewN | apply below_drew1) | exact HB.out)⟩⟩
            · rw [if_neg c17] at H
              have c17b0 : ((bt t153 x4_1) == 45) = false := beq_eq_false_iff_ne.mpr c17
              have c17b1 : ((bt t153 x4_1) != 45) = true := bne_iff_ne.mpr c17
              by_cases c19 : (bt t153 x4_1) = 95
              · rw [if_pos c19] at H
                have c19b0 : ((bt t153 x4_1) == 95) = true := beq_iff_eq.mpr c19
                have c19b1 : ((bt t153 x4_1) != 95) = false := bne_eq_false_iff_eq.mpr c19
                clear c19
                have H' := Aside0.mk H
                clear H
                have p6 : 0 ≤ (x4_1 : Int) := of_decide_eq_true (by first | (with_reducible assumption) | assumption)
                have q6 : x4_1 < (t153.size : Int) := of_decide_eq_true (by first | (with_reducible assumption) | assumption)
                have hx6 := bt_at t153 x4_1
                replace p6 := eq_true p6
                replace q6 := eq_true q6
                have p16 : 0 ≤ (x4_1 : Int) := of_decide_eq_true (by first | (with_reducible assumption) | assumption)
                have q16 : x4_1 < (t153.size : Int) := of_decide_eq_true (by first | (with_reducible assumption) | assumption)
                have hx16 := bt_at t153 x4_1
                replace p16 := eq_true p16
                replace q16 := eq_true q16
                have p18 : 0 ≤ (x4_1 : Int) := of_decide_eq_true (by first | (with_reducible assumption) | assumption)
                have q18 : x4_1 < (t153.size : Int) := of_decide_eq_true (by first | (with_reducible assumption) | assumption)
                have hx18 := bt_at t153 x4_1
                replace p18 := eq_true p18
                replace q18 := eq_true q18
                go_wp2
                go_roundg k1
                case measure => have := HK1.out; omega
                case rel => exact ⟨(wrap64 (x4_1 + 1)), (by first | rfl | (simp; done) | (simp [*]; done)), H', ⟨by have := HK1.out; omega⟩, ⟨by repeat (first | (with_reducible first | exact HB.out | apply below_alloc | apply pw_below_drewN | apply below_drew1) | exact HB.out)⟩⟩
              · rw [if_neg c19] at H
                have c19b0 : ((bt t153 x4_1) == 95) = false := beq_eq_false_iff_ne.mpr c19
                have c19b1 : ((bt t153 x4_1) != 95) = true := bne_iff_ne.mpr c19
                have c20b0 := eq_true (of_decide_eq_true (by first | (with_reducible assumption) | assumption) : 0 ≤ x4_1)
                by_cases c21 : x4_1 ≤ (t153.size : Int)
                · rw [if_pos c21] at H
                  have c21b0 := eq_true c21
                  have c21b1 : decide (x4_1 ≤ (t153.size : Int)) = true := decide_eq_true c21
                  clear c21
                  obtain rfl := Option.some.inj H
                  have p6 : 0 ≤ (x4_1 : Int) := of_decide_eq_true (by first | (with_reducible assumption) | assumption)
                  have q6 : x4_1 < (t153.size : Int) := of_decide_eq_true (by first | (with_reducible assumption) | assumption)
                  have hx6 := bt_at t153 x4_1
                  replace p6 := eq_true p6
                  replace q6 := eq_true q6
                  have p16 : 0 ≤ (x4_1 : Int) := of_decide_eq_true (by first | (with_reducible assumption) | assumption)
                  have q16 : x4_1 < (t153.size : Int) := of_decide_eq_true (by first | (with_reducible assumption) | assumption)
                  have hx16 := bt_at t153 x4_1
                  replace p16 := eq_true p16
                  replace q16 := eq_true q16
                  have p18 : 0 ≤ (x4_1 : Int) := of_decide_eq_true (by first | (with_reducible assumption) | assumption)
                  have q18 : x4_1 < (t153.size : Int) := of_decide_eq_true (by first | (with_reducible assumption) | assumption)
                  have hx18 := bt_at t153 x4_1
                  replace p18 := eq_true p18
                  replace q18 := eq_true q18
                  go_wp2
                  go_ret
                  exact ⟨by first | rfl | (simp [errW_none, errW_some] <;> rfl) | (simp [*, errW_none, errW_some] <;> rfl) | (simp [wrap64]; done) | (simp [errW_none, errW_some] <;> exact empty_bne _), by repeat (first | (with_reducible first | exact HB.out | apply below_alloc | apply pw_below_drewN | apply below_drew1) | exact HB.out)⟩
                · rw [if_neg c21] at H
                  exact absurd H (by simp)
        · rw [if_neg c5] at H
          exact absurd H (by simp)
      · rw [if_neg c4] at H
        have c4b0 : decide (x4_1 < (t153.size : Int)) = false := decide_eq_false c4
        clear c4
        by_cases c22 : 0 ≤ x4_1
        · rw [if_pos c22] at H
          have c22b0 := eq_true c22
          have c22b1 : decide (0 ≤ x4_1) = true := decide_eq_true c22
          clear c22
          by_cases c23 : x4_1 ≤ (t153.size : Int)
          · rw [if_pos c23] at H
            have c23b0 := eq_true c23
            have c23b1 : decide (x4_1 ≤ (t153.size : Int)) = true := decide_eq_true c23
            clear c23
            obtain rfl := Option.some.inj H
            go_wp2
            go_ret
            exact ⟨by first | rfl | (simp [errW_none, errW_some] <;> rfl) | (simp [*, errW_none, errW_some] <;> rfl) | (simp [wrap64]; done) | (simp [errW_none, errW_some] <;> exact empty_bne _), by repeat (first | (with_reducible first | exact HB.out | apply below_alloc | apply pw_below_drewN | apply below_drew1) | exact HB.out)⟩
          · rw [if_neg c23] at H
            exact absurd H (by simp)
        · rw [if_neg c22] at H
          exact absurd H (by simp)

end Go.Proofs.YtdnaddignhjihaaDoor.QBase
namespace Go.Proofs.YtdnaddignhjihaaDoor.QBase
open Go.Proofs.YtdnaddignhjihaaDoor.Given
open Go.RowKit Go.Proofs.YtdnaddignhjihaaDoorW.PrintWords Go.Proofs.YtdnaddignhjihaaDoorW.PrintLast Go.Proofs.YtdnaddignhjihaaDoorW.PrintMore
attribute [local go_sem] max2_int min2_int max_two min_two max_three min_three max_four min_four   -- for this text's walks alone
set_option linter.unusedVariables false
set_option linter.unusedSimpArgs false
def lines_line.f (a0 : ByteArray) : Option (ByteArray × ByteArray × Bool) := (strings_Cut.f a0 (⟨#[35]⟩ : ByteArray)).bind fun bt102 => ((strings_Cut.f bt102.1 (⟨#[58]⟩ : ByteArray)).bind fun bt105 => ((strings_Trim.f bt105.1 (⟨#[32, 9]⟩ : ByteArray)).bind fun t108 => ((lines_lower.f t108).bind fun t109 => ((strings_Trim.f bt105.2.1 (⟨#[32, 9]⟩ : ByteArray)).bind fun t110 => (if bt105.2.2 = true then (some (t109, t110, (t109.toList != ([] : List UInt8)))) else (some (t109, t110, false)))))))
def lines_line.T4 : Bool × List (List Nat × List Nat) := (true, [([], []), ([], []), ([1], [1]), ([2], [2]), ([3, 2], [2, 3]), ([4, 2], [2, 4]), ([2, 5], [2, 5]), ([0, 2, 0], [0]), ([6, 7, 0, 1, 2, 3, 4, 5, 6, 7], [6])])
def lines_line.B4 : List Nat := [0, 0, 2, 6, 14, 30, 62, 7, 255]
theorem lines_line.tab4 : rtab .any (opsOf Tryd.f26 4) = lines_line.T4 := by kernel_rfl
theorem lines_line.bits4 : waitsOk lines_line.T4.2 lines_line.B4 = true := by kernel_rfl
set_option maxHeartbeats 8000000 in
set_option maxRecDepth 100000 in
theorem lines_line.calls (a0 : ByteArray) (r1 : ByteArray) (r2 : ByteArray) (r3 : Bool) (w : World) (h : lines_line.f a0 = some (r1, r2, r3)) (hS_ : Shp w) :
    Calls Tryd.prog 26 #[.string a0] w fun e w' => e = .returned (.tuple #[.agg #[.string r1, .string r2], .bool r3]) ∧ Below w.heap.size w w' := by
  have hu35 := Tryd.underlying35
  have HB := Aside0.mk (Below.refl w.heap.size w)
  have HS_ := Aside0.mk hS_
  clear hS_
  have H : ((strings_Cut.f a0 (⟨#[35]⟩ : ByteArray)).bind fun bt102 => ((strings_Cut.f bt102.1 (⟨#[58]⟩ : ByteArray)).bind fun bt105 => ((strings_Trim.f bt105.1 (⟨#[32, 9]⟩ : ByteArray)).bind fun t108 => ((lines_lower.f t108).bind fun t109 => ((strings_Trim.f bt105.2.1 (⟨#[32, 9]⟩ : ByteArray)).bind fun t110 => (if bt105.2.2 = true then (some (t109, t110, (t109.toList != ([] : List UInt8)))) else (some (t109, t110, false)))))))) = some (r1, r2, r3) := h
  clear h
  replace H := Option.bind_eq_some_iff.mp H
  obtain ⟨⟨t102, t103, t104⟩, A20, H⟩ := H
  replace H : ((strings_Cut.f t102 (⟨#[58]⟩ : ByteArray)).bind fun bt105 => ((strings_Trim.f bt105.1 (⟨#[32, 9]⟩ : ByteArray)).bind fun t108 => ((lines_lower.f t108).bind fun t109 => ((strings_Trim.f bt105.2.1 (⟨#[32, 9]⟩ : ByteArray)).bind fun t110 => (if bt105.2.2 = true then (some (t109, t110, (t109.toList != ([] : List UInt8)))) else (some (t109, t110, false))))))) = some (r1, r2, r3) := H
  have A2 := Aside0.mk A20
  clear A20
  replace H := Option.bind_eq_some_iff.mp H
  obtain ⟨⟨t105, t106, t107⟩, A30, H⟩ := H
  replace H : ((strings_Trim.f t105 (⟨#[32, 9]⟩ : ByteArray)).bind fun t108 => ((lines_lower.f t108).bind fun t109 => ((strings_Trim.f t106 (⟨#[32, 9]⟩ : ByteArray)).bind fun t110 => (if t107 = true then (some (t109, t110, (t109.toList != ([] : List UInt8)))) else (some (t109, t110, false)))))) = some (r1, r2, r3) := H
  have A3 := Aside0.mk A30
  clear A30
  replace H := Option.bind_eq_some_iff.mp H
  obtain ⟨t108, A40, H⟩ := H
  replace H : ((lines_lower.f t108).bind fun t109 => ((strings_Trim.f t106 (⟨#[32, 9]⟩ : ByteArray)).bind fun t110 => (if t107 = true then (some (t109, t110, (t109.toList != ([] : List UInt8)))) else (some (t109, t110, false))))) = some (r1, r2, r3) := H
  have A4 := Aside0.mk A40
  clear A40
  replace H := Option.bind_eq_some_iff.mp H
  obtain ⟨t109, A50, H⟩ := H
  replace H : ((strings_Trim.f t106 (⟨#[32, 9]⟩ : ByteArray)).bind fun t110 => (if t107 = true then (some (t109, t110, (t109.toList != ([] : List UInt8)))) else (some (t109, t110, false)))) = some (r1, r2, r3) := H
  have A5 := Aside0.mk A50
  clear A50
  replace H := Option.bind_eq_some_iff.mp H
  obtain ⟨t110, A60, H⟩ := H
  replace H : (if t107 = true then (some (t109, t110, (t109.toList != ([] : List UInt8)))) else (some (t109, t110, false))) = some (r1, r2, r3) := H
  have A6 := Aside0.mk A60
  clear A60
  by_cases c7 : t107 = true
  · subst c7
    have H1 : (some (t109, t110, (t109.toList != ([] : List UInt8)))) = some (r1, r2, r3) := by rw [if_pos rfl] at H; exact H
    clear H
    have H := H1
    clear H1
    simp only [Option.some.injEq, Prod.mk.injEq] at H
    obtain ⟨rfl, rfl, rfl⟩ := H
    go_enter Tryd.func26, Tryd.ntmps26
    try go_wp2_with (first | ((with_reducible refine gate_dst (N := 2) rfl ?_); refine box_event ?hg (N := 2) ?hd (cs := #[.string (⟨#[]⟩ : ByteArray), .string (⟨#[]⟩ : ByteArray)]) (t := 35) ?hr ?_; (case hd => rfl); (case hg => rfl); (case hr => first | (go_simp; done) | (go_simp; rfl)); intro gb101 hg w8 hbox hb; have n0_ := Aside0.mk (below_step (by repeat (first | (with_reducible first | exact HB.out | apply below_alloc | apply pw_below_drewN | apply below_drew1) | exact HB.out)) hb); have n1_ := Aside0.mk (hbox); have n2_ := Aside0.mk ((by rw [hg]; exact (below_size (by repeat (first | (with_reducible first | exact HB.out | apply below_alloc | apply pw_below_drewN | apply below_drew1) | exact HB.out))) : w.heap.size ≤ gb101)); have n3_ := Aside0.mk ((by rw [hg]; exact (below_size (by repeat (first | (with_reducible first | exact HB.out | apply below_alloc | apply pw_below_drewN | apply below_drew1) | exact HB.out))) : w.heap.size ≤ gb101)); clear HB; have HB := n0_; have BK101 := n1_; have GW101 := n2_; have GE101 := n3_; clear n0_ n1_ n2_ n3_; clear hb hbox hg) | ((with_reducible refine gate_callee (f := 40) rfl ?_); refine goesL_ (some 10) rfl rfl Tryd.func40 (by kernel_rfl) rfl #[.string a0, .string (⟨#[35]⟩ : ByteArray)] rfl (by (try simp only [List.map_toArray, List.map_cons, List.map_nil]); first | done | rfl | (simp only [List.length_drop, List.length_take]; rfl)) ?_; (with_reducible refine (strings_Cut.calls a0 (⟨#[35]⟩ : ByteArray) t102 t103 t104 _ A2.out (Shp.below HS_.out (by repeat (first | (with_reducible first | exact HB.out | apply below_alloc | apply pw_below_drewN | apply below_drew1 | refine below_set ?_ GE101.out) | exact HB.out)))).mono ?_); rintro e w' ⟨rfl, ⟨nd, rfl⟩⟩; refine ⟨_, rfl, ?_⟩; (try (rw [drewN_self w8]; generalize hq_ : World.drewN w8 _ = w8; have n0_ : Aside0 (w8.heap[gb101]? = some (.cells #[.string (⟨#[]⟩ : ByteArray), .string (⟨#[]⟩ : ByteArray)] 35 (0, 0))) := ⟨by rw [← hq_]; exact (by (with_reducible repeat (first | refine blk_drewN ?_ _ | refine blk_drew ?_ | refine blk_alloc ?_ _)); exact BK101.out)⟩; have n1_ : Aside0 (Below w.heap.size w w8) := ⟨by rw [← hq_]; exact (by repeat (first | (with_reducible first | exact HB.out | apply below_alloc | apply pw_below_drewN | apply below_drew1 | refine below_set ?_ GE101.out) | exact HB.out))⟩; clear BK101 HB hq_; have BK101 := n0_; have HB := n1_; clear n0_ n1_))) | ((with_reducible refine gate_callee (f := 40) rfl ?_); refine goesL_ (some 16) rfl rfl Tryd.func40 (by kernel_rfl) rfl #[.string t102, .string (⟨#[58]⟩ : ByteArray)] rfl (by (try simp only [List.map_toArray, List.map_cons, List.map_nil]); first | done | rfl | (simp only [List.length_drop, List.length_take]; rfl)) ?_; (with_reducible refine (strings_Cut.calls t102 (⟨#[58]⟩ : ByteArray) t105 t106 true _ A3.out (Shp.below HS_.out (by repeat (first | (with_reducible first | exact HB.out | apply below_alloc | apply pw_below_drewN | apply below_drew1 | refine below_set ?_ GE101.out) | exact HB.out)))).mono ?_); rintro e w' ⟨rfl, ⟨nd, rfl⟩⟩; refine ⟨_, rfl, ?_⟩; (try (rw [drewN_self w8]; generalize hq_ : World.drewN w8 _ = w8; have n0_ : Aside0 (w8.heap[gb101]? = some (.cells #[.string (⟨#[]⟩ : ByteArray), .string (⟨#[]⟩ : ByteArray)] 35 (0, 0))) := ⟨by rw [← hq_]; exact (by (with_reducible repeat (first | refine blk_drewN ?_ _ | refine blk_drew ?_ | refine blk_alloc ?_ _)); exact BK101.out)⟩; have n1_ : Aside0 (Below w.heap.size w w8) := ⟨by rw [← hq_]; exact (by repeat (first | (with_reducible first | exact HB.out | apply below_alloc | apply pw_below_drewN | apply below_drew1 | refine below_set ?_ GE101.out) | exact HB.out))⟩; clear BK101 HB hq_; have BK101 := n0_; have HB := n1_; clear n0_ n1_))) | ((with_reducible refine gate_callee (f := 42) rfl ?_); refine goesL_ (some 21) rfl rfl Tryd.func42 (by kernel_rfl) rfl #[.string t105, .string (⟨#[32, 9]⟩ : ByteArray)] rfl (by (try simp only [List.map_toArray, List.map_cons, List.map_nil]); first | done | rfl | (simp only [List.length_drop, List.length_take]; rfl)) ?_; (with_reducible refine (strings_Trim.calls t105 (⟨#[32, 9]⟩ : ByteArray) t108 _ A4.out).mono ?_); rintro e w9 ⟨rfl, hb⟩; refine ⟨_, rfl, ?_⟩; have n0_ := Aside0.mk (blk_below (g := gb101) (o := .cells #[.string (⟨#[]⟩ : ByteArray), .string (⟨#[]⟩ : ByteArray)] 35 (0, 0)) (by (with_reducible repeat (first | refine blk_drewN ?_ _ | refine blk_drew ?_ | refine blk_alloc ?_ _)); exact BK101.out) hb); have n1_ := Aside0.mk (below_step (by repeat (first | (with_reducible first | exact HB.out | apply below_alloc | apply pw_below_drewN | apply below_drew1 | refine below_set ?_ GE101.out) | exact HB.out)) hb); clear BK101; clear HB; have BK101 := n0_; have HB := n1_; clear n0_ n1_; (try clear hb); (try clear hb2); (try clear hk); (try clear hi)) | ((with_reducible refine gate_callee (f := 41) rfl ?_); refine goesL_ (some 22) rfl rfl Tryd.func41 (by kernel_rfl) rfl #[.string t108] rfl (by (try simp only [List.map_toArray, List.map_cons, List.map_nil]); first | done | rfl | (simp only [List.length_drop, List.length_take]; rfl)) ?_; (with_reducible refine (lines_lower.calls t108 t109 _ A5.out).mono ?_); rintro e w10 ⟨rfl, hb⟩; refine ⟨_, rfl, ?_⟩; have n0_ := Aside0.mk (blk_below (g := gb101) (o := .cells #[.string (⟨#[]⟩ : ByteArray), .string (⟨#[]⟩ : ByteArray)] 35 (0, 0)) (by (with_reducible repeat (first | refine blk_drewN ?_ _ | refine blk_drew ?_ | refine blk_alloc ?_ _)); exact BK101.out) hb); have n1_ := Aside0.mk (below_step (by repeat (first | (with_reducible first | exact HB.out | apply below_alloc | apply pw_below_drewN | apply below_drew1 | refine below_set ?_ GE101.out) | exact HB.out)) hb); clear BK101; clear HB; have BK101 := n0_; have HB := n1_; clear n0_ n1_; (try clear hb); (try clear hb2); (try clear hk); (try clear hi)) | ((with_reducible refine gate_callee (f := 42) rfl ?_); refine goesL_ (some 24) rfl rfl Tryd.func42 (by kernel_rfl) rfl #[.string t106, .string (⟨#[32, 9]⟩ : ByteArray)] rfl (by (try simp only [List.map_toArray, List.map_cons, List.map_nil]); first | done | rfl | (simp only [List.length_drop, List.length_take]; rfl)) ?_; (with_reducible refine (strings_Trim.calls t106 (⟨#[32, 9]⟩ : ByteArray) t110 _ A6.out).mono ?_); rintro e w11 ⟨rfl, hb⟩; refine ⟨_, rfl, ?_⟩; have n0_ := Aside0.mk (blk_below (g := gb101) (o := .cells #[.string (⟨#[]⟩ : ByteArray), .string (⟨#[]⟩ : ByteArray)] 35 (0, 0)) (by (with_reducible repeat (first | refine blk_drewN ?_ _ | refine blk_drew ?_ | refine blk_alloc ?_ _)); exact BK101.out) hb); have n1_ := Aside0.mk (below_step (by repeat (first | (with_reducible first | exact HB.out | apply below_alloc | apply pw_below_drewN | apply below_drew1 | refine below_set ?_ GE101.out) | exact HB.out)) hb); clear BK101; clear HB; have BK101 := n0_; have HB := n1_; clear n0_ n1_; (try clear hb); (try clear hb2); (try clear hk); (try clear hi)) | ((with_reducible refine gate_dst (N := 7) rfl ?_); refine box_event ?hg (N := 7) ?hd (cs := #[.string (⟨#[]⟩ : ByteArray), .string (⟨#[]⟩ : ByteArray)]) (t := 35) ?hr ?_; (case hd => rfl); (case hg => rfl); (case hr => first | (go_simp; done) | (go_simp; rfl)); intro gb111 hg w12 hbox hb; have n0_ := Aside0.mk (blk_below (g := gb101) (o := .cells #[.string (⟨#[]⟩ : ByteArray), .string (⟨#[]⟩ : ByteArray)] 35 (0, 0)) (by (with_reducible repeat (first | refine blk_drewN ?_ _ | refine blk_drew ?_ | refine blk_alloc ?_ _)); exact BK101.out) hb); have n1_ := Aside0.mk (below_step (by repeat (first | (with_reducible first | exact HB.out | apply below_alloc | apply pw_below_drewN | apply below_drew1 | refine below_set ?_ GE101.out) | exact HB.out)) hb); have n2_ := Aside0.mk (hbox); have n3_ := Aside0.mk ((by rw [hg]; exact (below_size (by repeat (first | (with_reducible first | exact HB.out | apply below_alloc | apply pw_below_drewN | apply below_drew1 | refine below_set ?_ GE101.out) | exact HB.out))) : w.heap.size ≤ gb111)); have n4_ := Aside0.mk ((by rw [hg]; exact (below_size (by repeat (first | (with_reducible first | exact HB.out | apply below_alloc | apply pw_below_drewN | apply below_drew1 | refine below_set ?_ GE101.out) | exact HB.out))) : w.heap.size ≤ gb111)); have n5_ := Aside0.mk ((by rw [hg]; exact Nat.ne_of_lt (blk_lt (g := gb101) (o := .cells #[.string (⟨#[]⟩ : ByteArray), .string (⟨#[]⟩ : ByteArray)] 35 (0, 0)) (by (with_reducible repeat (first | refine blk_drewN ?_ _ | refine blk_drew ?_ | refine blk_alloc ?_ _)); exact BK101.out)) : gb101 ≠ gb111)); have n6_ := Aside0.mk ((by rw [hg]; exact Nat.ne_of_gt (blk_lt (g := gb101) (o := .cells #[.string (⟨#[]⟩ : ByteArray), .string (⟨#[]⟩ : ByteArray)] 35 (0, 0)) (by (with_reducible repeat (first | refine blk_drewN ?_ _ | refine blk_drew ?_ | refine blk_alloc ?_ _)); exact BK101.out)) : gb111 ≠ gb101)); clear BK101; clear HB; have BK101 := n0_; have HB := n1_; have BK111 := n2_; have GW111 := n3_; have GE111 := n4_; have NB101_111 := n5_; have NB111_101 := n6_; clear n0_ n1_ n2_ n3_ n4_ n5_ n6_; clear hb hbox hg; have hnb13 := NB111_101.out; have hnc13 := NB101_111.out; have hcz14_0 : w12.cell? ⟨gb111, 0, none⟩ = some (.string (⟨#[]⟩ : ByteArray)) := (blk_cell BK111.out 0).trans rfl; have hcz14_1 : w12.cell? ⟨gb111, 1, none⟩ = some (.string (⟨#[]⟩ : ByteArray)) := (blk_cell BK111.out 1).trans rfl; have hfz14_0 := blk_frozen BK111.out 0; have hfz14_1 := blk_frozen BK111.out 1))
    have n0_ : Aside0 (((w12.setCell ⟨gb111, 0, none⟩ (.string t109)).setCell ⟨gb111, 1, none⟩ (.string t110)).heap[gb101]? = some (.cells #[.string (⟨#[]⟩ : ByteArray), .string (⟨#[]⟩ : ByteArray)] 35 (0, 0))) := ⟨by (with_reducible repeat (first | refine blk_drewN ?_ _ | refine blk_drew ?_ | refine blk_alloc ?_ _)); refine blk_far ?_ NB101_111.out _; (with_reducible repeat (first | refine blk_drewN ?_ _ | refine blk_drew ?_ | refine blk_alloc ?_ _)); refine blk_far ?_ NB101_111.out _; (with_reducible repeat (first | refine blk_drewN ?_ _ | refine blk_drew ?_ | refine blk_alloc ?_ _)); exact BK101.out⟩
    have n1_ : Aside0 (((w12.setCell ⟨gb111, 0, none⟩ (.string t109)).setCell ⟨gb111, 1, none⟩ (.string t110)).heap[gb111]? = some (.cells #[.string t109, .string t110] 35 (0, 0))) := ⟨by (with_reducible repeat (first | refine blk_drewN ?_ _ | refine blk_drew ?_ | refine blk_alloc ?_ _)); refine blk_put (cs := #[.string t109, .string (⟨#[]⟩ : ByteArray)]) ?_ 1 _ rfl; (with_reducible repeat (first | refine blk_drewN ?_ _ | refine blk_drew ?_ | refine blk_alloc ?_ _)); refine blk_put (cs := #[.string (⟨#[]⟩ : ByteArray), .string (⟨#[]⟩ : ByteArray)]) ?_ 0 _ rfl; (with_reducible repeat (first | refine blk_drewN ?_ _ | refine blk_drew ?_ | refine blk_alloc ?_ _)); exact BK111.out⟩
    have n2_ : Aside0 (Below w.heap.size w ((w12.setCell ⟨gb111, 0, none⟩ (.string t109)).setCell ⟨gb111, 1, none⟩ (.string t110))) := ⟨by repeat (first | (with_reducible first | exact HB.out | apply below_alloc | apply pw_below_drewN | apply below_drew1 | refine below_set ?_ GE101.out | refine below_set ?_ GE111.out) | exact HB.out)⟩
    (try clear BK101)
    (try clear BK111)
    (try clear HB)
    generalize ((w12.setCell ⟨gb111, 0, none⟩ (.string t109)).setCell ⟨gb111, 1, none⟩ (.string t110)) = w15 at n0_ n1_ n2_ ⊢
    have BK101 := n0_
    have BK111 := n1_
    have HB := n2_
    clear n0_ n1_ n2_
    have n0_ := Aside0.mk (blk_drew BK101.out)
    have n1_ := Aside0.mk (blk_drew BK111.out)
    have n2_ := Aside0.mk (below_drew1 HB.out)
    clear BK101
    clear BK111
    clear HB
    have BK101 := n0_
    have BK111 := n1_
    have HB := n2_
    clear n0_ n1_ n2_
    refine start_ (n := 9) (S := fun w' => w'.cell? ⟨gb111, 0, none⟩ = some (.string t109) ∧ w'.cell? ⟨gb111, 1, none⟩ = some (.string t110)) (ds := []) #[false, false, false, false, false, false, false, false, false] (by kernel_rfl) rfl rfl ⟨(blk_cell BK111.out 0).trans rfl, (blk_cell BK111.out 1).trans rfl⟩ (fun hHeld => ?_); refine with_tabW lines_line.tab4 lines_line.bits4 (fun HT_ HW_ => ?_)
    generalize w15.drew = w16 at BK101 BK111 HB hHeld ⊢
    refine pure_ (i := 1) (N := some 27) (v := ?_) (a' := ?_) #[false, true, false, false, false, false, false, false, false] rfl rfl (any_of HT_.out (by kernel_rfl)) (fun _ _ _ h => h) (Or.inl ⟨by rfl, ?_⟩) ?_ ?_
    rotate_left
    · intro w'
      go_simp
      with_reducible rfl
    rotate_left
    · simp only [Act.put, List.setIfInBounds_toArray, List.set_cons_zero, List.set_cons_succ, i64_w, i32_w]
      rfl
    refine pure_ (i := 2) (N := some 28) (v := ?_) (a' := ?_) #[false, true, true, false, false, false, false, false, false] rfl rfl (any_of HT_.out (by kernel_rfl)) (fun _ _ _ h => h) (Or.inl ⟨by rfl, ?_⟩) ?_ ?_
    rotate_left
    · intro w'
      go_simp
      with_reducible rfl
    rotate_left
    · simp only [Act.put, List.setIfInBounds_toArray, List.set_cons_zero, List.set_cons_succ, i64_w, i32_w]
      rfl
    refine pure_ (i := 3) (N := some 29) (v := ?_) (a' := ?_) #[false, true, true, true, false, false, false, false, false] rfl rfl (any_of HT_.out (by kernel_rfl)) (fun _ _ _ h => h) (Or.inl ⟨by rfl, ?_⟩) ?_ ?_
    rotate_left
    · intro w'
      go_simp
      with_reducible rfl
    rotate_left
    · simp only [Act.put, List.setIfInBounds_toArray, List.set_cons_zero, List.set_cons_succ, i64_w, i32_w]
      rfl
    refine take_ (i := 0) (N := some 26) (v := ?_) (a' := ?_) #[true, true, true, true, false, false, false, false, false] rfl rfl (take_ofW HT_.out HW_.out (by kernel_rfl)) (fun _ _ _ h => h) (Or.inl ⟨by rfl, ?_⟩) hHeld ?_ ?_
    rotate_left
    · rintro w' ⟨s0, s1⟩
      go_simp
      with_reducible rfl
    rotate_left
    · simp only [Act.put, List.setIfInBounds_toArray, List.set_cons_zero, List.set_cons_succ, i64_w, i32_w]
      rfl
    refine take_ (i := 4) (N := some 30) (v := ?_) (a' := ?_) #[true, true, true, true, true, false, false, false, false] rfl rfl (take_ofW HT_.out HW_.out (by kernel_rfl)) (fun _ _ _ h => h) (Or.inl ⟨by rfl, ?_⟩) hHeld ?_ ?_
    rotate_left
    · rintro w' ⟨s0, s1⟩
      go_simp
      with_reducible rfl
    rotate_left
    · simp only [Act.put, List.setIfInBounds_toArray, List.set_cons_zero, List.set_cons_succ, i64_w, i32_w]
      rfl
    refine pure_ (i := 5) (N := some 31) (v := ?_) (a' := ?_) #[true, true, true, true, true, true, false, false, false] rfl rfl (any_of HT_.out (by kernel_rfl)) (fun _ _ _ h => h) (Or.inl ⟨by rfl, ?_⟩) ?_ ?_
    rotate_left
    · intro w'
      go_simp
      with_reducible rfl
    rotate_left
    · simp only [Act.put, List.setIfInBounds_toArray, List.set_cons_zero, List.set_cons_succ, i64_w, i32_w]
      rfl
    refine pure_ (i := 6) (N := some 32) (v := ?_) (a' := ?_) #[true, true, true, true, true, true, true, false, false] rfl rfl (any_of HT_.out (by kernel_rfl)) (fun _ _ _ h => h) (Or.inl ⟨by rfl, ?_⟩) ?_ ?_
    rotate_left
    · intro w'
      go_simp
      with_reducible rfl
    rotate_left
    · simp only [Act.put, List.setIfInBounds_toArray, List.set_cons_zero, List.set_cons_succ, i64_w, i32_w]
      rfl
    refine one_ (i := 7) (N := none) #[true, true, true, true, true, true, true, true, false] rfl rfl (one_of HT_.out (by kernel_rfl)) (by decide) (fun K hK => ?_)
    have hs17 : w16.cell? ⟨gb101, 0, none⟩ = some (.string (⟨#[]⟩ : ByteArray)) := (blk_cell BK101.out 0).trans rfl
    have hfs17 := blk_frozen BK101.out 0
    have hns17_1 := NB111_101.out
    have hms17_1 := NB101_111.out
    have hs18 : w16.cell? ⟨gb101, 1, none⟩ = some (.string (⟨#[]⟩ : ByteArray)) := (blk_cell BK101.out 1).trans rfl
    have hfs18 := blk_frozen BK101.out 1
    have hns18_1 := NB111_101.out
    have hms18_1 := NB101_111.out
    refine skip_ (w1 := ?_) (by rfl) rfl ?_ ?_
    rotate_left
    · go_simp
      rfl
    refine hK.out _ _ ⟨((cell_far (p := ⟨gb101, _, none⟩) NB111_101.out _).trans (((cell_far (p := ⟨gb101, _, none⟩) NB111_101.out _).trans (hHeld.1)))), ((cell_far (p := ⟨gb101, _, none⟩) NB111_101.out _).trans (((cell_far (p := ⟨gb101, _, none⟩) NB111_101.out _).trans (hHeld.2))))⟩ (fun hHeld => ?_)
    clear hK K
    refine pure_ (i := 8) (N := some 3) (v := ?_) (a' := ?_) #[true, true, true, true, true, true, true, true, true] rfl rfl (any_of HT_.out (by kernel_rfl)) (fun _ _ _ h => h) (Or.inl ⟨by rfl, ?_⟩) ?_ ?_
    rotate_left
    · intro w'
      go_simp
      with_reducible rfl
    rotate_left
    · simp only [Act.put, List.setIfInBounds_toArray, List.set_cons_zero, List.set_cons_succ, i64_w, i32_w]
      rfl
    refine done_ (done_of HT_.out (by kernel_rfl)) ?_
    try go_wp2
    refine bodyPost_ret (results_ct rfl _ _ gb101 35 #[.string t109, .string t110] (0, 0) _ rfl (by (with_reducible repeat (first | refine blk_drewN ?_ _ | refine blk_drew ?_ | refine blk_alloc ?_ _)); refine blk_put (cs := #[.string t109, .string (⟨#[]⟩ : ByteArray)]) ?_ 1 _ rfl; (with_reducible repeat (first | refine blk_drewN ?_ _ | refine blk_drew ?_ | refine blk_alloc ?_ _)); refine blk_put (cs := #[.string (⟨#[]⟩ : ByteArray), .string (⟨#[]⟩ : ByteArray)]) ?_ 0 _ rfl; (with_reducible repeat (first | refine blk_drewN ?_ _ | refine blk_drew ?_ | refine blk_alloc ?_ _)); exact BK101.out) Tryd.underlying35 rfl (by kernel_rfl)) rfl ?_
    exact ⟨by first | rfl | (simp [errW_none, errW_some] <;> rfl) | (simp [*, errW_none, errW_some] <;> rfl) | (simp [wrap64]; done) | (simp [errW_none, errW_some] <;> exact empty_bne _), by repeat (first | (with_reducible first | exact HB.out | apply below_alloc | apply pw_below_drewN | apply below_drew1 | refine below_set ?_ GE101.out | refine below_set ?_ GE111.out) | exact HB.out)⟩
  · replace c7 := Bool.eq_false_iff.mpr c7
    subst c7
    have H1 : (some (t109, t110, false)) = some (r1, r2, r3) := by rw [if_neg (show ¬ (false = true) by decide)] at H; exact H
    clear H
    have H := H1
    clear H1
    simp only [Option.some.injEq, Prod.mk.injEq] at H
    obtain ⟨rfl, rfl, rfl⟩ := H
    go_enter Tryd.func26, Tryd.ntmps26
    try go_wp2_with (first | ((with_reducible refine gate_dst (N := 2) rfl ?_); refine box_event ?hg (N := 2) ?hd (cs := #[.string (⟨#[]⟩ : ByteArray), .string (⟨#[]⟩ : ByteArray)]) (t := 35) ?hr ?_; (case hd => rfl); (case hg => rfl); (case hr => first | (go_simp; done) | (go_simp; rfl)); intro gb101 hg w19 hbox hb; have n0_ := Aside0.mk (below_step (by repeat (first | (with_reducible first | exact HB.out | apply below_alloc | apply pw_below_drewN | apply below_drew1) | exact HB.out)) hb); have n1_ := Aside0.mk (hbox); have n2_ := Aside0.mk ((by rw [hg]; exact (below_size (by repeat (first | (with_reducible first | exact HB.out | apply below_alloc | apply pw_below_drewN | apply below_drew1) | exact HB.out))) : w.heap.size ≤ gb101)); have n3_ := Aside0.mk ((by rw [hg]; exact (below_size (by repeat (first | (with_reducible first | exact HB.out | apply below_alloc | apply pw_below_drewN | apply below_drew1) | exact HB.out))) : w.heap.size ≤ gb101)); clear HB; have HB := n0_; have BK101 := n1_; have GW101 := n2_; have GE101 := n3_; clear n0_ n1_ n2_ n3_; clear hb hbox hg) | ((with_reducible refine gate_callee (f := 40) rfl ?_); refine goesL_ (some 10) rfl rfl Tryd.func40 (by kernel_rfl) rfl #[.string a0, .string (⟨#[35]⟩ : ByteArray)] rfl (by (try simp only [List.map_toArray, List.map_cons, List.map_nil]); first | done | rfl | (simp only [List.length_drop, List.length_take]; rfl)) ?_; (with_reducible refine (strings_Cut.calls a0 (⟨#[35]⟩ : ByteArray) t102 t103 t104 _ A2.out (Shp.below HS_.out (by repeat (first | (with_reducible first | exact HB.out | apply below_alloc | apply pw_below_drewN | apply below_drew1 | refine below_set ?_ GE101.out) | exact HB.out)))).mono ?_); rintro e w' ⟨rfl, ⟨nd, rfl⟩⟩; refine ⟨_, rfl, ?_⟩; (try (rw [drewN_self w19]; generalize hq_ : World.drewN w19 _ = w19; have n0_ : Aside0 (w19.heap[gb101]? = some (.cells #[.string (⟨#[]⟩ : ByteArray), .string (⟨#[]⟩ : ByteArray)] 35 (0, 0))) := ⟨by rw [← hq_]; exact (by (with_reducible repeat (first | refine blk_drewN ?_ _ | refine blk_drew ?_ | refine blk_alloc ?_ _)); exact BK101.out)⟩; have n1_ : Aside0 (Below w.heap.size w w19) := ⟨by rw [← hq_]; exact (by repeat (first | (with_reducible first | exact HB.out | apply below_alloc | apply pw_below_drewN | apply below_drew1 | refine below_set ?_ GE101.out) | exact HB.out))⟩; clear BK101 HB hq_; have BK101 := n0_; have HB := n1_; clear n0_ n1_))) | ((with_reducible refine gate_callee (f := 40) rfl ?_); refine goesL_ (some 16) rfl rfl Tryd.func40 (by kernel_rfl) rfl #[.string t102, .string (⟨#[58]⟩ : ByteArray)] rfl (by (try simp only [List.map_toArray, List.map_cons, List.map_nil]); first | done | rfl | (simp only [List.length_drop, List.length_take]; rfl)) ?_; (with_reducible refine (strings_Cut.calls t102 (⟨#[58]⟩ : ByteArray) t105 t106 false _ A3.out (Shp.below HS_.out (by repeat (first | (with_reducible first | exact HB.out | apply below_alloc | apply pw_below_drewN | apply below_drew1 | refine below_set ?_ GE101.out) | exact HB.out)))).mono ?_); rintro e w' ⟨rfl, ⟨nd, rfl⟩⟩; refine ⟨_, rfl, ?_⟩; (try (rw [drewN_self w19]; generalize hq_ : World.drewN w19 _ = w19; have n0_ : Aside0 (w19.heap[gb101]? = some (.cells #[.string (⟨#[]⟩ : ByteArray), .string (⟨#[]⟩ : ByteArray)] 35 (0, 0))) := ⟨by rw [← hq_]; exact (by (with_reducible repeat (first | refine blk_drewN ?_ _ | refine blk_drew ?_ | refine blk_alloc ?_ _)); exact BK101.out)⟩; have n1_ : Aside0 (Below w.heap.size w w19) := ⟨by rw [← hq_]; exact (by repeat (first | (with_reducible first | exact HB.out | apply below_alloc | apply pw_below_drewN | apply below_drew1 | refine below_set ?_ GE101.out) | exact HB.out))⟩; clear BK101 HB hq_; have BK101 := n0_; have HB := n1_; clear n0_ n1_))) | ((with_reducible refine gate_callee (f := 42) rfl ?_); refine goesL_ (some 21) rfl rfl Tryd.func42 (by kernel_rfl) rfl #[.string t105, .string (⟨#[32, 9]⟩ : ByteArray)] rfl (by (try simp only [List.map_toArray, List.map_cons, List.map_nil]); first | done | rfl | (simp only [List.length_drop, List.length_take]; rfl)) ?_; (with_reducible refine (strings_Trim.calls t105 (⟨#[32, 9]⟩ : ByteArray) t108 _ A4.out).mono ?_); rintro e w20 ⟨rfl, hb⟩; refine ⟨_, rfl, ?_⟩; have n0_ := Aside0.mk (blk_below (g := gb101) (o := .cells #[.string (⟨#[]⟩ : ByteArray), .string (⟨#[]⟩ : ByteArray)] 35 (0, 0)) (by (with_reducible repeat (first | refine blk_drewN ?_ _ | refine blk_drew ?_ | refine blk_alloc ?_ _)); exact BK101.out) hb); have n1_ := Aside0.mk (below_step (by repeat (first | (with_reducible first | exact HB.out | apply below_alloc | apply pw_below_drewN | apply below_drew1 | refine below_set ?_ GE101.out) | exact HB.out)) hb); clear BK101; clear HB; have BK101 := n0_; have HB := n1_; clear n0_ n1_; (try clear hb); (try clear hb2); (try clear hk); (try clear hi)) | ((with_reducible refine gate_callee (f := 41) rfl ?_); refine goesL_ (some 22) rfl rfl Tryd.func41 (by kernel_rfl) rfl #[.string t108] rfl (by (try simp only [List.map_toArray, List.map_cons, List.map_nil]); first | done | rfl | (simp only [List.length_drop, List.length_take]; rfl)) ?_; (with_reducible refine (lines_lower.calls t108 t109 _ A5.out).mono ?_); rintro e w21 ⟨rfl, hb⟩; refine ⟨_, rfl, ?_⟩; have n0_ := Aside0.mk (blk_below (g := gb101) (o := .cells #[.string (⟨#[]⟩ : ByteArray), .string (⟨#[]⟩ : ByteArray)] 35 (0, 0)) (by (with_reducible repeat (first | refine blk_drewN ?_ _ | refine blk_drew ?_ | refine blk_alloc ?_ _)); exact BK101.out) hb); have n1_ := Aside0.mk (below_step (by repeat (first | (with_reducible first | exact HB.out | apply below_alloc | apply pw_below_drewN | apply below_drew1 | refine below_set ?_ GE101.out) | exact HB.out)) hb); clear BK101; clear HB; have BK101 := n0_; have HB := n1_; clear n0_ n1_; (try clear hb); (try clear hb2); (try clear hk); (try clear hi)) | ((with_reducible refine gate_callee (f := 42) rfl ?_); refine goesL_ (some 24) rfl rfl Tryd.func42 (by kernel_rfl) rfl #[.string t106, .string (⟨#[32, 9]⟩ : ByteArray)] rfl (by (try simp only [List.map_toArray, List.map_cons, List.map_nil]); first | done | rfl | (simp only [List.length_drop, List.length_take]; rfl)) ?_; (with_reducible refine (strings_Trim.calls t106 (⟨#[32, 9]⟩ : ByteArray) t110 _ A6.out).mono ?_); rintro e w22 ⟨rfl, hb⟩; refine ⟨_, rfl, ?_⟩; have n0_ := Aside0.mk (blk_below (g := gb101) (o := .cells #[.string (⟨#[]⟩ : ByteArray), .string (⟨#[]⟩ : ByteArray)] 35 (0, 0)) (by (with_reducible repeat (first | refine blk_drewN ?_ _ | refine blk_drew ?_ | refine blk_alloc ?_ _)); exact BK101.out) hb); have n1_ := Aside0.mk (below_step (by repeat (first | (with_reducible first | exact HB.out | apply below_alloc | apply pw_below_drewN | apply below_drew1 | refine below_set ?_ GE101.out) | exact HB.out)) hb); clear BK101; clear HB; have BK101 := n0_; have HB := n1_; clear n0_ n1_; (try clear hb); (try clear hb2); (try clear hk); (try clear hi)) | ((with_reducible refine gate_dst (N := 7) rfl ?_); refine box_event ?hg (N := 7) ?hd (cs := #[.string (⟨#[]⟩ : ByteArray), .string (⟨#[]⟩ : ByteArray)]) (t := 35) ?hr ?_; (case hd => rfl); (case hg => rfl); (case hr => first | (go_simp; done) | (go_simp; rfl)); intro gb111 hg w23 hbox hb; have n0_ := Aside0.mk (blk_below (g := gb101) (o := .cells #[.string (⟨#[]⟩ : ByteArray), .string (⟨#[]⟩ : ByteArray)] 35 (0, 0)) (by (with_reducible repeat (first | refine blk_drewN ?_ _ | refine blk_drew ?_ | refine blk_alloc ?_ _)); exact BK101.out) hb); have n1_ := Aside0.mk (below_step (by repeat (first | (with_reducible first | exact HB.out | apply below_alloc | apply pw_below_drewN | apply below_drew1 | refine below_set ?_ GE101.out) | exact HB.out)) hb); have n2_ := Aside0.mk (hbox); have n3_ := Aside0.mk ((by rw [hg]; exact (below_size (by repeat (first | (with_reducible first | exact HB.out | apply below_alloc | apply pw_below_drewN | apply below_drew1 | refine below_set ?_ GE101.out) | exact HB.out))) : w.heap.size ≤ gb111)); have n4_ := Aside0.mk ((by rw [hg]; exact (below_size (by repeat (first | (with_reducible first | exact HB.out | apply below_alloc | apply pw_below_drewN | apply below_drew1 | refine below_set ?_ GE101.out) | exact HB.out))) : w.heap.size ≤ gb111)); have n5_ := Aside0.mk ((by rw [hg]; exact Nat.ne_of_lt (blk_lt (g := gb101) (o := .cells #[.string (⟨#[]⟩ : ByteArray), .string (⟨#[]⟩ : ByteArray)] 35 (0, 0)) (by (with_reducible repeat (first | refine blk_drewN ?_ _ | refine blk_drew ?_ | refine blk_alloc ?_ _)); exact BK101.out)) : gb101 ≠ gb111)); have n6_ := Aside0.mk ((by rw [hg]; exact Nat.ne_of_gt (blk_lt (g := gb101) (o := .cells #[.string (⟨#[]⟩ : ByteArray), .string (⟨#[]⟩ : ByteArray)] 35 (0, 0)) (by (with_reducible repeat (first | refine blk_drewN ?_ _ | refine blk_drew ?_ | refine blk_alloc ?_ _)); exact BK101.out)) : gb111 ≠ gb101)); clear BK101; clear HB; have BK101 := n0_; have HB := n1_; have BK111 := n2_; have GW111 := n3_; have GE111 := n4_; have NB101_111 := n5_; have NB111_101 := n6_; clear n0_ n1_ n2_ n3_ n4_ n5_ n6_; clear hb hbox hg; have hnb24 := NB111_101.out; have hnc24 := NB101_111.out; have hcz25_0 : w23.cell? ⟨gb111, 0, none⟩ = some (.string (⟨#[]⟩ : ByteArray)) := (blk_cell BK111.out 0).trans rfl; have hcz25_1 : w23.cell? ⟨gb111, 1, none⟩ = some (.string (⟨#[]⟩ : ByteArray)) := (blk_cell BK111.out 1).trans rfl; have hfz25_0 := blk_frozen BK111.out 0; have hfz25_1 := blk_frozen BK111.out 1))
    have n0_ : Aside0 (((w23.setCell ⟨gb111, 0, none⟩ (.string t109)).setCell ⟨gb111, 1, none⟩ (.string t110)).heap[gb101]? = some (.cells #[.string (⟨#[]⟩ : ByteArray), .string (⟨#[]⟩ : ByteArray)] 35 (0, 0))) := ⟨by (with_reducible repeat (first | refine blk_drewN ?_ _ | refine blk_drew ?_ | refine blk_alloc ?_ _)); refine blk_far ?_ NB101_111.out _; (with_reducible repeat (first | refine blk_drewN ?_ _ | refine blk_drew ?_ | refine blk_alloc ?_ _)); refine blk_far ?_ NB101_111.out _; (with_reducible repeat (first | refine blk_drewN ?_ _ | refine blk_drew ?_ | refine blk_alloc ?_ _)); exact BK101.out⟩
    have n1_ : Aside0 (((w23.setCell ⟨gb111, 0, none⟩ (.string t109)).setCell ⟨gb111, 1, none⟩ (.string t110)).heap[gb111]? = some (.cells #[.string t109, .string t110] 35 (0, 0))) := ⟨by (with_reducible repeat (first | refine blk_drewN ?_ _ | refine blk_drew ?_ | refine blk_alloc ?_ _)); refine blk_put (cs := #[.string t109, .string (⟨#[]⟩ : ByteArray)]) ?_ 1 _ rfl; (with_reducible repeat (first | refine blk_drewN ?_ _ | refine blk_drew ?_ | refine blk_alloc ?_ _)); refine blk_put (cs := #[.string (⟨#[]⟩ : ByteArray), .string (⟨#[]⟩ : ByteArray)]) ?_ 0 _ rfl; (with_reducible repeat (first | refine blk_drewN ?_ _ | refine blk_drew ?_ | refine blk_alloc ?_ _)); exact BK111.out⟩
    have n2_ : Aside0 (Below w.heap.size w ((w23.setCell ⟨gb111, 0, none⟩ (.string t109)).setCell ⟨gb111, 1, none⟩ (.string t110))) := ⟨by repeat (first | (with_reducible first | exact HB.out | apply below_alloc | apply pw_below_drewN | apply below_drew1 | refine below_set ?_ GE101.out | refine below_set ?_ GE111.out) | exact HB.out)⟩
    (try clear BK101)
    (try clear BK111)
    (try clear HB)
    generalize ((w23.setCell ⟨gb111, 0, none⟩ (.string t109)).setCell ⟨gb111, 1, none⟩ (.string t110)) = w26 at n0_ n1_ n2_ ⊢
    have BK101 := n0_
    have BK111 := n1_
    have HB := n2_
    clear n0_ n1_ n2_
    have n0_ := Aside0.mk (blk_drew BK101.out)
    have n1_ := Aside0.mk (blk_drew BK111.out)
    have n2_ := Aside0.mk (below_drew1 HB.out)
    clear BK101
    clear BK111
    clear HB
    have BK101 := n0_
    have BK111 := n1_
    have HB := n2_
    clear n0_ n1_ n2_
    refine start_ (n := 9) (S := fun w' => w'.cell? ⟨gb111, 0, none⟩ = some (.string t109) ∧ w'.cell? ⟨gb111, 1, none⟩ = some (.string t110)) (ds := []) #[false, false, false, false, false, false, false, false, false] (by kernel_rfl) rfl rfl ⟨(blk_cell BK111.out 0).trans rfl, (blk_cell BK111.out 1).trans rfl⟩ (fun hHeld => ?_); refine with_tabW lines_line.tab4 lines_line.bits4 (fun HT_ HW_ => ?_)
    generalize w26.drew = w27 at BK101 BK111 HB hHeld ⊢
    refine pure_ (i := 1) (N := some 27) (v := ?_) (a' := ?_) #[false, true, false, false, false, false, false, false, false] rfl rfl (any_of HT_.out (by kernel_rfl)) (fun _ _ _ h => h) (Or.inl ⟨by rfl, ?_⟩) ?_ ?_
    rotate_left
    · intro w'
      go_simp
      with_reducible rfl
    rotate_left
    · simp only [Act.put, List.setIfInBounds_toArray, List.set_cons_zero, List.set_cons_succ, i64_w, i32_w]
      rfl
    refine pure_ (i := 2) (N := some 28) (v := ?_) (a' := ?_) #[false, true, true, false, false, false, false, false, false] rfl rfl (any_of HT_.out (by kernel_rfl)) (fun _ _ _ h => h) (Or.inl ⟨by rfl, ?_⟩) ?_ ?_
    rotate_left
    · intro w'
      go_simp
      with_reducible rfl
    rotate_left
    · simp only [Act.put, List.setIfInBounds_toArray, List.set_cons_zero, List.set_cons_succ, i64_w, i32_w]
      rfl
    refine pure_ (i := 3) (N := some 29) (v := undef) (a' := ?_) #[false, true, true, true, false, false, false, false, false] rfl rfl (any_of HT_.out (by kernel_rfl)) (fun _ _ _ h => h) (Or.inr ⟨by rfl, rfl⟩) ?_ ?_
    rotate_left
    · simp only [Act.put, List.setIfInBounds_toArray, List.set_cons_zero, List.set_cons_succ, i64_w, i32_w]
      rfl
    refine pure_ (i := 4) (N := some 30) (v := undef) (a' := ?_) #[false, true, true, true, true, false, false, false, false] rfl rfl (any_of HT_.out (by kernel_rfl)) (fun _ _ _ h => h) (Or.inr ⟨by rfl, rfl⟩) ?_ ?_
    rotate_left
    · simp only [Act.put, List.setIfInBounds_toArray, List.set_cons_zero, List.set_cons_succ, i64_w, i32_w]
      rfl
    refine pure_ (i := 5) (N := some 31) (v := undef) (a' := ?_) #[false, true, true, true, true, true, false, false, false] rfl rfl (any_of HT_.out (by kernel_rfl)) (fun _ _ _ h => h) (Or.inr ⟨by rfl, rfl⟩) ?_ ?_
    rotate_left
    · simp only [Act.put, List.setIfInBounds_toArray, List.set_cons_zero, List.set_cons_succ, i64_w, i32_w]
      rfl
    refine pure_ (i := 6) (N := some 32) (v := ?_) (a' := ?_) #[false, true, true, true, true, true, true, false, false] rfl rfl (any_of HT_.out (by kernel_rfl)) (fun _ _ _ h => h) (Or.inl ⟨by rfl, ?_⟩) ?_ ?_
    rotate_left
    · intro w'
      go_simp
      with_reducible rfl
    rotate_left
    · simp only [Act.put, List.setIfInBounds_toArray, List.set_cons_zero, List.set_cons_succ, i64_w, i32_w]
      rfl
    refine take_ (i := 0) (N := some 26) (v := ?_) (a' := ?_) #[true, true, true, true, true, true, true, false, false] rfl rfl (take_ofW HT_.out HW_.out (by kernel_rfl)) (fun _ _ _ h => h) (Or.inl ⟨by rfl, ?_⟩) hHeld ?_ ?_
    rotate_left
    · rintro w' ⟨s0, s1⟩
      go_simp
      with_reducible rfl
    rotate_left
    · simp only [Act.put, List.setIfInBounds_toArray, List.set_cons_zero, List.set_cons_succ, i64_w, i32_w]
      rfl
    refine one_ (i := 7) (N := none) #[true, true, true, true, true, true, true, true, false] rfl rfl (one_of HT_.out (by kernel_rfl)) (by decide) (fun K hK => ?_)
    have hs28 : w27.cell? ⟨gb101, 0, none⟩ = some (.string (⟨#[]⟩ : ByteArray)) := (blk_cell BK101.out 0).trans rfl
    have hfs28 := blk_frozen BK101.out 0
    have hns28_1 := NB111_101.out
    have hms28_1 := NB101_111.out
    have hs29 : w27.cell? ⟨gb101, 1, none⟩ = some (.string (⟨#[]⟩ : ByteArray)) := (blk_cell BK101.out 1).trans rfl
    have hfs29 := blk_frozen BK101.out 1
    have hns29_1 := NB111_101.out
    have hms29_1 := NB101_111.out
    refine skip_ (w1 := ?_) (by rfl) rfl ?_ ?_
    rotate_left
    · go_simp
      rfl
    refine hK.out _ _ ⟨((cell_far (p := ⟨gb101, _, none⟩) NB111_101.out _).trans (((cell_far (p := ⟨gb101, _, none⟩) NB111_101.out _).trans (hHeld.1)))), ((cell_far (p := ⟨gb101, _, none⟩) NB111_101.out _).trans (((cell_far (p := ⟨gb101, _, none⟩) NB111_101.out _).trans (hHeld.2))))⟩ (fun hHeld => ?_)
    clear hK K
    refine pure_ (i := 8) (N := some 3) (v := ?_) (a' := ?_) #[true, true, true, true, true, true, true, true, true] rfl rfl (any_of HT_.out (by kernel_rfl)) (fun _ _ _ h => h) (Or.inl ⟨by rfl, ?_⟩) ?_ ?_
    rotate_left
    · intro w'
      go_simp
      with_reducible rfl
    rotate_left
    · simp only [Act.put, List.setIfInBounds_toArray, List.set_cons_zero, List.set_cons_succ, i64_w, i32_w]
      rfl
    refine done_ (done_of HT_.out (by kernel_rfl)) ?_
    try go_wp2
    refine bodyPost_ret (results_ct rfl _ _ gb101 35 #[.string t109, .string t110] (0, 0) _ rfl (by (with_reducible repeat (first | refine blk_drewN ?_ _ | refine blk_drew ?_ | refine blk_alloc ?_ _)); refine blk_put (cs := #[.string t109, .string (⟨#[]⟩ : ByteArray)]) ?_ 1 _ rfl; (with_reducible repeat (first | refine blk_drewN ?_ _ | refine blk_drew ?_ | refine blk_alloc ?_ _)); refine blk_put (cs := #[.string (⟨#[]⟩ : ByteArray), .string (⟨#[]⟩ : ByteArray)]) ?_ 0 _ rfl; (with_reducible repeat (first | refine blk_drewN ?_ _ | refine blk_drew ?_ | refine blk_alloc ?_ _)); exact BK101.out) Tryd.underlying35 rfl (by kernel_rfl)) rfl ?_
    exact ⟨by first | rfl | (simp [errW_none, errW_some] <;> rfl) | (simp [*, errW_none, errW_some] <;> rfl) | (simp [wrap64]; done) | (simp [errW_none, errW_some] <;> exact empty_bne _), by repeat (first | (with_reducible first | exact HB.out | apply below_alloc | apply pw_below_drewN | apply below_drew1 | refine below_set ?_ GE101.out | refine below_set ?_ GE111.out) | exact HB.out)⟩

end Go.Proofs.YtdnaddignhjihaaDoor.QBase
namespace Go.Proofs.YtdnaddignhjihaaDoor.Given
open Go.RowKit
set_option linter.unusedVariables false
/-- A sign's bytes lie in the text; those of one beyond ASCII are 128 or more. -/
theorem dec_in (s : ByteArray) (pos : Nat) (h : pos < s.size) :
    1 ≤ (Utf8.decode s pos).2 ∧ pos + (Utf8.decode s pos).2 ≤ s.size ∧ (128 ≤ (s.get! pos).toNat → ∀ i, i < (Utf8.decode s pos).2 → 128 ≤ (s.get! (pos + i)).toNat) := by
  unfold Utf8.decode
  simp only [Nat.add_zero, Bool.and_eq_true, decide_eq_true_eq, beq_iff_eq]
  have one : ∀ x : Nat, 1 ≤ (x, 1).2 ∧ pos + (x, 1).2 ≤ s.size ∧ (128 ≤ (s.get! pos).toNat → ∀ i, i < (x, 1).2 → 128 ≤ (s.get! (pos + i)).toNat) := by
    intro x
    refine ⟨Nat.le_refl _, by simp; omega, fun h1 i hi => ?_⟩
    obtain rfl : i = 0 := by simp at hi; omega
    exact h1
  split
  · exact one _
  split
  · rename_i hc
    split
    · refine ⟨by simp, by simp; omega, fun h1 i hi => ?_⟩
      simp only at hi
      rcases (by omega : i = 0 ∨ i = 1) with rfl | rfl
      · exact h1
      · omega
    · exact one _
  split
  · rename_i hc
    split
    · refine ⟨by simp, by simp; omega, fun h1 i hi => ?_⟩
      simp only at hi
      rcases (by omega : i = 0 ∨ i = 1 ∨ i = 2) with rfl | rfl | rfl
      · exact h1
      · omega
      · omega
    · exact one _
  split
  · rename_i hc
    split
    · refine ⟨by simp, by simp; omega, fun h1 i hi => ?_⟩
      simp only at hi
      rcases (by omega : i = 0 ∨ i = 1 ∨ i = 2 ∨ i = 3) with rfl | rfl | rfl | rfl
      · exact h1
      · omega
      · omega
      · omega
    · exact one _
  · exact one _
/-- What begins with a byte of 128 or more is no sign below 128. -/
theorem dec_big (s : ByteArray) (pos : Nat) (h : 128 ≤ (s.get! pos).toNat) : 128 ≤ (Utf8.decode s pos).1 := by
  unfold Utf8.decode
  simp only [Nat.add_zero, Bool.and_eq_true, decide_eq_true_eq, beq_iff_eq]
  have e : 128 ≤ Utf8.runeError := by decide
  split
  · omega
  split
  · split
    · assumption
    · exact e
  split
  · split
    · rename_i h1; have := h1.1; simp only; omega
    · exact e
  split
  · split
    · rename_i h1; have := h1.1; simp only; omega
    · exact e
  · exact e
theorem get_list (s : ByteArray) (i : Nat) (h : i < s.size) : s.get! i = s.data.toList[i]'(by simpa using h) := by
  have : s.get! i = s[i]'h := by
    show s.data[i]! = _
    rw [getElem!_pos s.data i h]
    rfl
  rw [this]
  simp
  rfl
end Go.Proofs.YtdnaddignhjihaaDoor.Given
namespace Go.Proofs.YtdnaddignhjihaaDoor.Given
open Go.RowKit Go.Proofs.YtdnaddignhjihaaDoorW.PrintWords
set_option linter.unusedVariables false
theorem Hid.mk_ {p : Prop} (h : p) : Hid p := h
def digB (c : UInt8) : Bool := decide (48 ≤ c.toNat) && decide (c.toNat ≤ 57)
def stepV (n : Nat) (c : UInt8) : Nat := 10 * n + (c.toNat - 48)
def numV (n : Nat) (l : List UInt8) : Nat := l.foldl stepV n
theorem numV_nil (n : Nat) : numV n [] = n := by unfold numV; rw [List.foldl_nil]
theorem numV_cons (n : Nat) (c : UInt8) (t : List UInt8) : numV n (c :: t) = numV (stepV n c) t := by unfold numV; rw [List.foldl_cons]
theorem stepV_eq (n : Nat) (c : UInt8) : stepV n c = 10 * n + (c.toNat - 48) := by unfold stepV; exact Eq.refl _
/-- Milliseconds of a text, in its parts. -/
def delayP (a b : List UInt8) (d : Bool) : Nat × Bool :=
  if (a ++ b).isEmpty || decide (9 < a.length) || (d && b.isEmpty) then (0, false) else if (a ++ b).all digB then (numV 0 (a ++ (b ++ [48, 48, 48]).take 3), true) else (0, false)
def delayV (l : List UInt8) : Nat × Bool := delayP (Lib.cut l [46]).1 (Lib.cut l [46]).2.1 (Lib.cut l [46]).2.2

theorem numV_snoc (n : Nat) (l : List UInt8) (c : UInt8) : numV n (l ++ [c]) = 10 * numV n l + (c.toNat - 48) := by
  unfold numV
  rw [List.foldl_append, List.foldl_cons, List.foldl_nil, stepV_eq]
theorem numV_lt1 (l : List UInt8) (h : ∀ c ∈ l, digB c = true) : ∀ n, numV n l < (n + 1) * 10 ^ l.length := by
  induction l with
  | nil => intro n; rw [numV_nil]; simp
  | cons c t ih =>
    intro n
    have h1 := ih (fun d hd => h d (List.mem_cons_of_mem _ hd)) (stepV n c)
    have h2 : c.toNat ≤ 57 := by have := h c (List.mem_cons_self ..); simp [digB] at this; exact this.2
    rw [numV_cons, List.length_cons, Nat.pow_succ]
    refine Nat.lt_of_lt_of_le h1 ?_
    rw [stepV_eq]
    rw [Nat.mul_comm (10 ^ t.length) 10, ← Nat.mul_assoc]
    exact Nat.mul_le_mul_right _ (by omega)
theorem numV_lt (l : List UInt8) (h : ∀ c ∈ l, digB c = true) (m : Nat) (hl : l.length ≤ m) : numV 0 l < 10 ^ m := by
  have := numV_lt1 l h 0
  rw [Nat.zero_add, Nat.one_mul] at this
  exact Nat.lt_of_lt_of_le this (Nat.pow_le_pow_right (by decide) hl)
theorem cut_room (l sep : List UInt8) : (Lib.cut l sep).1.length + (Lib.cut l sep).2.1.length ≤ l.length := by
  unfold Lib.cut
  split
  · simp; omega
  · simp

set_option maxHeartbeats 4000000 in
set_option maxRecDepth 1000000 in
theorem delay_calls (s : ByteArray) (w : World) (hs : s.size < 4294967281) (hS : Shp w) :
    Calls Tryd.prog 47 #[.string s] w fun e w' => e = .returned (.tuple #[.int .i64 ((delayV s.data.toList).1 : Int), .bool (delayV s.data.toList).2]) ∧ Below w.heap.size w w' := by
  have hroom := cut_room s.data.toList [46]
  have HC : Aside0 (strings_Cut.f s ⟨#[46]⟩ = some (⟨(Lib.cut s.data.toList [46]).1.toArray⟩, ⟨(Lib.cut s.data.toList [46]).2.1.toArray⟩, (Lib.cut s.data.toList [46]).2.2)) := ⟨by
    rw [strings_Cut.f, if_pos hs]⟩
  have HS := Aside0.mk hS
  clear hS
  unfold delayV
  generalize (Lib.cut s.data.toList [46]).1 = a at *
  generalize (Lib.cut s.data.toList [46]).2.1 = b at *
  generalize (Lib.cut s.data.toList [46]).2.2 = d at *
  have hA : ∃ A : ByteArray, A = ⟨a.toArray⟩ := ⟨_, rfl⟩
  have hB : ∃ B : ByteArray, B = ⟨b.toArray⟩ := ⟨_, rfl⟩
  obtain ⟨A, hA⟩ := hA
  obtain ⟨B, hB⟩ := hB
  rw [← hA, ← hB] at HC
  have ha : a = A.data.toList := by rw [hA]
  have hb : b = B.data.toList := by rw [hB]
  subst ha hb
  clear hA hB
  have hsum : (9223372036854775807 < A.size + B.size) = False := eq_false (by simp at hroom; omega)
  have hsl : A.data.toList.length = A.size ∧ B.data.toList.length = B.size := by simp
  have hnil : ((A ++ B).toList = []) = ((A.data.toList ++ B.data.toList) = []) := by rw [Lib.toList_data]; simp
  have hemp : (A ++ B).toList.isEmpty = (A.data.toList ++ B.data.toList).isEmpty := by rw [Lib.toList_data]; simp
  have hbm : B.toList.isEmpty = B.data.toList.isEmpty := by rw [Lib.toList_data]
  have hin : Hid _ := hroom
  clear hroom
  by_cases hE : A.data.toList ++ B.data.toList = []
  · have e1 : ((A ++ B).toList = []) = True := by rw [hnil]; exact eq_true hE
    have e2 : (A ++ B).toList.isEmpty = true := by rw [hemp, hE]; rfl
    have hv : delayP A.data.toList B.data.toList d = (0, false) := by unfold delayP; rw [hE]; rfl
    clear hnil hemp hbm hE
    go_enter Tryd.func47, Tryd.ntmps47
    go_wp2_with (first | (go_at_call 40; (with_reducible refine (strings_Cut.calls s ⟨#[46]⟩ A B d _ HC.out HS.out).mono ?_); rintro e w' ⟨rfl, ⟨nd, rfl⟩⟩))
    go_ret2
    rw [hv]
    exact ⟨rfl, pw_below_drewN (Below.refl _ _) _⟩
  have e1 : ((A ++ B).toList = []) = False := by rw [hnil]; exact eq_false hE
  have e2 : (A ++ B).toList.isEmpty = false := by rw [hemp]; simpa using hE
  have hE2 : (A.data.toList ++ B.data.toList).isEmpty = false := by simpa using hE
  clear hnil hemp hE
  by_cases h9 : 9 < A.size
  · have h9b : (9 < (A.size : Int)) = True := eq_true (by omega)
    have hv : delayP A.data.toList B.data.toList d = (0, false) := by unfold delayP; rw [hE2, hsl.1]; simp [h9]
    clear hbm hE2
    go_enter Tryd.func47, Tryd.ntmps47
    go_wp2_with (first | (go_at_call 40; (with_reducible refine (strings_Cut.calls s ⟨#[46]⟩ A B d _ HC.out HS.out).mono ?_); rintro e w' ⟨rfl, ⟨nd, rfl⟩⟩))
    go_ret2
    rw [hv]
    exact ⟨rfl, pw_below_drewN (Below.refl _ _) _⟩
  have h9b : (9 < (A.size : Int)) = False := eq_false (by omega)
  by_cases hd : d = true ∧ B.data.toList.isEmpty = true
  · obtain ⟨rfl, hbe⟩ := hd
    rw [hbe] at hbm
    have hv : delayP A.data.toList B.data.toList true = (0, false) := by unfold delayP; rw [hE2, hsl.1, hbe]; simp [h9]
    clear hE2 hbe
    go_enter Tryd.func47, Tryd.ntmps47
    go_wp2_with (first | (go_at_call 40; (with_reducible refine (strings_Cut.calls s ⟨#[46]⟩ A B true _ HC.out HS.out).mono ?_); rintro e w' ⟨rfl, ⟨nd, rfl⟩⟩))
    go_ret2
    rw [hv]
    exact ⟨rfl, pw_below_drewN (Below.refl _ _) _⟩
  have hv : delayP A.data.toList B.data.toList d = if (A.data.toList ++ B.data.toList).all digB then (numV 0 (A.data.toList ++ (B.data.toList ++ [48, 48, 48]).take 3), true) else (0, false) := by
    unfold delayP
    rw [hE2, hsl.1, if_neg]
    simp only [Bool.false_or, Bool.or_eq_true, decide_eq_true_eq, Bool.and_eq_true]
    rintro (h | h)
    · exact h9 h
    · exact hd h
  have hv : Hid (delayP A.data.toList B.data.toList d = if (A.data.toList ++ B.data.toList).all digB then (numV 0 (A.data.toList ++ (B.data.toList ++ [48, 48, 48]).take 3), true) else (0, false)) := hv
  have hd2 : (d = true ∧ B.data.toList.isEmpty = false) ∨ d = false := by
    cases d with
    | false => exact .inr rfl
    | true =>
      refine .inl ⟨rfl, ?_⟩
      cases hbe : B.data.toList.isEmpty with
      | false => rfl
      | true => exact absurd ⟨rfl, hbe⟩ hd
  clear hd hE2
  rcases hd2 with ⟨rfl, hbe⟩ | rfl
  · rw [hbe] at hbm
    go_enter Tryd.func47, Tryd.ntmps47
    go_wp2_with (first | (go_at_call 40; (with_reducible refine (strings_Cut.calls s ⟨#[46]⟩ A B true _ HC.out HS.out).mono ?_); rintro e w' ⟨rfl, ⟨nd, rfl⟩⟩))
    generalize hT : A ++ B = T at *
    have hTl : T.data.toList = A.data.toList ++ B.data.toList := by rw [← hT]; simp
    have hTs : T.size = A.size + B.size := by rw [← hT]; simp [ByteArray.size_append]
    have hTl := Hid.mk_ hTl
    clear hT
    go_loopw [] (fun wr => ∃ pos : Nat, wr.heap[w.heap.size]? = some (.stringIter T pos) ∧ Hid (Below w.heap.size w wr) ∧ pos ≤ T.size ∧ Hid (∀ j (h : j < T.data.toList.length), j < pos → digB (T.data.toList[j]) = true)) (fun wr => T.size - wr.iterPos w.heap.size)
    case atStart =>
      refine ⟨0, World.iter_heap (w.drewN nd) T 0, ?_, by omega, ?_⟩
      · exact (pw_below_drewN (Below.refl _ w) nd).alloc (Nat.le_refl _) _
      · intro j h hj; omega
    case round =>
      obtain ⟨pos, hit, hbw, hp0, hdig⟩ := hrel
      have hsz : w.heap.size < wr.heap.size := (Array.getElem?_eq_some_iff.1 hit).1
      by_cases hp : pos < T.size
      · have hpl : pos < T.data.toList.length := by simpa using hp
        have hgt := get_list T pos hp
        by_cases hdg : digB (T.data.toList[pos]) = true
        · have hr : 48 ≤ (T[pos]'hp).toNat ∧ (T[pos]'hp).toNat ≤ 57 := by
            have e : T[pos]'hp = T.data.toList[pos]'hpl := by simp; rfl
            rw [e]
            simpa [digB] using hdg
          have hnx : ∀ ty, (Instr.next (.pointer (some ⟨w.heap.size, 0, none⟩)) true ty).run Tryd.prog wr = _ := fun ty => Lib.run_next_ascii_at wr (w.heap.size) T pos ty hit hp (by omega)
          have hit2 := Lib.iterAt_heap wr (w.heap.size) T pos (pos + 1) hit
          have hbw2 : Hid _ := Lib.below_iterAt hbw.out (k := w.heap.size) (Nat.le_refl _) T (pos + 1)
          have g1 : (((T[pos]'hp).toNat : Int) < 48) = False := eq_false (by omega)
          have g2 : (57 < ((T[pos]'hp).toNat : Int)) = False := eq_false (by omega)
          have hdig2 : Hid (∀ j (h : j < T.data.toList.length), j < pos + 1 → digB (T.data.toList[j]) = true) := by
            intro j h hj
            by_cases e : j = pos
            · subst e; exact hdg
            · exact hdig.out j h (by omega)
          clear hdig hdg hgt hr hbw
          go_wp2
          go_roundw
          case rel => exact ⟨pos + 1, hit2, hbw2, by omega, hdig2⟩
          case measure =>
            simp only [World.iterPos, hit2, hit]
            omega
        · have hres : (A.data.toList ++ B.data.toList).all digB = false := by
            rw [← hTl.out]
            apply Bool.eq_false_iff.mpr
            intro h
            exact hdg (List.all_eq_true.mp h _ (List.getElem_mem hpl))
          have hv2 := hv.out
          rw [if_neg (show ¬ ((A.data.toList ++ B.data.toList).all digB = true) by rw [hres]; decide)] at hv2
          have hv2 : Hid _ := hv2
          clear hdig hres hv
          have key : (((Utf8.decode T pos).1 : Int) < 48) = True ∨ ((((Utf8.decode T pos).1 : Int) < 48) = False ∧ (57 < ((Utf8.decode T pos).1 : Int)) = True) := by
            by_cases hbig : 128 ≤ (T.get! pos).toNat
            · have := dec_big T pos hbig
              exact .inr ⟨eq_false (by omega), eq_true (by omega)⟩
            · have e1 : (T[pos]'hp).toNat = (T.get! pos).toNat := by rw [hgt]; simp; rfl
              have e2 := decode_ascii T pos hp (by omega)
              rw [e2, e1]
              rw [hgt] at hbig ⊢
              simp [digB] at hdg
              by_cases h48 : 48 ≤ (T.data.toList[pos]).toNat
              · have := hdg (by simpa using h48)
                exact .inr ⟨eq_false (by simp; simp at h48; omega), eq_true (by simp; omega)⟩
              · exact .inl (eq_true (by simp; simp at h48; omega))
          have hnx : ∀ ty, (Instr.next (.pointer (some ⟨w.heap.size, 0, none⟩)) true ty).run Tryd.prog wr = _ := fun ty => Lib.run_next_any_at wr (w.heap.size) T pos ty hit hp
          have hbw2 := Lib.below_iterAt hbw.out (k := w.heap.size) (Nat.le_refl _) T (pos + (Utf8.decode T pos).2)
          have hbw2 : Hid _ := hbw2
          clear hdg hgt hbw
          rcases key with g1 | ⟨g1, g2⟩
          · go_wp2
            go_ret2
            rw [hv2.out]
            exact ⟨rfl, hbw2.out⟩
          · go_wp2
            go_ret2
            rw [hv2.out]
            exact ⟨rfl, hbw2.out⟩
      · obtain rfl : pos = T.size := by omega
        have hnx : ∀ ty, (Instr.next (.pointer (some ⟨w.heap.size, 0, none⟩)) true ty).run Tryd.prog wr = _ := fun ty => Lib.run_next_end_at wr (w.heap.size) T T.size ty hit hp
        have hall : (A.data.toList ++ B.data.toList).all digB = true := by
          rw [← hTl.out]
          refine List.all_eq_true.mpr fun c hc => ?_
          obtain ⟨j, hj, rfl⟩ := List.getElem_of_mem hc
          exact hdig.out j hj (by simpa using hj)
        have hv2 := hv.out
        rw [if_pos hall] at hv2
        have hv2 : Hid _ := hv2
        have hdT : Hid (∀ c ∈ A.data.toList ++ B.data.toList, digB c = true) := fun c hc => List.all_eq_true.mp hall c hc
        clear hdig hv hall
        have hBs : B.size ≤ s.size := by have := hin.out; simp at this; omega
        have hs3 : (9223372036854775807 < B.size + 3) = False := eq_false (by omega)
        have hs4 : (9223372036854775807 < A.size + ((B ++ (⟨#[48, 48, 48]⟩ : ByteArray)).extract 0 3).size) = False := eq_false (by simp; omega)
        go_wp2
        have hUl : Hid ((A ++ (B ++ (⟨#[48, 48, 48]⟩ : ByteArray)).extract 0 3).data.toList = A.data.toList ++ (B.data.toList ++ [48, 48, 48]).take 3) := by
          show _ = _
          rw [show (A ++ (B ++ (⟨#[48, 48, 48]⟩ : ByteArray)).extract 0 3).data.toList = A.data.toList ++ ((B ++ (⟨#[48, 48, 48]⟩ : ByteArray)).extract 0 3).data.toList by simp, Lib.extract_from_zero]
          simp
        generalize A ++ (B ++ (⟨#[48, 48, 48]⟩ : ByteArray)).extract 0 3 = U at *
        have hUd : Hid (∀ c ∈ U.data.toList, digB c = true) := by
          show ∀ c ∈ U.data.toList, digB c = true
          rw [hUl.out]
          intro c hc
          rcases List.mem_append.mp hc with h | h
          · exact hdT.out c (List.mem_append_left _ h)
          · rcases List.mem_append.mp (List.mem_of_mem_take h) with h | h
            · exact hdT.out c (List.mem_append_right _ h)
            · simp at h; subst h; decide
        have hU12 : U.size ≤ 12 := by
          have := congrArg List.length hUl.out
          simp at this
          omega
        have hb2 : Hid (Below w.heap.size w (wr.iter U 0)) := hbw.out.alloc hbw.out.size _
        have hit2 := World.iter_heap wr U 0
        have hwr : w.heap.size ≤ wr.heap.size := hbw.out.size
        clear hit hnx hbw hs3 hs4 hin hBs
        generalize wr.iter U 0 = wx at *
        generalize wr.heap.size = b2 at *
        go_loopw [9] (fun v wr => ∃ pos : Nat, v = .int .i64 ((numV 0 (U.data.toList.take pos) : Nat) : Int) ∧ wr.heap[b2]? = some (.stringIter U pos) ∧ Hid (Below w.heap.size w wr) ∧ pos ≤ U.size) (fun v wr => U.size - wr.iterPos b2)
        case atStart => exact ⟨0, rfl, hit2, hb2, by omega⟩
        case round =>
          clear hb2 hit2
          obtain ⟨pos, rfl, hit, hbw, hp0⟩ := hrel
          by_cases hp : pos < U.size
          · have hpl : pos < U.data.toList.length := by simpa using hp
            have eU : U[pos]'hp = U.data.toList[pos]'hpl := by simp; rfl
            have hdg : digB (U[pos]'hp) = true := by rw [eU]; exact hUd.out _ (List.getElem_mem hpl)
            have hr : 48 ≤ (U[pos]'hp).toNat ∧ (U[pos]'hp).toNat ≤ 57 := by simpa [digB] using hdg
            have hnx : ∀ ty, (Instr.next (.pointer (some ⟨b2, 0, none⟩)) true ty).run Tryd.prog wr = _ := fun ty => Lib.run_next_ascii_at wr b2 U pos ty hit hp (by omega)
            have hit2 := Lib.iterAt_heap wr b2 U pos (pos + 1) hit
            have hbw2 : Hid _ := Lib.below_iterAt hbw.out (k := b2) hwr U (pos + 1)
            have hnb := numV_lt (U.data.toList.take pos) (fun c hc => hUd.out c (List.mem_of_mem_take hc)) 12 (by rw [List.length_take]; omega)
            have hnx2 : Hid (numV 0 (U.data.toList.take (pos + 1)) = 10 * numV 0 (U.data.toList.take pos) + ((U[pos]'hp).toNat - 48)) := by
              show _ = _
              rw [List.take_add_one, List.getElem?_eq_getElem hpl, eU]
              exact numV_snoc 0 _ _
            generalize numV 0 (U.data.toList.take pos) = n at *
            generalize (U[pos]'hp).toNat = c at *
            have f1 : wrap64 (10 * (n : Int)) = ((10 * n : Nat) : Int) := by simp only [wrap64]; omega
            have f2 : IntKind.i32.wrap ((c : Int) - 48) = ((c - 48 : Nat) : Int) := by simp [IntKind.wrap, IntKind.signed, IntKind.bits]; omega
            clear eU hdg hbw
            go_wp2
            go_roundw
            case rel =>
              refine ⟨pos + 1, ?_, hit2, hbw2, by omega⟩
              rw [hnx2.out]
              exact congrArg (Value.int IntKind.i64) (by omega)
            case measure =>
              simp only [World.iterPos, hit2, hit]
              omega
          · obtain rfl : pos = U.size := by omega
            have hnx : ∀ ty, (Instr.next (.pointer (some ⟨b2, 0, none⟩)) true ty).run Tryd.prog wr = _ := fun ty => Lib.run_next_end_at wr b2 U U.size ty hit hp
            go_wp2
            go_ret2
            rw [hv2.out, ← hUl.out]
            have : U.data.toList.take U.size = U.data.toList := List.take_of_length_le (by simp)
            rw [this]
            exact ⟨rfl, hbw.out⟩
  · go_enter Tryd.func47, Tryd.ntmps47
    go_wp2_with (first | (go_at_call 40; (with_reducible refine (strings_Cut.calls s ⟨#[46]⟩ A B false _ HC.out HS.out).mono ?_); rintro e w' ⟨rfl, ⟨nd, rfl⟩⟩))
    generalize hT : A ++ B = T at *
    have hTl : T.data.toList = A.data.toList ++ B.data.toList := by rw [← hT]; simp
    have hTs : T.size = A.size + B.size := by rw [← hT]; simp [ByteArray.size_append]
    have hTl := Hid.mk_ hTl
    clear hT
    go_loopw [] (fun wr => ∃ pos : Nat, wr.heap[w.heap.size]? = some (.stringIter T pos) ∧ Hid (Below w.heap.size w wr) ∧ pos ≤ T.size ∧ Hid (∀ j (h : j < T.data.toList.length), j < pos → digB (T.data.toList[j]) = true)) (fun wr => T.size - wr.iterPos w.heap.size)
    case atStart =>
      refine ⟨0, World.iter_heap (w.drewN nd) T 0, ?_, by omega, ?_⟩
      · exact (pw_below_drewN (Below.refl _ w) nd).alloc (Nat.le_refl _) _
      · intro j h hj; omega
    case round =>
      obtain ⟨pos, hit, hbw, hp0, hdig⟩ := hrel
      have hsz : w.heap.size < wr.heap.size := (Array.getElem?_eq_some_iff.1 hit).1
      by_cases hp : pos < T.size
      · have hpl : pos < T.data.toList.length := by simpa using hp
        have hgt := get_list T pos hp
        by_cases hdg : digB (T.data.toList[pos]) = true
        · have hr : 48 ≤ (T[pos]'hp).toNat ∧ (T[pos]'hp).toNat ≤ 57 := by
            have e : T[pos]'hp = T.data.toList[pos]'hpl := by simp; rfl
            rw [e]
            simpa [digB] using hdg
          have hnx : ∀ ty, (Instr.next (.pointer (some ⟨w.heap.size, 0, none⟩)) true ty).run Tryd.prog wr = _ := fun ty => Lib.run_next_ascii_at wr (w.heap.size) T pos ty hit hp (by omega)
          have hit2 := Lib.iterAt_heap wr (w.heap.size) T pos (pos + 1) hit
          have hbw2 : Hid _ := Lib.below_iterAt hbw.out (k := w.heap.size) (Nat.le_refl _) T (pos + 1)
          have g1 : (((T[pos]'hp).toNat : Int) < 48) = False := eq_false (by omega)
          have g2 : (57 < ((T[pos]'hp).toNat : Int)) = False := eq_false (by omega)
          have hdig2 : Hid (∀ j (h : j < T.data.toList.length), j < pos + 1 → digB (T.data.toList[j]) = true) := by
            intro j h hj
            by_cases e : j = pos
            · subst e; exact hdg
            · exact hdig.out j h (by omega)
          clear hdig hdg hgt hr hbw
          go_wp2
          go_roundw
          case rel => exact ⟨pos + 1, hit2, hbw2, by omega, hdig2⟩
          case measure =>
            simp only [World.iterPos, hit2, hit]
            omega
        · have hres : (A.data.toList ++ B.data.toList).all digB = false := by
            rw [← hTl.out]
            apply Bool.eq_false_iff.mpr
            intro h
            exact hdg (List.all_eq_true.mp h _ (List.getElem_mem hpl))
          have hv2 := hv.out
          rw [if_neg (show ¬ ((A.data.toList ++ B.data.toList).all digB = true) by rw [hres]; decide)] at hv2
          have hv2 : Hid _ := hv2
          clear hdig hres hv
          have key : (((Utf8.decode T pos).1 : Int) < 48) = True ∨ ((((Utf8.decode T pos).1 : Int) < 48) = False ∧ (57 < ((Utf8.decode T pos).1 : Int)) = True) := by
            by_cases hbig : 128 ≤ (T.get! pos).toNat
            · have := dec_big T pos hbig
              exact .inr ⟨eq_false (by omega), eq_true (by omega)⟩
            · have e1 : (T[pos]'hp).toNat = (T.get! pos).toNat := by rw [hgt]; simp; rfl
              have e2 := decode_ascii T pos hp (by omega)
              rw [e2, e1]
              rw [hgt] at hbig ⊢
              simp [digB] at hdg
              by_cases h48 : 48 ≤ (T.data.toList[pos]).toNat
              · have := hdg (by simpa using h48)
                exact .inr ⟨eq_false (by simp; simp at h48; omega), eq_true (by simp; omega)⟩
              · exact .inl (eq_true (by simp; simp at h48; omega))
          have hnx : ∀ ty, (Instr.next (.pointer (some ⟨w.heap.size, 0, none⟩)) true ty).run Tryd.prog wr = _ := fun ty => Lib.run_next_any_at wr (w.heap.size) T pos ty hit hp
          have hbw2 := Lib.below_iterAt hbw.out (k := w.heap.size) (Nat.le_refl _) T (pos + (Utf8.decode T pos).2)
          have hbw2 : Hid _ := hbw2
          clear hdg hgt hbw
          rcases key with g1 | ⟨g1, g2⟩
          · go_wp2
            go_ret2
            rw [hv2.out]
            exact ⟨rfl, hbw2.out⟩
          · go_wp2
            go_ret2
            rw [hv2.out]
            exact ⟨rfl, hbw2.out⟩
      · obtain rfl : pos = T.size := by omega
        have hnx : ∀ ty, (Instr.next (.pointer (some ⟨w.heap.size, 0, none⟩)) true ty).run Tryd.prog wr = _ := fun ty => Lib.run_next_end_at wr (w.heap.size) T T.size ty hit hp
        have hall : (A.data.toList ++ B.data.toList).all digB = true := by
          rw [← hTl.out]
          refine List.all_eq_true.mpr fun c hc => ?_
          obtain ⟨j, hj, rfl⟩ := List.getElem_of_mem hc
          exact hdig.out j hj (by simpa using hj)
        have hv2 := hv.out
        rw [if_pos hall] at hv2
        have hv2 : Hid _ := hv2
        have hdT : Hid (∀ c ∈ A.data.toList ++ B.data.toList, digB c = true) := fun c hc => List.all_eq_true.mp hall c hc
        clear hdig hv hall
        have hBs : B.size ≤ s.size := by have := hin.out; simp at this; omega
        have hs3 : (9223372036854775807 < B.size + 3) = False := eq_false (by omega)
        have hs4 : (9223372036854775807 < A.size + ((B ++ (⟨#[48, 48, 48]⟩ : ByteArray)).extract 0 3).size) = False := eq_false (by simp; omega)
        go_wp2
        have hUl : Hid ((A ++ (B ++ (⟨#[48, 48, 48]⟩ : ByteArray)).extract 0 3).data.toList = A.data.toList ++ (B.data.toList ++ [48, 48, 48]).take 3) := by
          show _ = _
          rw [show (A ++ (B ++ (⟨#[48, 48, 48]⟩ : ByteArray)).extract 0 3).data.toList = A.data.toList ++ ((B ++ (⟨#[48, 48, 48]⟩ : ByteArray)).extract 0 3).data.toList by simp, Lib.extract_from_zero]
          simp
        generalize A ++ (B ++ (⟨#[48, 48, 48]⟩ : ByteArray)).extract 0 3 = U at *
        have hUd : Hid (∀ c ∈ U.data.toList, digB c = true) := by
          show ∀ c ∈ U.data.toList, digB c = true
          rw [hUl.out]
          intro c hc
          rcases List.mem_append.mp hc with h | h
          · exact hdT.out c (List.mem_append_left _ h)
          · rcases List.mem_append.mp (List.mem_of_mem_take h) with h | h
            · exact hdT.out c (List.mem_append_right _ h)
            · simp at h; subst h; decide
        have hU12 : U.size ≤ 12 := by
          have := congrArg List.length hUl.out
          simp at this
          omega
        have hb2 : Hid (Below w.heap.size w (wr.iter U 0)) := hbw.out.alloc hbw.out.size _
        have hit2 := World.iter_heap wr U 0
        have hwr : w.heap.size ≤ wr.heap.size := hbw.out.size
        clear hit hnx hbw hs3 hs4 hin hBs
        generalize wr.iter U 0 = wx at *
        generalize wr.heap.size = b2 at *
        go_loopw [9] (fun v wr => ∃ pos : Nat, v = .int .i64 ((numV 0 (U.data.toList.take pos) : Nat) : Int) ∧ wr.heap[b2]? = some (.stringIter U pos) ∧ Hid (Below w.heap.size w wr) ∧ pos ≤ U.size) (fun v wr => U.size - wr.iterPos b2)
        case atStart => exact ⟨0, rfl, hit2, hb2, by omega⟩
        case round =>
          clear hb2 hit2
          obtain ⟨pos, rfl, hit, hbw, hp0⟩ := hrel
          by_cases hp : pos < U.size
          · have hpl : pos < U.data.toList.length := by simpa using hp
            have eU : U[pos]'hp = U.data.toList[pos]'hpl := by simp; rfl
            have hdg : digB (U[pos]'hp) = true := by rw [eU]; exact hUd.out _ (List.getElem_mem hpl)
            have hr : 48 ≤ (U[pos]'hp).toNat ∧ (U[pos]'hp).toNat ≤ 57 := by simpa [digB] using hdg
            have hnx : ∀ ty, (Instr.next (.pointer (some ⟨b2, 0, none⟩)) true ty).run Tryd.prog wr = _ := fun ty => Lib.run_next_ascii_at wr b2 U pos ty hit hp (by omega)
            have hit2 := Lib.iterAt_heap wr b2 U pos (pos + 1) hit
            have hbw2 : Hid _ := Lib.below_iterAt hbw.out (k := b2) hwr U (pos + 1)
            have hnb := numV_lt (U.data.toList.take pos) (fun c hc => hUd.out c (List.mem_of_mem_take hc)) 12 (by rw [List.length_take]; omega)
            have hnx2 : Hid (numV 0 (U.data.toList.take (pos + 1)) = 10 * numV 0 (U.data.toList.take pos) + ((U[pos]'hp).toNat - 48)) := by
              show _ = _
              rw [List.take_add_one, List.getElem?_eq_getElem hpl, eU]
              exact numV_snoc 0 _ _
            generalize numV 0 (U.data.toList.take pos) = n at *
            generalize (U[pos]'hp).toNat = c at *
            have f1 : wrap64 (10 * (n : Int)) = ((10 * n : Nat) : Int) := by simp only [wrap64]; omega
            have f2 : IntKind.i32.wrap ((c : Int) - 48) = ((c - 48 : Nat) : Int) := by simp [IntKind.wrap, IntKind.signed, IntKind.bits]; omega
            clear eU hdg hbw
            go_wp2
            go_roundw
            case rel =>
              refine ⟨pos + 1, ?_, hit2, hbw2, by omega⟩
              rw [hnx2.out]
              exact congrArg (Value.int IntKind.i64) (by omega)
            case measure =>
              simp only [World.iterPos, hit2, hit]
              omega
          · obtain rfl : pos = U.size := by omega
            have hnx : ∀ ty, (Instr.next (.pointer (some ⟨b2, 0, none⟩)) true ty).run Tryd.prog wr = _ := fun ty => Lib.run_next_end_at wr b2 U U.size ty hit hp
            go_wp2
            go_ret2
            rw [hv2.out, ← hUl.out]
            have : U.data.toList.take U.size = U.data.toList := List.take_of_length_le (by simp)
            rw [this]
            exact ⟨rfl, hbw.out⟩
def lines_Delay.f (a0 : ByteArray) : Option (Int × Bool) := if a0.size < 4294967281 then some (((delayV a0.data.toList).1 : Int), (delayV a0.data.toList).2) else none
theorem lines_Delay.calls (a0 : ByteArray) (r1 : Int) (r2 : Bool) (w : World) (h : lines_Delay.f a0 = some (r1, r2)) (hS_ : Shp w) :
    Calls Tryd.prog 47 #[.string a0] w fun e w' => e = .returned (.tuple #[.int .i64 r1, .bool r2]) ∧ Below w.heap.size w w' := by
  unfold lines_Delay.f at h
  split at h
  · rename_i hc
    obtain ⟨rfl, rfl⟩ := Prod.mk.inj (Option.some.inj h)
    exact delay_calls a0 w hc hS_
  · cases h
end Go.Proofs.YtdnaddignhjihaaDoor.Given
namespace Go.Proofs.YtdnaddignhjihaaDoor.Given
open Go.RowKit Go.Proofs.YtdnaddignhjihaaDoor.QBase Go.Proofs.YtdnaddignhjihaaDoorW.PrintWords Go.Proofs.YtdnaddignhjihaaDoorW.PrintLast
set_option linter.unusedVariables false
/-- The last group of a row: its cells, its rows, and the row without it. -/
theorem last_open86 {w : World} {B g n cap : Nat} {gs : List S86} (h : Kd.S k86 86 w B (fun _ => True) (.slice (some ⟨g, 0, none⟩) n cap) gs) (hn : 0 < n) :
    ∃ (oki : Nat → Prop) (v0 v1 : Value), Kd.string.R 9 w B oki v0 (gs.getD (n - 1) z86).f0 ∧ k30.R 30 w B oki v1 (gs.getD (n - 1) z86).f1 ∧
      w.cell? ⟨g, (n - 1) * 3, none⟩ = some v0 ∧ w.cell? ⟨g, (n - 1) * 3 + 1, none⟩ = some v1 ∧ w.cell? ⟨g, (n - 1) * 3 + 2, none⟩ = some (.int .i64 (gs.getD (n - 1) z86).f2) ∧
      (∀ j, w.frozen? ⟨g, (n - 1) * 3 + j, none⟩ = false) ∧ (∀ k, oki k → k ≠ g) ∧
      Kd.H k86 86 w B (fun _ => True) (.slice (some ⟨g, 0, none⟩) n cap) gs ((n - 1 : Nat) : Int) oki [v0, v1, .int .i64 (gs.getD (n - 1) z86).f2] := by
  obtain ⟨oki, c, hcl, hM, hcc, hfr, hoki, hH⟩ := Kd.S_elem h z86 ((n - 1 : Nat) : Int) (by omega) (by omega)
  rw [Int.toNat_natCast] at hM hcc hfr
  obtain ⟨v0, v1, rfl, g0, g1⟩ := k86_openM hM
  exact ⟨oki, v0, v1, g0, g1, hcc 0 _ rfl, hcc 1 _ rfl, hcc 2 _ rfl, hfr, fun k hk => (hoki k hk).2, hH⟩
/-- One cell of it is written, and it is put back. -/
theorem last_put86 {w : World} {B g n cap : Nat} {gs : List S86} {oki : Nat → Prop} {c : List Value} (h : Kd.H k86 86 w B (fun _ => True) (.slice (some ⟨g, 0, none⟩) n cap) gs ((n - 1 : Nat) : Int) oki c) (hn : 0 < n)
    (j : Nat) (hj : j < 3) (u : Value) (hu : u.oneCell' = true) (x : S86) (hM : k86.M w B oki x (c.take j ++ [u] ++ c.drop (j + 1))) (hg : ∀ k, oki k → k ≠ g) :
    Kd.S k86 86 (w.setCell ⟨g, (n - 1) * 3 + j, none⟩ u) B (fun _ => True) (.slice (some ⟨g, 0, none⟩) n cap) (gs.set (n - 1) x) ∧ w.grownBy (w.setCell ⟨g, (n - 1) * 3 + j, none⟩ u) (some g) := by
  obtain ⟨h2, h3⟩ := Kd.H_seg (seg := [u]) (j := j) h (by omega) (by omega) (by simp; show j + 1 ≤ 3; omega) (by intro q hq; obtain rfl := List.mem_singleton.mp hq; exact hu)
  have e : w.setCells g (((n - 1 : Nat) : Int).toNat * k86.sz + j) [u] = w.setCell ⟨g, (n - 1) * 3 + j, none⟩ u := by
    rw [Int.toNat_natCast]
    rfl
  rw [e] at h2 h3
  refine ⟨?_, h3⟩
  have := Kd.H_back h2 (x' := x) (okp := oki) (Kd.M_far (p := ⟨g, (n - 1) * 3 + j, none⟩) hM (fun k hk => hg k hk) u) (fun _ hk => hk)
  rwa [Int.toNat_natCast] at this

end Go.Proofs.YtdnaddignhjihaaDoor.Given
