/- What the forms, the document's patterns and the program's answer, in the words of Spec and Glob. -/
import Derived.Test.YtioafmnobmgdkaaDoorQMidx
import Derived.Test.YtioafmnobmgdkaaDoorGivM
import Derived.Test.YtioafmnobmgdkaaDoorGlob
namespace Go.Proofs.YtioafmnobmgdkaaDoor.Given
open Go.RowKit Go.Proofs.YtioafmnobmgdkaaDoor.QBase Go.Proofs.YtioafmnobmgdkaaDoor.QMid Go.Proofs.YtioafmnobmgdkaaDoor.Glob Go.Proofs.YtioafmnobmgdkaaDoorW.PrintWords Go.Proofs.YtioafmnobmgdkaaDoorW.PrintLast
set_option linter.unusedVariables false
set_option linter.unusedSimpArgs false

theorem wrap_in (n : Int) (h : -9223372036854775808 ≤ n) (h' : n ≤ 9223372036854775807) : wrap64 n = n := by
  unfold wrap64; omega
def nums (l : List UInt8) : List Int := l.map fun b => (b.toNat : Int)
theorem nums_length (l : List UInt8) : (nums l).length = l.length := by simp [nums]
theorem nums_append (a b : List UInt8) : nums (a ++ b) = nums a ++ nums b := by simp [nums]
theorem of_nums (l : List UInt8) : strOfNums (nums l) = ⟨l.toArray⟩ := by
  unfold strOfNums nums
  congr 2
  rw [List.map_map]
  conv => rhs; rw [← List.map_id l]
  apply List.map_congr_left
  intro a _
  simp
theorem size_list (s : ByteArray) : s.data.toList.length = s.size := by simp

def resR (o : Option (List UInt8)) (acc : List UInt8) : ByteArray × Bool :=
  match o with
  | some l => (⟨(acc ++ l).toArray⟩, true)
  | none => (⟨#[]⟩, false)
theorem resR_map (o : Option (List UInt8)) (x acc : List UInt8) : resR (o.map (x ++ ·)) acc = resR o (acc ++ x) := by
  cases o <;> simp [resR]
theorem hex_f (c : UInt8) (k : Nat) (hk : 20 ≤ k) : decorumref04_hex.f k (c.toNat : Int) = some (match hexv c.toNat with | some x => (x : Int) | none => -1) := by
  have h0 : ∀ c : Fin 256, decorumref04_hex.f 20 ((c.val : Nat) : Int) = some (match hexv c.val with | some x => (x : Int) | none => -1) := by decide +kernel
  exact at_rounds (decorumref04_hex.mono _) hk (h0 ⟨c.toNat, c.toNat_lt⟩)
theorem free_f (c : UInt8) (k : Nat) (hk : 70 ≤ k) : decorumref04_free.f k (c.toNat : Int) = some (freeN c.toNat) := by
  have h0 : ∀ c : Fin 256, decorumref04_free.f 70 ((c.val : Nat) : Int) = some (freeN c.val) := by decide +kernel
  exact at_rounds (decorumref04_free.mono _) hk (h0 ⟨c.toNat, c.toNat_lt⟩)
theorem in_f (c : UInt8) (k : Nat) (hk : 70 ≤ k) : decorumref04_in.f k (⟨#[33, 36, 38, 39, 40, 41, 42, 43, 44, 59, 61, 58, 64, 47, 63, 91, 93]⟩ : ByteArray) (c.toNat : Int) = some (otherN c.toNat) := by
  have h0 : ∀ c : Fin 256, decorumref04_in.f 70 (⟨#[33, 36, 38, 39, 40, 41, 42, 43, 44, 59, 61, 58, 64, 47, 63, 91, 93]⟩ : ByteArray) ((c.val : Nat) : Int) = some (otherN c.val) := by decide +kernel
  exact at_rounds (decorumref04_in.mono _ _) hk (h0 ⟨c.toNat, c.toNat_lt⟩)
theorem code_f (c : UInt8) : decorumref04_code.f (c.toNat : Int) = some ⟨(codeB c).toArray⟩ := by
  have h0 : ∀ c : Fin 256, decorumref04_code.f ((c.val : Nat) : Int) = some ⟨(codeB (UInt8.ofNat c.val)).toArray⟩ := by decide +kernel
  have := h0 ⟨c.toNat, c.toNat_lt⟩
  simpa using this
theorem bytesOf_code (c : UInt8) : bytesOf ⟨(codeB c).toArray⟩ = nums (codeB c) := rfl

theorem byte_at (s : ByteArray) (i : Nat) (c : UInt8) (t : List UInt8) (h : s.data.toList.drop i = c :: t) : i < s.size ∧ bt s (i : Int) = (c.toNat : Int) ∧ s.data.toList.drop (i + 1) = t := by
  have h1 : i < s.data.toList.length := by
    apply Decidable.byContradiction
    intro hh
    rw [List.drop_of_length_le (by omega)] at h
    cases h
  have h2 := drop_cons s.data.toList i h1
  rw [h2] at h
  injection h with ha hb
  refine ⟨by rw [← size_list]; exact h1, ?_, hb⟩
  rw [bt_list s i h1, ha]
theorem ne37 {c : UInt8} (h : c ≠ 37) : ¬ ((c.toNat : Int) = 37) := by
  intro hh; apply h; apply UInt8.toNat_inj.mp; rw [show (37 : UInt8).toNat = 37 from rfl]; omega
theorem two_hex (x y : Nat) (hx : x < 16) (hy : y < 16) : (wrap64 ((wrap64 (16 * (x : Int))) + (y : Int))) % 256 = (((UInt8.ofNat (16 * x + y)).toNat : Nat) : Int) := by
  rw [wrap_in (16 * (x : Int)) (by omega) (by omega), wrap_in _ (by omega) (by omega)]
  simp

theorem refnorm_l (s : ByteArray) (hs : s.size ≤ 1099511627776) (n : Nat) : ∀ (i : Nat) (acc : List UInt8) (k : Nat), s.size ≤ i + n → i ≤ s.size → acc.length ≤ 3 * i → 2 * n + 80 ≤ k →
    decorumref04_Norm.l0 k s (nums acc) (i : Int) = some (resR (normB (s.data.toList.drop i)) acc) := by
  induction n with
  | zero =>
    intro i acc k hn hi hb hk
    obtain ⟨k, rfl⟩ : ∃ k', k = k' + 1 := ⟨k - 1, by omega⟩
    simp only [decorumref04_Norm.l0]
    rw [if_neg (by omega), List.drop_of_length_le (by rw [size_list]; omega), normB_nil, of_nums]
    simp [resR]
  | succ n ih =>
    intro i acc k hn hi hb hk
    obtain ⟨k, rfl⟩ : ∃ k', k = k' + 1 := ⟨k - 1, by omega⟩
    have hl := size_list s
    simp only [decorumref04_Norm.l0]
    rcases hL : s.data.toList.drop i with _ | ⟨c, t⟩
    · have : s.size ≤ i := by rw [← hl]; exact List.drop_eq_nil_iff.mp hL
      rw [if_neg (by omega), normB_nil, of_nums]
      simp [resR]
    · obtain ⟨h1, e1, hL1⟩ := byte_at s i c t hL
      rw [if_pos (by omega), if_pos (by omega), e1]
      by_cases hc : c = 37
      · rw [if_pos (by rw [hc]; rfl), wrap_in ((i : Int) + 2) (by omega) (by omega), wrap_in ((i : Int) + 1) (by omega) (by omega)]
        have no : ∀ k', 1 ≤ k' → tripB (c :: t) = none → decorumref04_Norm.j1 k' s (nums acc) (i : Int) true = some (resR (normB (c :: t)) acc) := by
          intro k' hk' ht
          obtain ⟨k', rfl⟩ : ∃ k'', k' = k'' + 1 := ⟨k' - 1, by omega⟩
          simp only [decorumref04_Norm.j1]
          rw [normB_pct c t hc, ht]
          rfl
        have hlen : t.length + 1 + i = s.size := by
          have := congrArg List.length hL
          rw [List.length_drop, hl] at this
          simp at this
          omega
        rcases t with _ | ⟨h, _ | ⟨l, u⟩⟩
        · rw [if_pos (by simp at hlen; omega)]; exact no k (by omega) (by simp [tripB])
        · rw [if_pos (by simp at hlen; omega)]; exact no k (by omega) (by simp [tripB])
        · simp only [List.length_cons] at hlen
          obtain ⟨h2, e2, hL2⟩ := byte_at s (i + 1) h (l :: u) hL1
          obtain ⟨h3, e3, hL3⟩ := byte_at s (i + 1 + 1) l u hL2
          rw [show (((i + 1 : Nat)) : Int) = (i : Int) + 1 by omega] at e2
          rw [show (((i + 1 + 1 : Nat)) : Int) = (i : Int) + 2 by omega] at e3
          rw [if_neg (by omega), if_pos (by omega), if_pos (by omega), e2, hex_f h k (by omega), Option.bind_some]
          rcases hx : hexv h.toNat with _ | x
          · rw [if_pos (by simp)]
            exact no k (by omega) (by simp [tripB, hx])
          · simp only
            rw [if_neg (by omega), if_pos (by omega), if_pos (by omega), e3, hex_f l k (by omega), Option.bind_some]
            rcases hy : hexv l.toNat with _ | y
            · simp only
              rw [show decide ((-1 : Int) < 0) = true from rfl]
              exact no k (by omega) (by simp [tripB, hx, hy])
            · simp only
              rw [show decide (((y : Nat) : Int) < 0) = false from decide_eq_false (by omega)]
              obtain ⟨k, rfl⟩ : ∃ k', k = k' + 1 := ⟨k - 1, by omega⟩
              have ht : tripB (c :: h :: l :: u) = some (UInt8.ofNat (16 * x + y)) := by simp [tripB, hx, hy]
              have hu : s.data.toList.drop (i + 3) = u := hL3
              rw [normB_pct c _ hc, ht, Option.bind_some, resR_map]
              simp only [decorumref04_Norm.j1]
              rw [if_neg (by simp), wrap_in ((i : Int) + 2) (by omega) (by omega), wrap_in ((i : Int) + 1) (by omega) (by omega), wrap_in ((i : Int) + 2 + 1) (by omega) (by omega), if_pos (by omega), if_pos (by omega), e2, hex_f h k (by omega), Option.bind_some, if_pos (by omega), if_pos (by omega), e3, hex_f l k (by omega), Option.bind_some, hx, hy]
              simp only
              rw [two_hex x y (hexv_lt hx) (hexv_lt hy), free_f _ k (by omega), Option.bind_some, show (i : Int) + 2 + 1 = ((i + 3 : Nat) : Int) by omega]
              generalize UInt8.ofNat (16 * x + y) = b
              have hob := outB_length b
              have hnext := ih (i + 3) (acc ++ outB b) k (by omega) (by omega) (by rw [List.length_append]; omega) (by omega)
              rw [hu, nums_append] at hnext
              show _ = some (resR (normB u) (acc ++ outB b))
              rw [← hnext]
              by_cases hf : freeN b.toNat = true
              · rw [if_pos hf, if_pos (by rw [nums_length]; omega), outB, if_pos hf]; rfl
              · rw [if_neg hf, code_f b, Option.bind_some, if_pos (by rw [nums_length]; show _ + 3 < _; omega), outB, if_neg hf, bytesOf_code]
      · rw [if_neg (ne37 hc), free_f c k (by omega), Option.bind_some, wrap_in ((i : Int) + 1) (by omega) (by omega), normB_one c t hc, resR_map, show (i : Int) + 1 = ((i + 1 : Nat) : Int) by omega]
        have hob := out1_length c
        have hnext := ih (i + 1) (acc ++ out1 c) k (by omega) (by omega) (by rw [List.length_append]; omega) (by omega)
        rw [hL1, nums_append] at hnext
        rw [← hnext]
        by_cases hf : freeN c.toNat = true
        · rw [if_pos hf, if_pos (by rw [nums_length]; omega), out1, if_pos (by simp [hf])]; rfl
        · rw [if_neg hf, in_f c k (by omega), Option.bind_some]
          by_cases ho : otherN c.toNat = true
          · rw [if_pos ho, if_pos (by rw [nums_length]; omega), out1, if_pos (by simp [ho])]; rfl
          · rw [if_neg ho, code_f c, Option.bind_some, if_pos (by rw [nums_length]; show _ + 3 < _; omega), out1, if_neg (by simp [hf, ho]), bytesOf_code]

theorem refnorm_f (s : ByteArray) (hs : s.size ≤ 1099511627776) (k : Nat) (hk : 2 * s.size + 80 ≤ k) : decorumref04_Norm.f k s = some (resR (normB s.data.toList) []) :=
  refnorm_l s hs s.size 0 [] k (by omega) (by omega) (by simp) hk

theorem norm_f (s : ByteArray) (hs : s.size ≤ 1099511627776) : pct_Norm.f s = some (resR (normB s.data.toList) []) := by
  rw [pct_Norm.f, if_pos hs]
  cases normB s.data.toList <;> simp [resR]

def okB (c : UInt8) : Bool := decide (32 < c.toNat) && decide (c.toNat < 127) && c != 34 && c != 60 && c != 62 && c != 92 && c != 94 && c != 123 && c != 125 && c != 124 && c != 35 && c != 96
theorem ok_outB (c : UInt8) : (outB c).all okB = true := by
  have h0 : ∀ c : Fin 256, (outB (UInt8.ofNat c.val)).all okB = true := by decide +kernel
  simpa using h0 ⟨c.toNat, c.toNat_lt⟩
theorem ok_out1 (c : UInt8) : (out1 c).all okB = true := by
  have h0 : ∀ c : Fin 256, (out1 (UInt8.ofNat c.val)).all okB = true := by decide +kernel
  simpa using h0 ⟨c.toNat, c.toNat_lt⟩
theorem norm_ok (n : Nat) : ∀ (a x : List UInt8), a.length ≤ n → normB a = some x → x.all okB = true ∧ x.length ≤ 3 * a.length := by
  induction n with
  | zero =>
    intro a x h ha
    obtain rfl : a = [] := List.eq_nil_of_length_eq_zero (by omega)
    rw [normB_nil] at ha
    obtain rfl := Option.some.inj ha
    simp
  | succ n ih =>
    intro a x h ha
    rcases a with _ | ⟨c, t⟩
    · rw [normB_nil] at ha
      obtain rfl := Option.some.inj ha
      simp
    by_cases hc : c = 37
    · rw [normB_pct c t hc] at ha
      rcases ht : tripB (c :: t) with _ | z
      · rw [ht] at ha; cases ha
      · have hlen := tripB_len ht
        simp at hlen
        rw [ht, Option.bind_some] at ha
        obtain ⟨u, hu, rfl⟩ := Option.map_eq_some_iff.mp ha
        have ⟨h1, h2⟩ := ih (t.drop 2) u (by simp at h ⊢; omega) hu
        have h3 := outB_length z
        refine ⟨by rw [List.all_append, ok_outB, h1]; rfl, ?_⟩
        simp at h2 ⊢
        omega
    · rw [normB_one c t hc] at ha
      obtain ⟨u, hu, rfl⟩ := Option.map_eq_some_iff.mp ha
      have ⟨h1, h2⟩ := ih t u (by simp at h ⊢; omega) hu
      have h3 := out1_length c
      refine ⟨by rw [List.all_append, ok_out1, h1]; rfl, ?_⟩
      simp at h2 ⊢
      omega

/-- A text in one form; as it is, if it has none. -/
def nf (l : List UInt8) : List UInt8 := (normB l).getD l
theorem resR_one (s : ByteArray) : (if (resR (normB s.data.toList) []).2 = true then (some (resR (normB s.data.toList) []).1) else (some s)) = some (⟨(nf s.data.toList).toArray⟩ : ByteArray) := by
  unfold nf
  cases normB s.data.toList <;> simp [resR]
theorem one_f (s : ByteArray) (hs : s.size ≤ 1099511627776) : match_one.f s = some ⟨(nf s.data.toList).toArray⟩ := by
  rw [match_one.f, norm_f s hs, Option.bind_some, resR_one]
theorem form_f (s : ByteArray) (hs : s.size ≤ 1099511627776) (k : Nat) (hk : 2 * s.size + 80 ≤ k) : decorumref09_Form.f k s = some ⟨(nf s.data.toList).toArray⟩ := by
  rw [decorumref09_Form.f, refnorm_f s hs k hk, Option.bind_some, resR_one]

/-! ### glob -/
def lst (n : Nat) (a : Nat → Bool) : List Bool := (List.range (n + 1)).map a
theorem lst_length (n : Nat) (a : Nat → Bool) : (lst n a).length = n + 1 := by simp [lst]
theorem lst_get (n : Nat) (a : Nat → Bool) (j : Nat) (h : j ≤ n) : rdOf false (lst n a) (j : Int) = a j := by
  unfold rdOf lst
  rw [Int.toNat_natCast, List.getD_eq_getElem?_getD, List.getElem?_map, List.getElem?_range (by omega)]
  rfl
theorem lst_set (n : Nat) (a : Nat → Bool) (j : Nat) (v : Bool) (b : Nat → Bool) (hj : b j = v) (hb : ∀ q, q ≠ j → b q = a q) : (lst n a).set j v = lst n b := by
  apply List.ext_getElem?
  intro q
  unfold lst
  rw [List.getElem?_set, List.getElem?_map, List.getElem?_map]
  by_cases h : j = q
  · subst h
    rw [if_pos rfl]
    by_cases hl : j < n + 1
    · rw [if_pos (by simpa using hl), List.getElem?_range hl, Option.map_some, hj]
    · rw [if_neg (by simpa using hl), List.getElem?_eq_none (by simp; omega)]
      rfl
  · rw [if_neg h]
    by_cases hl : q < n + 1
    · rw [List.getElem?_range hl, Option.map_some, Option.map_some, hb q (Ne.symm h)]
    · rw [List.getElem?_eq_none (by simp; omega)]; rfl
theorem lst_congr (n : Nat) (a b : Nat → Bool) (h : ∀ q, q ≤ n → a q = b q) : lst n a = lst n b := by
  unfold lst
  apply List.map_congr_left
  intro q hq
  exact h q (by simp at hq; omega)
theorem lst_replicate (n : Nat) : List.replicate (n + 1) false = lst n (fun _ => false) := by
  unfold lst
  apply List.ext_getElem?
  intro q
  rw [List.getElem?_map, List.getElem?_replicate]
  by_cases hl : q < n + 1
  · rw [if_pos hl, List.getElem?_range hl]; rfl
  · rw [if_neg hl, List.getElem?_eq_none (by simp; omega)]; rfl

theorem glob_l2 (x1 : ByteArray) (hs : x1.size ≤ 1000000) (a : Nat → Bool) (m : Nat) : ∀ (j k : Nat), x1.size + 1 = j + m → m + 1 ≤ k →
    decorumref09_glob.l2 k x1 (lst x1.size a) (j : Int) = some ((List.range' j m).any a) := by
  induction m with
  | zero =>
    intro j k hj hk
    obtain ⟨k, rfl⟩ : ∃ k', k = k' + 1 := ⟨k - 1, by omega⟩
    simp only [decorumref09_glob.l2]
    rw [if_neg (by omega)]
    rfl
  | succ m ih =>
    intro j k hj hk
    obtain ⟨k, rfl⟩ : ∃ k', k = k' + 1 := ⟨k - 1, by omega⟩
    simp only [decorumref09_glob.l2]
    rw [if_pos (by omega), if_pos (by omega), if_pos (by rw [lst_length]; omega), lst_get _ _ _ (by omega), wrap_in ((j : Int) + 1) (by omega) (by omega), show (j : Int) + 1 = ((j + 1 : Nat) : Int) by omega, ih (j + 1) k (by omega) (by omega), List.range'_succ, List.any_cons]
    cases a j <;> simp

theorem bt_ge (s : ByteArray) (i : Nat) (h : i < s.size) : ∃ c : UInt8, s.data.toList[i]? = some c ∧ bt s (i : Int) = (c.toNat : Int) := by
  have hl : i < s.data.toList.length := by simpa using h
  exact ⟨s.data.toList[i], List.getElem?_eq_getElem hl, bt_list s i hl⟩
theorem toNat_eq (c d : UInt8) : ((c.toNat : Int) = (d.toNat : Int)) ↔ c = d := by
  constructor
  · intro h; exact UInt8.toNat_inj.mp (by omega)
  · rintro rfl; rfl

def part (b : Nat → Bool) (j : Nat) : Nat → Bool := fun q => if q < j then b q else false
theorem part_set (n : Nat) (b : Nat → Bool) (j : Nat) (v : Bool) (h : b j = v) : (lst n (part b j)).set j v = lst n (part b (j + 1)) := by
  apply lst_set
  · simp [part, h]
  · intro q hq
    unfold part
    by_cases e : q < j
    · rw [if_pos e, if_pos (by omega)]
    · rw [if_neg e, if_neg (by omega)]
theorem part_skip (n : Nat) (b : Nat → Bool) (j : Nat) (h : b j = false) : lst n (part b j) = lst n (part b (j + 1)) := by
  apply lst_congr
  intro q hq
  unfold part
  by_cases e : q < j
  · rw [if_pos e, if_pos (by omega)]
  · by_cases e2 : q = j
    · subst e2; simp [h]
    · rw [if_neg e, if_neg (by omega)]
theorem part_all (n : Nat) (b : Nat → Bool) : lst n (part b (n + 1)) = lst n b := by
  apply lst_congr
  intro q hq
  unfold part
  rw [if_pos (by omega)]

theorem glob_l1 (x0 x1 : ByteArray) (w : Bool) (hs : x1.size ≤ 1000000) (i : Nat) (c : UInt8) (hc : x0.data.toList[i]? = some c) (hi : i < x0.size) (h0 : x0.size ≤ 1000000) (a : Nat → Bool) (r : Bool) (K : Nat)
    (hnext : ∀ k, K ≤ k → decorumref09_glob.l0 k x0 x1 w (lst x1.size (nx c x1.data.toList a)) ((i + 1 : Nat) : Int) = some r) (m : Nat) :
    ∀ (j k : Nat), x1.size + 1 = j + m → K + m + 1 ≤ k → decorumref09_glob.l1 k x0 x1 w (lst x1.size a) (i : Int) (lst x1.size (part (nx c x1.data.toList a) j)) (j : Int) = some r := by
  have hbt : bt x0 (i : Int) = (c.toNat : Int) := by
    obtain ⟨c', h1, h2⟩ := bt_ge x0 i hi
    rw [hc] at h1
    cases h1
    exact h2
  induction m with
  | zero =>
    intro j k hj hk
    obtain ⟨k, rfl⟩ : ∃ k', k = k' + 1 := ⟨k - 1, by omega⟩
    simp only [decorumref09_glob.l1]
    rw [if_neg (by omega), wrap_in ((i : Int) + 1) (by omega) (by omega)]
    obtain rfl : j = x1.size + 1 := by omega
    rw [part_all]
    exact hnext k (by omega)
  | succ m ih =>
    intro j k hj hk
    obtain ⟨k, rfl⟩ : ∃ k', k = k' + 1 := ⟨k - 1, by omega⟩
    simp only [decorumref09_glob.l1]
    have ih := ih (j + 1) k (by omega) (by omega)
    rw [if_pos (by omega), if_pos (by omega), if_pos (by omega), hbt, wrap_in ((j : Int) + 1) (by omega) (by omega), show (j : Int) + 1 = ((j + 1 : Nat) : Int) by omega]
    simp only [lst_length, Int.toNat_natCast]
    by_cases h42 : c = 42
    · subst h42
      rw [if_pos (show ((UInt8.toNat 42 : Nat) : Int) = 42 from rfl), if_pos (by omega), if_pos (by omega), lst_get _ _ _ (by omega)]
      cases haj : a j with
      | true =>
        rw [if_pos rfl, if_pos (by omega), part_set _ _ j true (by cases j <;> simp [nx, nxs, haj])]
        exact ih
      | false =>
        rw [if_neg (by simp)]
        cases j with
        | zero =>
          rw [if_neg (by omega), if_pos (by omega), part_set _ _ 0 false (by simp [nx, nxs, haj])]
          exact ih
        | succ j =>
          rw [if_pos (by omega), wrap_in (((j + 1 : Nat) : Int) - 1) (by omega) (by omega), show ((j + 1 : Nat) : Int) - 1 = (j : Int) by omega, if_pos (by omega), if_pos (by omega), if_pos (by omega), lst_get _ _ _ (by omega), part_set _ _ (j + 1) _ (by simp [nx, nxs, haj, part])]
          exact ih
    · rw [if_neg (show ¬ ((c.toNat : Int) = 42) from fun e => h42 ((toNat_eq c 42).mp e))]
      cases j with
      | zero =>
        rw [if_neg (by omega), part_skip _ _ 0 (by simp [nx, h42])]
        exact ih
      | succ j =>
        obtain ⟨d, hd1, hd2⟩ := bt_ge x1 j (by omega)
        rw [if_pos (by omega), wrap_in (((j + 1 : Nat) : Int) - 1) (by omega) (by omega), show ((j + 1 : Nat) : Int) - 1 = (j : Int) by omega, if_pos (by omega), if_pos (by omega), lst_get _ _ _ (by omega), hd2]
        cases haj : a j with
        | false =>
          rw [if_neg (by simp), part_skip _ _ (j + 1) (by simp [nx, h42, haj])]
          exact ih
        | true =>
          rw [if_pos rfl, if_pos (by omega)]
          by_cases hdc : d = c
          · subst hdc
            rw [if_pos rfl, if_pos (by omega), if_pos (by omega), part_set _ _ (j + 1) true (by simp [nx, h42, haj, hd1])]
            exact ih
          · rw [if_neg (fun e => hdc ((toNat_eq d c).mp e)), part_skip _ _ (j + 1) (by simp [nx, h42, haj, hd1, hdc])]
            exact ih

theorem glob_l0 (x0 x1 : ByteArray) (w : Bool) (h0 : x0.size ≤ 1000000) (hs : x1.size ≤ 1000000) (m : Nat) : ∀ (i : Nat) (a : Nat → Bool) (k : Nat), x0.size = i + m → m * (x1.size + 4) + x1.size + 5 ≤ k →
    decorumref09_glob.l0 k x0 x1 w (lst x1.size a) (i : Int) = some (rs w (x0.data.toList.drop i) x1.data.toList a) := by
  induction m with
  | zero =>
    intro i a k hi hk
    obtain ⟨k, rfl⟩ : ∃ k', k = k' + 1 := ⟨k - 1, by omega⟩
    simp only [decorumref09_glob.l0]
    rw [if_neg (by omega), List.drop_of_length_le (by rw [size_list]; omega)]
    cases w with
    | true => rw [if_pos rfl, if_pos (by omega), if_pos (by rw [lst_length]; omega), lst_get _ _ _ (by omega), rs_end_whole, size_list]
    | false =>
      rw [if_neg (by simp), rs_end_begin, size_list, List.range_eq_range']
      exact glob_l2 x1 hs a (x1.size + 1) 0 k (by omega) (by omega)
  | succ m ih =>
    intro i a k hi hk
    obtain ⟨k, rfl⟩ : ∃ k', k = k' + 1 := ⟨k - 1, by omega⟩
    simp only [decorumref09_glob.l0]
    have hk' : m * (x1.size + 4) + (x1.size + 4) + x1.size + 5 ≤ k + 1 := by rw [Nat.succ_mul] at hk; exact hk
    obtain ⟨c, hc, hb⟩ := bt_ge x0 i (by omega)
    have hl : i < x0.data.toList.length := by rw [size_list]; omega
    have hdr : x0.data.toList.drop i = c :: x0.data.toList.drop (i + 1) := by
      rw [List.drop_eq_getElem_cons hl]
      rw [List.getElem?_eq_getElem hl] at hc
      rw [Option.some.inj hc]
    rw [if_pos (by omega), wrap_in ((x1.size : Int) + 1) (by omega) (by omega), if_pos (by omega), show ((x1.size : Int) + 1).toNat = x1.size + 1 by omega, if_pos (by omega), lst_replicate, hdr, rs_step]
    have := glob_l1 x0 x1 w hs i c hc (by omega) h0 a (rs w (x0.data.toList.drop (i + 1)) x1.data.toList (nx c x1.data.toList a)) (m * (x1.size + 4) + x1.size + 5)
      (fun k hk => ih (i + 1) _ k (by omega) hk) (x1.size + 1) 0 k (by omega) (by omega)
    rw [show part (nx c x1.data.toList a) 0 = fun _ => false from by funext q; simp [part]] at this
    exact this

theorem glob_f (x0 x1 : ByteArray) (w : Bool) (h0 : x0.size ≤ 1000000) (hs : x1.size ≤ 1000000) (k : Nat) (hk : x0.size * (x1.size + 4) + x1.size + 5 ≤ k) :
    decorumref09_glob.f k x0 x1 w = some (mt w x0.data.toList x1.data.toList) := by
  rw [decorumref09_glob.f, wrap_in ((x1.size : Int) + 1) (by omega) (by omega), if_pos (by omega), show ((x1.size : Int) + 1).toNat = x1.size + 1 by omega, if_pos (by omega), lst_replicate, Option.bind_some, if_pos (by rw [lst_length]; omega),
    lst_set x1.size _ (0 : Int).toNat true (fun q => decide (q = 0)) (by decide) (fun q hq => decide_eq_false hq)]
  have := glob_l0 x0 x1 w h0 hs x0.size 0 (fun q => decide (q = 0)) k (by omega) hk
  rw [rs_start w _ _ _ (by decide) (fun q hq => decide_eq_false (by omega)), List.drop_zero] at this
  exact this

/-! ### Match -/
/-- Does a path begin like a pattern? On lists of bytes, each brought into one form. -/
def matchV (a p : List UInt8) : Bool := if (nf a).getLast? = some 36 then mt true (nf a).dropLast (nf p) else mt false (nf a) (nf p)

theorem nf_length (l : List UInt8) : (nf l).length ≤ 3 * l.length + l.length := by
  unfold nf
  cases h : normB l with
  | none => simp
  | some t => have := (norm_ok l.length l t (Nat.le_refl _) h).2; simp; omega
theorem last_take (l : List UInt8) : l.take (l.length - 1) = l.dropLast := by rw [List.dropLast_eq_take]
theorem refmatch_f (a p : ByteArray) (ha : a.size ≤ 10000) (hp : p.size ≤ 10000) (k : Nat) (hk : 4 * a.size * (4 * p.size + 4) + 4 * p.size + 2 * a.size + 100 ≤ k) :
    decorumref09_Match.f k a p = some (matchV a.data.toList p.data.toList) := by
  have h1 := nf_length a.data.toList
  have h2 := nf_length p.data.toList
  rw [size_list] at h1 h2
  rw [decorumref09_Match.f, form_f a (by omega) k (by omega), Option.bind_some, form_f p (by omega) k (by omega), Option.bind_some]
  unfold matchV
  generalize nf a.data.toList = A at *
  generalize nf p.data.toList = P at *
  have hsz : (⟨A.toArray⟩ : ByteArray).size = A.length := rfl
  have hszP : (⟨P.toArray⟩ : ByteArray).size = P.length := rfl
  have hmul : ∀ n, n ≤ A.length → n * (P.length + 4) + P.length + 5 ≤ k - 1 := by
    intro n hn
    have := Nat.mul_le_mul (show n ≤ 4 * a.size by omega) (show P.length + 4 ≤ 4 * p.size + 4 by omega)
    omega
  obtain ⟨k, rfl⟩ : ∃ k', k = k' + 1 := ⟨k - 1, by omega⟩
  rw [hsz]
  by_cases hA : A = []
  · subst hA
    rw [if_neg (by simp)]
    simp only [decorumref09_Match.j0]
    rw [if_neg (by simp), glob_f _ _ _ (by simp [hsz]) (by rw [hszP]; omega) k (by rw [hsz, hszP]; exact hmul _ (Nat.le_refl _)), Option.bind_some]
    simp
  · have hlen : 0 < A.length := List.length_pos_iff.mpr hA
    rw [if_pos (by omega), wrap_in ((A.length : Int) - 1) (by omega) (by omega), if_pos (by omega), if_pos (by omega)]
    have hbt : bt (⟨A.toArray⟩ : ByteArray) ((A.length : Int) - 1) = ((A[A.length - 1]'(by omega)).toNat : Int) := by
      rw [show ((A.length : Int) - 1) = ((A.length - 1 : Nat) : Int) by omega]
      exact bt_list ⟨A.toArray⟩ (A.length - 1) (by simp; omega)
    have hlast : A.getLast? = some (A[A.length - 1]'(by omega)) := by
      rw [List.getLast?_eq_getElem?, List.getElem?_eq_getElem (by omega)]
    rw [hbt, hlast]
    generalize A[A.length - 1]'(by omega) = z
    by_cases hz : z = 36
    · subst hz
      rw [if_pos rfl]
      simp only [decorumref09_Match.j0]
      rw [if_pos (by decide), hsz, wrap_in ((A.length : Int) - 1) (by omega) (by omega), if_pos (by omega), if_pos (by omega), show ((A.length : Int) - 1).toNat = A.length - 1 by omega]
      have e : ((⟨A.toArray⟩ : ByteArray).extract 0 (A.length - 1)).data.toList = A.dropLast := by
        rw [Lib.extract_from_zero]; exact last_take A
      have es : ((⟨A.toArray⟩ : ByteArray).extract 0 (A.length - 1)).size = A.length - 1 := by simp [hsz]
      rw [glob_f _ _ _ (by rw [es]; omega) (by rw [hszP]; omega) k (by rw [es, hszP]; exact hmul _ (by omega)), Option.bind_some, e]
    · have hz' : (((z.toNat : Nat) : Int) == 36) = false := by
        rw [beq_eq_false_iff_ne]
        exact fun h => hz ((toNat_eq z 36).mp h)
      rw [hz', if_neg (by simpa using hz)]
      simp only [decorumref09_Match.j0]
      rw [if_neg (by simp), glob_f _ _ _ (by rw [hsz]; omega) (by rw [hszP]; omega) k (by rw [hsz, hszP]; exact hmul _ (Nat.le_refl _)), Option.bind_some]

/-! ### the program's Match -/
theorem starL_list (w : Bool) : ∀ (ps : List ByteArray) (s : ByteArray), starL w ps s = starLL w (ps.map (·.data.toList)) s.data.toList
  | [], s => rfl
  | p :: ps, s => by
    simp only [starL, starLL, List.map_cons, List.isEmpty_map]
    split
    · rfl
    · split
      · rfl
      · rw [starL_list w ps, Lib.extract_to_end, size_list p]
theorem starP_list (w : Bool) (ps : List ByteArray) (s : ByteArray) : starP s w ps = starBL w (ps.map (·.data.toList)) s.data.toList := by
  cases ps with
  | nil => rfl
  | cons p ps =>
    simp only [starP, starB, starBL, List.map_cons, List.isEmpty_map]
    rw [starL_list, Lib.extract_to_end, Lib.size_eq]
    cases Lib.hasPrefix s.data.toList p.data.toList <;> simp
theorem matchN_eq (a p : ByteArray) : matchN a p = if a.data.toList.getLast? = some 36 then mt true a.data.toList.dropLast p.data.toList else mt false a.data.toList p.data.toList := by
  have hw : Lib.hasSuffix a.data.toList [36] = decide (a.data.toList.getLast? = some 36) := by
    apply Bool.eq_iff_iff.mpr
    rw [decide_eq_true_iff]
    unfold Lib.hasSuffix
    rw [List.isSuffixOf_iff_suffix]
    constructor
    · rintro ⟨t, h⟩; rw [← h]; simp
    · intro h
      obtain ⟨t, ht⟩ := List.getLast?_eq_some_iff.mp h
      exact ⟨t, ht.symm⟩
  have key : ∀ (w : Bool) (b : ByteArray), starP p w (Lib.splitB ⟨#[42]⟩ 0 (Lib.countB b ⟨#[42]⟩) b) = mt w b.data.toList p.data.toList := by
    intro w b
    rw [starP_list, Lib.splitB_data, ← star_eq]
    rw [show Lib.countB b ⟨#[42]⟩ = b.data.toList.count 42 from Lib.count_one 42 b.data.toList]
  unfold matchN
  simp only []
  rw [key, hw]
  by_cases h : a.data.toList.getLast? = some 36
  · rw [if_pos h]
    simp only [decide_eq_true h, if_true]
    rw [Lib.extract_from_zero, ← size_list, last_take]
  · rw [if_neg h]
    simp only [decide_eq_false h]
    rfl
theorem match_f (a p : ByteArray) (ha : a.size ≤ 10000) (hp : p.size ≤ 10000) : match_Match.f a p = some (matchV a.data.toList p.data.toList) := by
  have h1 := nf_length a.data.toList
  have h2 := nf_length p.data.toList
  rw [size_list] at h1 h2
  rw [match_Match.f, one_f a (by omega), Option.bind_some, one_f p (by omega), Option.bind_some]
  have hsz : ∀ A : List UInt8, (⟨A.toArray⟩ : ByteArray).size = A.length := fun _ => rfl
  rw [if_pos (by rw [hsz, hsz]; omega), matchN_eq]
  rfl
end Go.Proofs.YtioafmnobmgdkaaDoor.Given
