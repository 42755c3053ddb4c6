/- LinesParts: the plain law. -/
import Derived.Test.YthbmedhejlhclaaDoorQLawx4
import Derived.Test.YthbmedhejlhclaaDoorPureP
namespace Go.Proofs.YthbmedhejlhclaaDoor.Pure
open Go Go.RowKit Go.Proofs.YthbmedhejlhclaaDoor.QBase Go.Proofs.YthbmedhejlhclaaDoor.Given Go.Proofs.YthbmedhejlhclaaDoor.QLaw Go.Proofs.YthbmedhejlhclaaDoorW.PrintWords Go.Proofs.YthbmedhejlhclaaDoorW.PrintLast
set_option linter.unusedVariables false
set_option linter.unusedSimpArgs false

theorem awake_f : decorumlaw09_awake.f = some true := by decide +kernel
def tp (l : List UInt8) : List UInt8 := Lib.trimPrefix l [239, 187, 191]
theorem tp_len (l : List UInt8) : (tp l).length ≤ l.length := by
  unfold tp Lib.trimPrefix
  split
  · simp
  · exact Nat.le_refl _
theorem cut_short (a : ByteArray) (ha : a.size ≤ 4096) : (cut4096 a).data.toList = tp a.data.toList := by
  show Lib.trimPrefix (a.extract 0 (min a.size 4096)).data.toList [239, 187, 191] = _
  rw [Lib.extract_data, List.drop_zero, Nat.sub_zero, List.take_of_length_le (by rw [← Lib.size_eq]; omega)]
  rfl
theorem tp_no (l : List UInt8) (h : ∀ c t, l = c :: t → 2 < l.length → c ≠ 239) : tp l = l := by
  have : Lib.hasPrefix l [239, 187, 191] = false := by
    unfold Lib.hasPrefix
    match l, h with
    | [], _ => rfl
    | [a], _ => simp [List.isPrefixOf]
    | [a, b], _ => simp [List.isPrefixOf]
    | a :: b :: c :: r, h =>
      have := h a (b :: c :: r) rfl (by simp)
      simp [List.isPrefixOf]
      intro e
      exact absurd e.symm this
  unfold tp Lib.trimPrefix
  rw [this]
  rfl
theorem tp_app (u v : List UInt8) (h : ∀ c t, u = c :: t → u.length < 3 → c ≠ 239) : tp (u ++ 10 :: v) = tp u ++ 10 :: v := by
  match u, h with
  | [], _ => rw [List.nil_append, tp_no (10 :: v) (fun c t e _ => by cases e; decide), tp_no [] (fun c t e => by cases e)]; rfl
  | [a], h =>
    have ha := h a [] rfl (by simp)
    rw [tp_no [a] (fun c t e hl => by simp at hl), tp_no _ (fun c t e _ => by simp at e; exact e.1 ▸ ha)]
  | [a, b], h =>
    have ha := h a [b] rfl (by simp)
    rw [tp_no [a, b] (fun c t e hl => by simp at hl), tp_no _ (fun c t e _ => by simp at e; exact e.1 ▸ ha)]
  | a :: b :: c :: r, _ =>
    unfold tp Lib.trimPrefix Lib.hasPrefix
    have : ([239, 187, 191] : List UInt8).isPrefixOf ((a :: b :: c :: r) ++ 10 :: v) = ([239, 187, 191] : List UInt8).isPrefixOf (a :: b :: c :: r) := by simp [List.isPrefixOf]
    rw [this]
    split <;> simp
theorem parse_app (u v : List UInt8) : parseV (u ++ 10 :: v) = parseV u ++ parseV v := by
  unfold parseV
  rw [spl_app v 10 (by decide), List.filterMap_append]
theorem parse_len (l : List UInt8) : (parseV l).length ≤ l.length + 1 := by
  unfold parseV
  exact Nat.le_trans (List.length_filterMap_le _ _) (spl_len l [])

theorem parts_loop (x y : List S40) (hx : x.length < 10000) (hy : y.length < 10000) : ∀ (m i k : Nat), x.length + y.length - i = m → i ≤ x.length + y.length → m + 1 ≤ k → decorumlaw09_LinesParts.l0 k x y (x ++ y) (i : Int) = some true := by
  intro m
  induction m with
  | zero =>
    intro i k h1 h2 h3
    obtain ⟨k, rfl⟩ : ∃ k', k = k' + 1 := ⟨k - 1, by omega⟩
    rw [decorumlaw09_LinesParts.l0, if_neg (by rw [List.length_append]; omega), awake_f]
    rfl
  | succ m ih =>
    intro i k h1 h2 h3
    obtain ⟨k, rfl⟩ : ∃ k', k = k' + 1 := ⟨k - 1, by omega⟩
    have hw : Aside0 (wrap64 ((i : Int) + 1) = ((i + 1 : Nat) : Int)) := ⟨by simp only [wrap64]; omega⟩
    have hn := ih (i + 1) k (by omega) (by omega) (by omega)
    have same : ∀ p : S40, ((!(p.f0.toList == p.f0.toList) || (!(p.f1.toList == p.f1.toList))) = true) = False := by intro p; simp
    rw [decorumlaw09_LinesParts.l0, if_pos (by rw [List.length_append]; omega)]
    by_cases hi : i < x.length
    · have e : rd_T40 (x ++ y) (i : Int) = rd_T40 x (i : Int) := by
        unfold rd_T40
        rw [Int.toNat_natCast, List.getD_eq_getElem?_getD, List.getD_eq_getElem?_getD, List.getElem?_append_left hi]
      rw [if_pos (by omega), if_pos (by omega), e, if_neg (by rw [same]; exact id), if_neg (by omega), hw.out]
      exact hn
    · have hw2 : Aside0 (wrap64 ((i : Int) - (x.length : Int)) = ((i - x.length : Nat) : Int)) := ⟨by simp only [wrap64]; omega⟩
      have e : rd_T40 (x ++ y) (i : Int) = rd_T40 y ((i - x.length : Nat) : Int) := by
        unfold rd_T40
        rw [Int.toNat_natCast, Int.toNat_natCast, List.getD_eq_getElem?_getD, List.getD_eq_getElem?_getD, List.getElem?_append_right (by omega)]
      rw [if_neg (by omega), if_pos (by omega), if_pos (by omega), hw2.out, if_pos (by omega), if_pos (by omega), e, if_neg (by rw [same]; exact id), hw.out]
      exact hn
theorem parts_t (a b : ByteArray) : decorumlaw09_LinesParts.j0 1 a b true = some true := by
  rw [decorumlaw09_LinesParts.j0, if_pos rfl, awake_f]
  rfl
theorem big (x y : Nat) (h : x + y ≤ 3000) : x + 1 ≤ 9223372036854775807 ∧ x + 1 + y ≤ 9223372036854775807 ∧ x + 1 + y ≤ 4096 ∧ x + 1 + y ≤ 1099511627776 ∧ x ≤ 4096 ∧ y ≤ 4096 ∧ x ≤ 1099511627776 ∧ y ≤ 1099511627776 := by omega
theorem lens (x y u v p q : Nat) (h : x + y ≤ 3000) (h1 : u ≤ p + 1) (h2 : v ≤ q + 1) (h3 : p ≤ x) (h4 : q ≤ y) : u < 10000 ∧ v < 10000 := by omega
theorem wsum (u v : Nat) (hu : u < 10000) (hv : v < 10000) : Aside0 (wrap64 ((u : Int) + (v : Int)) = ((u + v : Nat) : Int)) := ⟨by simp only [wrap64]; omega⟩
theorem all_list (a b : ByteArray) : ((a ++ (⟨#[10]⟩ : ByteArray)) ++ b).data.toList = a.data.toList ++ 10 :: b.data.toList := by
  simp [ByteArray.data_append]
theorem all_size (a b : ByteArray) : ((a ++ (⟨#[10]⟩ : ByteArray)) ++ b).size = a.size + 1 + b.size := by
  rw [ByteArray.size_append, ByteArray.size_append]; rfl
theorem one_size (a : ByteArray) : (a ++ (⟨#[10]⟩ : ByteArray)).size = a.size + 1 := by
  rw [ByteArray.size_append]; rfl
theorem head_bt (s : ByteArray) (c : UInt8) (t : List UInt8) (h : s.data.toList = c :: t) (hne : bt s 0 ≠ 239) : c ≠ 239 := by
  intro e
  have := (bt_drop (s := s) (i := 0) (by rw [List.drop_zero]; exact h)).2.1
  rw [e] at this
  exact hne this
theorem parts_z (a b : ByteArray) (hs : a.size + b.size ≤ 3000) (hb : 2 < b.size → bt b 0 ≠ 239) (ha : 0 < a.size → a.size < 3 → bt a 0 ≠ 239) :
    parseV (cut4096 ((a ++ (⟨#[10]⟩ : ByteArray)) ++ b)).data.toList = parseV (tp a.data.toList) ++ parseV (tp b.data.toList) := by
  obtain ⟨c1, c2, c3, c4, c5, c6, c7, c8⟩ := big a.size b.size hs
  rw [cut_short _ (by rw [all_size]; exact c3), all_list, tp_app, parse_app, tp_no b.data.toList]
  · intro c t h hl
    rw [← Lib.size_eq] at hl
    exact head_bt b c t h (hb hl)
  · intro c t h hl
    rw [← Lib.size_eq] at hl
    refine head_bt a c t h (ha ?_ hl)
    rw [Lib.size_eq, h]; simp
theorem parts_f (a b : ByteArray) (hs : a.size + b.size ≤ 3000) (hb : 2 < b.size → bt b 0 ≠ 239) (ha : 0 < a.size → a.size < 3 → bt a 0 ≠ 239) : ∃ k, decorumlaw09_LinesParts.j0 k a b false = some true := by
  obtain ⟨c1, c2, c3, c4, c5, c6, c7, c8⟩ := big a.size b.size hs
  have hz := parts_z a b hs hb ha
  have lx := parse_len (tp a.data.toList)
  have ly := parse_len (tp b.data.toList)
  have tx := tp_len a.data.toList
  have ty := tp_len b.data.toList
  rw [← Lib.size_eq] at tx ty
  obtain ⟨d1, d2⟩ := lens _ _ _ _ _ _ hs lx ly tx ty
  have hloop := parts_loop _ _ d1 d2 _ 0 ((parseV (tp a.data.toList)).length + (parseV (tp b.data.toList)).length + 1) rfl (Nat.zero_le _) (Nat.le_refl _)
  rw [show ((0 : Nat) : Int) = 0 from rfl] at hloop
  refine ⟨(parseV (tp a.data.toList)).length + (parseV (tp b.data.toList)).length + 1 + 1, ?_⟩
  have hw := wsum _ _ d1 d2
  have q1 := parse_f a c7
  have q2 := parse_f b c8
  have q3 := parse_f ((a ++ (⟨#[10]⟩ : ByteArray)) ++ b) (by rw [all_size]; exact c4)
  rw [cut_short a c5] at q1
  rw [cut_short b c6] at q2
  rw [hz] at q3
  have c2' : (a ++ (⟨#[10]⟩ : ByteArray)).size + b.size ≤ 9223372036854775807 := by rw [one_size]; exact c2
  clear lx ly tx ty d1 d2 c3 c4 c5 c6 c7 c8 hz hb ha hs
  rw [decorumlaw09_LinesParts.j0, if_neg (by decide), q1, q2]
  generalize (a ++ (⟨#[10]⟩ : ByteArray)) = ab at q3 c2' ⊢
  simp only [Option.bind_some]
  generalize (parseV (tp a.data.toList)) = X at *
  generalize (parseV (tp b.data.toList)) = Y at *
  refine (if_pos c1).trans ?_
  refine (if_pos c2').trans ?_
  rw [q3, Option.bind_some]
  rw [hw.out]
  have hlen : ((X ++ Y).length : Int) = ((X.length + Y.length : Nat) : Int) := by rw [List.length_append]
  refine (if_pos hlen).trans ?_
  exact hloop
theorem LinesParts : decorumlaw09_LinesParts.Pure := by
  intro a0 a1 h0 h1
  have hw : Aside0 (wrap64 ((a0.size : Int) + (a1.size : Int)) = ((a0.size + a1.size : Nat) : Int)) := ⟨by simp only [wrap64]; omega⟩
  unfold decorumlaw09_LinesParts.f
  rw [hw.out]
  by_cases hs : a0.size + a1.size ≤ 3000
  · simp only [if_neg (show ¬ (((a0.size + a1.size : Nat) : Int) > 3000) by omega)]
    have tail : (2 < a1.size → bt a1 0 ≠ 239) → ∃ k, (if (a0.size : Int) < 3 then (if (a0.size : Int) > 0 then (if 0 < (a0.size : Int) then (decorumlaw09_LinesParts.j0 k a0 a1 ((bt a0 0) == 239)) else (none)) else (decorumlaw09_LinesParts.j0 k a0 a1 false)) else (decorumlaw09_LinesParts.j0 k a0 a1 false)) = some true := by
      intro hb
      by_cases h3 : a0.size < 3
      · simp only [if_pos (show (a0.size : Int) < 3 by omega)]
        by_cases h4 : 0 < a0.size
        · simp only [if_pos (show (a0.size : Int) > 0 by omega), if_pos (show 0 < (a0.size : Int) by omega)]
          by_cases h5 : bt a0 0 = 239
          · rw [h5]
            exact ⟨1, parts_t a0 a1⟩
          · rw [beq_eq_false_iff_ne.mpr h5]
            exact parts_f a0 a1 hs hb (fun _ _ => h5)
        · simp only [if_neg (show ¬ ((a0.size : Int) > 0) by omega)]
          exact parts_f a0 a1 hs hb (fun h => absurd h h4)
      · simp only [if_neg (show ¬ ((a0.size : Int) < 3) by omega)]
        exact parts_f a0 a1 hs hb (fun _ h => absurd h h3)
    by_cases h2 : 2 < a1.size
    · simp only [if_pos (show (a1.size : Int) > 2 by omega), if_pos (show 0 < (a1.size : Int) by omega)]
      by_cases h5 : bt a1 0 = 239
      · simp only [if_pos h5]
        exact ⟨1, parts_t a0 a1⟩
      · simp only [if_neg h5]
        exact tail (fun _ => h5)
    · simp only [if_neg (show ¬ ((a1.size : Int) > 2) by omega)]
      exact tail (fun h => absurd h h2)
  · simp only [if_pos (show ((a0.size + a1.size : Nat) : Int) > 3000 by omega)]
    exact ⟨1, parts_t a0 a1⟩
end Go.Proofs.YthbmedhejlhclaaDoor.Pure
