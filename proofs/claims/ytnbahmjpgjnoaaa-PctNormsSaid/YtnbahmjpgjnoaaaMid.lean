/- What Decode, the document's answer for Norm and Decode, and the fixed fact answer, in the words of Spec. -/
import Derived.Test.YtnbahmjpgjnoaaaQMidx
namespace Go.Proofs.Ytnbahmjpgjnoaaa.Given
open Go.RowKit Go.Proofs.Ytnbahmjpgjnoaaa.QBase Go.Proofs.Ytnbahmjpgjnoaaa.QMid Go.Proofs.YtnbahmjpgjnoaaaW.PrintWords Go.Proofs.YtnbahmjpgjnoaaaW.PrintLast
set_option linter.unusedVariables false
set_option linter.unusedSimpArgs false

theorem wrap_in (n : Int) (h : -9223372036854775808 ≤ n) (h' : n ≤ 9223372036854775807) : wrap64 n = n := by
  unfold wrap64; omega
def nums (l : List UInt8) : List Int := l.map fun b => (b.toNat : Int)
theorem nums_length (l : List UInt8) : (nums l).length = l.length := by simp [nums]
theorem nums_append (a b : List UInt8) : nums (a ++ b) = nums a ++ nums b := by simp [nums]
theorem of_nums (l : List UInt8) : strOfNums (nums l) = ⟨l.toArray⟩ := by
  unfold strOfNums nums
  congr 2
  rw [List.map_map]
  conv => rhs; rw [← List.map_id l]
  apply List.map_congr_left
  intro a _
  simp
theorem size_list (s : ByteArray) : s.data.toList.length = s.size := by simp

/-- Decode, on bytes; none: a percent is wrong. -/
def decB : List UInt8 → Option (List UInt8)
  | [] => some []
  | c :: t => if c = 37 then
      match t with
      | h :: l :: u => match hexv h.toNat, hexv l.toNat with
        | some x, some y => (decB u).map (UInt8.ofNat (16 * x + y) :: ·)
        | _, _ => none
      | _ => none
    else (decB t).map (c :: ·)
theorem decB_nil : decB [] = some [] := by rw [decB]
theorem decB_one (c : UInt8) (t : List UInt8) (h : c ≠ 37) : decB (c :: t) = (decB t).map (c :: ·) := by
  rw [decB.eq_def]; simp only [if_neg h]
theorem decB_pct (c : UInt8) (t : List UInt8) (h : c = 37) : decB (c :: t) = (tripB (c :: t)).bind fun b => (decB (t.drop 2)).map (b :: ·) := by
  subst h
  rw [decB.eq_def]
  match t with
  | [] => simp [tripB]
  | [_] => simp [tripB]
  | h :: l :: u =>
    simp only [tripB, if_true]
    cases hexv h.toNat <;> cases hexv l.toNat <;> simp
def resR (o : Option (List UInt8)) (acc : List UInt8) : ByteArray × Bool :=
  match o with
  | some l => (⟨(acc ++ l).toArray⟩, true)
  | none => (⟨#[]⟩, false)
theorem resR_map (o : Option (List UInt8)) (x acc : List UInt8) : resR (o.map (x ++ ·)) acc = resR o (acc ++ x) := by
  cases o <;> simp [resR]
theorem resR_cons (o : Option (List UInt8)) (x : UInt8) (acc : List UInt8) : resR (o.map (x :: ·)) acc = resR o (acc ++ [x]) := by
  cases o <;> simp [resR]

theorem triple_at (k : Nat) (hk : 3 ≤ k) (s : ByteArray) : ∃ r, pct_triple.f k s = some (r, (tripB s.data.toList).isSome) ∧ ∀ b, tripB s.data.toList = some b → r = (b.toNat : Int) := by
  obtain ⟨r, h, hb⟩ := triple_eq s
  exact ⟨r, at_rounds (pct_triple.mono s) hk h, hb⟩

theorem decode_l (n : Nat) : ∀ (s : ByteArray) (acc : List UInt8) (k : Nat), s.size ≤ n → acc.length + s.size < 140737488355328 → n + 4 ≤ k →
    pct_Decode.l0 k s (nums acc) = some (resR (decB s.data.toList) acc) := by
  induction n with
  | zero =>
    intro s acc k hn hb hk
    obtain ⟨k, rfl⟩ : ∃ k', k = k' + 1 := ⟨k - 1, by omega⟩
    have hs : s.data.toList = [] := List.eq_nil_of_length_eq_zero (by rw [size_list]; omega)
    simp only [pct_Decode.l0]
    rw [if_neg (by omega), hs, decB_nil, of_nums]
    simp [resR]
  | succ n ih =>
    intro s acc k hn hb hk
    obtain ⟨k, rfl⟩ : ∃ k', k = k' + 1 := ⟨k - 1, by omega⟩
    simp only [pct_Decode.l0]
    rcases hl : s.data.toList with _ | ⟨c, t⟩
    · have hs : s.size = 0 := by rw [← size_list, hl]; rfl
      rw [if_neg (by omega), decB_nil, of_nums]
      simp [resR]
    · have hs : s.size = t.length + 1 := by rw [← size_list, hl]; rfl
      have e0 : bt s 0 = ((c.toNat : Nat) : Int) := by
        have := bt_list s 0 (by rw [hl]; simp)
        simp only [hl] at this; exact this
      have x1 : (s.extract 1 s.size).data.toList = t := by rw [ext_list, hl]; rfl
      rw [if_pos (by omega), if_pos (by omega), e0]
      by_cases hc : c = 37
      · rw [if_pos (by rw [hc]; rfl)]
        obtain ⟨r, hr, hrb⟩ := triple_at k (by omega) s
        rw [hr, decB_pct c t hc, ← hl]
        simp only [Option.bind_some]
        rcases ht : tripB s.data.toList with _ | b
        · rw [ht] at hr
          rw [if_neg (by simp)]
          simp [resR]
        · obtain rfl := hrb b ht
          have h3 : 3 ≤ s.size := by rw [← size_list]; exact tripB_len ht
          have x3 : (s.extract 3 s.size).data.toList = t.drop 2 := by rw [ext_list, hl]; rfl
          rw [if_pos (by simp), if_pos (by rw [nums_length]; omega), if_pos (by omega)]
          have := ih (s.extract 3 s.size) (acc ++ [b]) k (by simp; omega) (by simp; omega) (by omega)
          rw [nums_append] at this
          rw [Option.bind_some, resR_cons, ← x3]
          exact this
      · rw [if_neg (by intro h; apply hc; apply UInt8.toNat_inj.mp; rw [show (37 : UInt8).toNat = 37 from rfl]; omega), if_pos (by rw [nums_length]; omega), if_pos (by omega), decB_one c t hc, resR_cons]
        have := ih (s.extract 1 s.size) (acc ++ [c]) k (by simp; omega) (by simp; omega) (by omega)
        rw [nums_append, x1] at this
        exact this

theorem decode_f (s : ByteArray) (k : Nat) (h : s.size < 140737488355328) (hk : s.size + 4 ≤ k) : pct_Decode.f k s = some (resR (decB s.data.toList) []) :=
  decode_l s.size s [] k (Nat.le_refl _) (by simpa using h) hk

theorem hex_f (c : UInt8) (k : Nat) (hk : 20 ≤ k) : decorumref04_hex.f k (c.toNat : Int) = some (match hexv c.toNat with | some x => (x : Int) | none => -1) := by
  have h0 : ∀ c : Fin 256, decorumref04_hex.f 20 ((c.val : Nat) : Int) = some (match hexv c.val with | some x => (x : Int) | none => -1) := by decide +kernel
  exact at_rounds (decorumref04_hex.mono _) hk (h0 ⟨c.toNat, c.toNat_lt⟩)
theorem free_f (c : UInt8) (k : Nat) (hk : 70 ≤ k) : decorumref04_free.f k (c.toNat : Int) = some (freeN c.toNat) := by
  have h0 : ∀ c : Fin 256, decorumref04_free.f 70 ((c.val : Nat) : Int) = some (freeN c.val) := by decide +kernel
  exact at_rounds (decorumref04_free.mono _) hk (h0 ⟨c.toNat, c.toNat_lt⟩)
theorem in_f (c : UInt8) (k : Nat) (hk : 70 ≤ k) : decorumref04_in.f k (⟨#[33, 36, 38, 39, 40, 41, 42, 43, 44, 59, 61, 58, 64, 47, 63, 91, 93]⟩ : ByteArray) (c.toNat : Int) = some (otherN c.toNat) := by
  have h0 : ∀ c : Fin 256, decorumref04_in.f 70 (⟨#[33, 36, 38, 39, 40, 41, 42, 43, 44, 59, 61, 58, 64, 47, 63, 91, 93]⟩ : ByteArray) ((c.val : Nat) : Int) = some (otherN c.val) := by decide +kernel
  exact at_rounds (decorumref04_in.mono _ _) hk (h0 ⟨c.toNat, c.toNat_lt⟩)
theorem code_f (c : UInt8) : decorumref04_code.f (c.toNat : Int) = some ⟨(codeB c).toArray⟩ := by
  have h0 : ∀ c : Fin 256, decorumref04_code.f ((c.val : Nat) : Int) = some ⟨(codeB (UInt8.ofNat c.val)).toArray⟩ := by decide +kernel
  have := h0 ⟨c.toNat, c.toNat_lt⟩
  simpa using this
theorem bytesOf_code (c : UInt8) : bytesOf ⟨(codeB c).toArray⟩ = nums (codeB c) := rfl

theorem byte_at (s : ByteArray) (i : Nat) (c : UInt8) (t : List UInt8) (h : s.data.toList.drop i = c :: t) : i < s.size ∧ bt s (i : Int) = (c.toNat : Int) ∧ s.data.toList.drop (i + 1) = t := by
  have h1 : i < s.data.toList.length := by
    apply Decidable.byContradiction
    intro hh
    rw [List.drop_of_length_le (by omega)] at h
    cases h
  have h2 := drop_cons s.data.toList i h1
  rw [h2] at h
  injection h with ha hb
  refine ⟨by rw [← size_list]; exact h1, ?_, hb⟩
  rw [bt_list s i h1, ha]
theorem ne37 {c : UInt8} (h : c ≠ 37) : ¬ ((c.toNat : Int) = 37) := by
  intro hh; apply h; apply UInt8.toNat_inj.mp; rw [show (37 : UInt8).toNat = 37 from rfl]; omega
theorem two_hex (x y : Nat) (hx : x < 16) (hy : y < 16) : (wrap64 ((wrap64 (16 * (x : Int))) + (y : Int))) % 256 = (((UInt8.ofNat (16 * x + y)).toNat : Nat) : Int) := by
  rw [wrap_in (16 * (x : Int)) (by omega) (by omega), wrap_in _ (by omega) (by omega)]
  simp

theorem refnorm_l (s : ByteArray) (hs : s.size ≤ 1099511627776) (n : Nat) : ∀ (i : Nat) (acc : List UInt8) (k : Nat), s.size ≤ i + n → i ≤ s.size → acc.length ≤ 3 * i → 2 * n + 80 ≤ k →
    decorumref04_Norm.l0 k s (nums acc) (i : Int) = some (resR (normB (s.data.toList.drop i)) acc) := by
  induction n with
  | zero =>
    intro i acc k hn hi hb hk
    obtain ⟨k, rfl⟩ : ∃ k', k = k' + 1 := ⟨k - 1, by omega⟩
    simp only [decorumref04_Norm.l0]
    rw [if_neg (by omega), List.drop_of_length_le (by rw [size_list]; omega), normB_nil, of_nums]
    simp [resR]
  | succ n ih =>
    intro i acc k hn hi hb hk
    obtain ⟨k, rfl⟩ : ∃ k', k = k' + 1 := ⟨k - 1, by omega⟩
    have hl := size_list s
    simp only [decorumref04_Norm.l0]
    rcases hL : s.data.toList.drop i with _ | ⟨c, t⟩
    · have : s.size ≤ i := by rw [← hl]; exact List.drop_eq_nil_iff.mp hL
      rw [if_neg (by omega), normB_nil, of_nums]
      simp [resR]
    · obtain ⟨h1, e1, hL1⟩ := byte_at s i c t hL
      rw [if_pos (by omega), if_pos (by omega), e1]
      by_cases hc : c = 37
      · rw [if_pos (by rw [hc]; rfl), wrap_in ((i : Int) + 2) (by omega) (by omega), wrap_in ((i : Int) + 1) (by omega) (by omega)]
        have no : ∀ k', 1 ≤ k' → tripB (c :: t) = none → decorumref04_Norm.j1 k' s (nums acc) (i : Int) true = some (resR (normB (c :: t)) acc) := by
          intro k' hk' ht
          obtain ⟨k', rfl⟩ : ∃ k'', k' = k'' + 1 := ⟨k' - 1, by omega⟩
          simp only [decorumref04_Norm.j1]
          rw [normB_pct c t hc, ht]
          rfl
        have hlen : t.length + 1 + i = s.size := by
          have := congrArg List.length hL
          rw [List.length_drop, hl] at this
          simp at this
          omega
        rcases t with _ | ⟨h, _ | ⟨l, u⟩⟩
        · rw [if_pos (by simp at hlen; omega)]; exact no k (by omega) (by simp [tripB])
        · rw [if_pos (by simp at hlen; omega)]; exact no k (by omega) (by simp [tripB])
        · simp only [List.length_cons] at hlen
          obtain ⟨h2, e2, hL2⟩ := byte_at s (i + 1) h (l :: u) hL1
          obtain ⟨h3, e3, hL3⟩ := byte_at s (i + 1 + 1) l u hL2
          rw [show (((i + 1 : Nat)) : Int) = (i : Int) + 1 by omega] at e2
          rw [show (((i + 1 + 1 : Nat)) : Int) = (i : Int) + 2 by omega] at e3
          rw [if_neg (by omega), if_pos (by omega), if_pos (by omega), e2, hex_f h k (by omega), Option.bind_some]
          rcases hx : hexv h.toNat with _ | x
          · rw [if_pos (by simp)]
            exact no k (by omega) (by simp [tripB, hx])
          · simp only
            rw [if_neg (by omega), if_pos (by omega), if_pos (by omega), e3, hex_f l k (by omega), Option.bind_some]
            rcases hy : hexv l.toNat with _ | y
            · simp only
              rw [show decide ((-1 : Int) < 0) = true from rfl]
              exact no k (by omega) (by simp [tripB, hx, hy])
            · simp only
              rw [show decide (((y : Nat) : Int) < 0) = false from decide_eq_false (by omega)]
              obtain ⟨k, rfl⟩ : ∃ k', k = k' + 1 := ⟨k - 1, by omega⟩
              have ht : tripB (c :: h :: l :: u) = some (UInt8.ofNat (16 * x + y)) := by simp [tripB, hx, hy]
              have hu : s.data.toList.drop (i + 3) = u := hL3
              rw [normB_pct c _ hc, ht, Option.bind_some, resR_map]
              simp only [decorumref04_Norm.j1]
              rw [if_neg (by simp), wrap_in ((i : Int) + 2) (by omega) (by omega), wrap_in ((i : Int) + 1) (by omega) (by omega), wrap_in ((i : Int) + 2 + 1) (by omega) (by omega), if_pos (by omega), if_pos (by omega), e2, hex_f h k (by omega), Option.bind_some, if_pos (by omega), if_pos (by omega), e3, hex_f l k (by omega), Option.bind_some, hx, hy]
              simp only
              rw [two_hex x y (hexv_lt hx) (hexv_lt hy), free_f _ k (by omega), Option.bind_some, show (i : Int) + 2 + 1 = ((i + 3 : Nat) : Int) by omega]
              generalize UInt8.ofNat (16 * x + y) = b
              have hob := outB_length b
              have hnext := ih (i + 3) (acc ++ outB b) k (by omega) (by omega) (by rw [List.length_append]; omega) (by omega)
              rw [hu, nums_append] at hnext
              show _ = some (resR (normB u) (acc ++ outB b))
              rw [← hnext]
              by_cases hf : freeN b.toNat = true
              · rw [if_pos hf, if_pos (by rw [nums_length]; omega), outB, if_pos hf]; rfl
              · rw [if_neg hf, code_f b, Option.bind_some, if_pos (by rw [nums_length]; show _ + 3 < _; omega), outB, if_neg hf, bytesOf_code]
      · rw [if_neg (ne37 hc), free_f c k (by omega), Option.bind_some, wrap_in ((i : Int) + 1) (by omega) (by omega), normB_one c t hc, resR_map, show (i : Int) + 1 = ((i + 1 : Nat) : Int) by omega]
        have hob := out1_length c
        have hnext := ih (i + 1) (acc ++ out1 c) k (by omega) (by omega) (by rw [List.length_append]; omega) (by omega)
        rw [hL1, nums_append] at hnext
        rw [← hnext]
        by_cases hf : freeN c.toNat = true
        · rw [if_pos hf, if_pos (by rw [nums_length]; omega), out1, if_pos (by simp [hf])]; rfl
        · rw [if_neg hf, in_f c k (by omega), Option.bind_some]
          by_cases ho : otherN c.toNat = true
          · rw [if_pos ho, if_pos (by rw [nums_length]; omega), out1, if_pos (by simp [ho])]; rfl
          · rw [if_neg ho, code_f c, Option.bind_some, if_pos (by rw [nums_length]; show _ + 3 < _; omega), out1, if_neg (by simp [hf, ho]), bytesOf_code]

theorem refnorm_f (s : ByteArray) (hs : s.size ≤ 1099511627776) (k : Nat) (hk : 2 * s.size + 80 ≤ k) : decorumref04_Norm.f k s = some (resR (normB s.data.toList) []) :=
  refnorm_l s hs s.size 0 [] k (by omega) (by omega) (by simp) hk

theorem refdecode_l (s : ByteArray) (hs : s.size ≤ 1099511627776) (n : Nat) : ∀ (i : Nat) (acc : List UInt8) (k : Nat), s.size ≤ i + n → i ≤ s.size → acc.length ≤ i → 2 * n + 80 ≤ k →
    decorumref04_Decode.l0 k s (nums acc) (i : Int) = some (resR (decB (s.data.toList.drop i)) acc) := by
  induction n with
  | zero =>
    intro i acc k hn hi hb hk
    obtain ⟨k, rfl⟩ : ∃ k', k = k' + 1 := ⟨k - 1, by omega⟩
    simp only [decorumref04_Decode.l0]
    rw [if_neg (by omega), List.drop_of_length_le (by rw [size_list]; omega), decB_nil, of_nums]
    simp [resR]
  | succ n ih =>
    intro i acc k hn hi hb hk
    obtain ⟨k, rfl⟩ : ∃ k', k = k' + 1 := ⟨k - 1, by omega⟩
    have hl := size_list s
    simp only [decorumref04_Decode.l0]
    rcases hL : s.data.toList.drop i with _ | ⟨c, t⟩
    · have : s.size ≤ i := by rw [← hl]; exact List.drop_eq_nil_iff.mp hL
      rw [if_neg (by omega), decB_nil, of_nums]
      simp [resR]
    · obtain ⟨h1, e1, hL1⟩ := byte_at s i c t hL
      rw [if_pos (by omega), if_pos (by omega), e1]
      by_cases hc : c = 37
      · rw [if_pos (by rw [hc]; rfl), wrap_in ((i : Int) + 2) (by omega) (by omega), wrap_in ((i : Int) + 1) (by omega) (by omega)]
        have no : ∀ k', 1 ≤ k' → tripB (c :: t) = none → decorumref04_Decode.j1 k' s (nums acc) (i : Int) true = some (resR (decB (c :: t)) acc) := by
          intro k' hk' ht
          obtain ⟨k', rfl⟩ : ∃ k'', k' = k'' + 1 := ⟨k' - 1, by omega⟩
          simp only [decorumref04_Decode.j1]
          rw [decB_pct c t hc, ht]
          rfl
        have hlen : t.length + 1 + i = s.size := by
          have := congrArg List.length hL
          rw [List.length_drop, hl] at this
          simp at this
          omega
        rcases t with _ | ⟨h, _ | ⟨l, u⟩⟩
        · rw [if_pos (by simp at hlen; omega)]; exact no k (by omega) (by simp [tripB])
        · rw [if_pos (by simp at hlen; omega)]; exact no k (by omega) (by simp [tripB])
        · simp only [List.length_cons] at hlen
          obtain ⟨h2, e2, hL2⟩ := byte_at s (i + 1) h (l :: u) hL1
          obtain ⟨h3, e3, hL3⟩ := byte_at s (i + 1 + 1) l u hL2
          rw [show (((i + 1 : Nat)) : Int) = (i : Int) + 1 by omega] at e2
          rw [show (((i + 1 + 1 : Nat)) : Int) = (i : Int) + 2 by omega] at e3
          rw [if_neg (by omega), if_pos (by omega), if_pos (by omega), e2, hex_f h k (by omega), Option.bind_some]
          rcases hx : hexv h.toNat with _ | x
          · rw [if_pos (by simp)]
            exact no k (by omega) (by simp [tripB, hx])
          · simp only
            rw [if_neg (by omega), if_pos (by omega), if_pos (by omega), e3, hex_f l k (by omega), Option.bind_some]
            rcases hy : hexv l.toNat with _ | y
            · simp only
              rw [show decide ((-1 : Int) < 0) = true from rfl]
              exact no k (by omega) (by simp [tripB, hx, hy])
            · simp only
              rw [show decide (((y : Nat) : Int) < 0) = false from decide_eq_false (by omega)]
              obtain ⟨k, rfl⟩ : ∃ k', k = k' + 1 := ⟨k - 1, by omega⟩
              have ht : tripB (c :: h :: l :: u) = some (UInt8.ofNat (16 * x + y)) := by simp [tripB, hx, hy]
              have hu : s.data.toList.drop (i + 3) = u := hL3
              rw [decB_pct c _ hc, ht, Option.bind_some, resR_cons]
              simp only [decorumref04_Decode.j1]
              rw [if_neg (by simp), wrap_in ((i : Int) + 2) (by omega) (by omega), wrap_in ((i : Int) + 1) (by omega) (by omega), wrap_in ((i : Int) + 2 + 1) (by omega) (by omega), if_pos (by omega), if_pos (by omega), e2, hex_f h k (by omega), Option.bind_some, if_pos (by omega), if_pos (by omega), e3, hex_f l k (by omega), Option.bind_some, hx, hy]
              simp only
              rw [two_hex x y (hexv_lt hx) (hexv_lt hy), show (i : Int) + 2 + 1 = ((i + 3 : Nat) : Int) by omega]
              generalize UInt8.ofNat (16 * x + y) = b
              have hnext := ih (i + 3) (acc ++ [b]) k (by omega) (by omega) (by rw [List.length_append]; simp; omega) (by omega)
              rw [hu, nums_append] at hnext
              show _ = some (resR (decB u) (acc ++ [b]))
              rw [← hnext, if_pos (by rw [nums_length]; omega)]
              rfl
      · rw [if_neg (ne37 hc), wrap_in ((i : Int) + 1) (by omega) (by omega), decB_one c t hc, resR_cons, show (i : Int) + 1 = ((i + 1 : Nat) : Int) by omega]
        have hnext := ih (i + 1) (acc ++ [c]) k (by omega) (by omega) (by rw [List.length_append]; simp; omega) (by omega)
        rw [hL1, nums_append] at hnext
        rw [← hnext, if_pos (by rw [nums_length]; omega)]
        rfl

theorem refdecode_f (s : ByteArray) (hs : s.size ≤ 1099511627776) (k : Nat) (hk : 2 * s.size + 80 ≤ k) : decorumref04_Decode.f k s = some (resR (decB s.data.toList) []) :=
  refdecode_l s hs s.size 0 [] k (by omega) (by omega) (by simp) hk

theorem norm_f (s : ByteArray) (hs : s.size ≤ 1099511627776) : pct_Norm.f s = some (resR (normB s.data.toList) []) := by
  rw [pct_Norm.f, if_pos hs]
  cases normB s.data.toList <;> simp [resR]

theorem awake_ev : ∀ k, 100 ≤ k → decorumlaw04_awake.f k = some true := by
  intro k hk
  exact at_rounds decorumlaw04_awake.mono hk (by decide +kernel)

end Go.Proofs.Ytnbahmjpgjnoaaa.Given
