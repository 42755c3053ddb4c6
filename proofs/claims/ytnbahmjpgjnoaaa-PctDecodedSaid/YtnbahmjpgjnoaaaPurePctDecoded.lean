/- What Decode answers, coded and normalized, decodes to the same, at every text. -/
import Derived.Test.YtnbahmjpgjnoaaaQPctDecodedx1
import Derived.Test.YtnbahmjpgjnoaaaSaid
namespace Go.Proofs.Ytnbahmjpgjnoaaa.Pure
open Go.RowKit Go.Proofs.Ytnbahmjpgjnoaaa.QPctDecoded Go.Proofs.Ytnbahmjpgjnoaaa.Given Go.Proofs.Ytnbahmjpgjnoaaa.QBase Go.Proofs.Ytnbahmjpgjnoaaa.QMid Go.Proofs.YtnbahmjpgjnoaaaW.PrintWords Go.Proofs.YtnbahmjpgjnoaaaW.PrintLast
set_option linter.unusedVariables false

theorem dec_len (n : Nat) : ∀ (a x : List UInt8), a.length ≤ n → decB a = some x → x.length ≤ a.length := by
  induction n with
  | zero =>
    intro a x h ha
    obtain rfl : a = [] := List.eq_nil_of_length_eq_zero (by omega)
    rw [decB_nil] at ha
    obtain rfl := Option.some.inj ha
    simp
  | succ n ih =>
    intro a x h ha
    rcases a with _ | ⟨c, t⟩
    · rw [decB_nil] at ha
      obtain rfl := Option.some.inj ha
      simp
    by_cases hc : c = 37
    · rw [decB_pct c t hc] at ha
      rcases ht : tripB (c :: t) with _ | z
      · rw [ht] at ha; cases ha
      · rw [ht, Option.bind_some] at ha
        obtain ⟨u, hu, rfl⟩ := Option.map_eq_some_iff.mp ha
        have := ih (t.drop 2) u (by simp at h ⊢; omega) hu
        simp at this ⊢
        omega
    · rw [decB_one c t hc] at ha
      obtain ⟨u, hu, rfl⟩ := Option.map_eq_some_iff.mp ha
      have := ih t u (by simp at h ⊢; omega) hu
      simp at this ⊢
      omega
theorem low_at (c : UInt8) : strOfNums (([37, bt (⟨#[48, 49, 50, 51, 52, 53, 54, 55, 56, 57, 97, 98, 99, 100, 101, 102]⟩ : ByteArray) ((IntKind.u8.wrap (Int.tdiv (c.toNat : Int) 16))), bt (⟨#[48, 49, 50, 51, 52, 53, 54, 55, 56, 57, 65, 66, 67, 68, 69, 70]⟩ : ByteArray) (Int.tmod (c.toNat : Int) 16)] : List Int)) = ⟨(lowB c).toArray⟩ := by
  have h0 : ∀ c : Fin 256, strOfNums (([37, bt (⟨#[48, 49, 50, 51, 52, 53, 54, 55, 56, 57, 97, 98, 99, 100, 101, 102]⟩ : ByteArray) ((IntKind.u8.wrap (Int.tdiv ((c.val : Nat) : Int) 16))), bt (⟨#[48, 49, 50, 51, 52, 53, 54, 55, 56, 57, 65, 66, 67, 68, 69, 70]⟩ : ByteArray) (Int.tmod ((c.val : Nat) : Int) 16)] : List Int)) = ⟨(lowB (UInt8.ofNat c.val)).toArray⟩ := by decide +kernel
  have := h0 ⟨c.toNat, c.toNat_lt⟩
  simpa using this
theorem div_at (c : UInt8) : 0 ≤ (IntKind.u8.wrap (Int.tdiv (c.toNat : Int) 16)) ∧ (IntKind.u8.wrap (Int.tdiv (c.toNat : Int) 16)) < 16 ∧ 0 ≤ Int.tmod (c.toNat : Int) 16 ∧ Int.tmod (c.toNat : Int) 16 < 16 := by
  have h0 : ∀ c : Fin 256, 0 ≤ (IntKind.u8.wrap (Int.tdiv ((c.val : Nat) : Int) 16)) ∧ (IntKind.u8.wrap (Int.tdiv ((c.val : Nat) : Int) 16)) < 16 ∧ 0 ≤ Int.tmod ((c.val : Nat) : Int) 16 ∧ Int.tmod ((c.val : Nat) : Int) 16 < 16 := by decide +kernel
  exact h0 ⟨c.toNat, c.toNat_lt⟩
theorem low_l (d : ByteArray) (hd : d.size ≤ 500) (n : Nat) : ∀ (i k : Nat) (acc : List UInt8), d.size ≤ i + n → i ≤ d.size → n + 6001 ≤ k → acc = (d.data.toList.take i).flatMap lowB →
    decorumlaw04_PctDecoded.l0 k d ⟨acc.toArray⟩ (i : Int) = some true := by
  have fin : ∀ (i k : Nat), d.size ≤ i → 6000 ≤ k → decorumlaw04_PctDecoded.l0 (k + 1) d ⟨((d.data.toList.take i).flatMap lowB).toArray⟩ (i : Int) = some true := by
    intro i k hi hk
    have hld := size_list d
    simp only [decorumlaw04_PctDecoded.l0]
    rw [if_neg (by omega), List.take_of_length_le (by omega)]
    obtain ⟨t, h1, h2⟩ := norm_low d.data.toList
    have hlen : (d.data.toList.flatMap lowB).length = 3 * d.size := by
      rw [← hld]
      generalize d.data.toList = l
      induction l with
      | nil => rfl
      | cons c l ih => rw [List.flatMap_cons, List.length_append, ih]; show 3 + _ = _; simp; omega
    have hs : (⟨(d.data.toList.flatMap lowB).toArray⟩ : ByteArray).size = 3 * d.size := by rw [← hlen]; rfl
    have ht := (norm_ok _ _ t (Nat.le_refl _) h1).2
    have hts : (⟨t.toArray⟩ : ByteArray).size = t.length := rfl
    have h1' : normB (⟨(d.data.toList.flatMap lowB).toArray⟩ : ByteArray).data.toList = some t := h1
    have h2' : decB (⟨t.toArray⟩ : ByteArray).data.toList = some d.data.toList := h2
    rw [norm_f _ (by omega), h1', Option.bind_some]
    simp only [resR, List.nil_append]
    rw [decode_f _ k (by omega) (by omega), h2', awake_ev k (by omega)]
    simp [resR]
  induction n with
  | zero =>
    intro i k acc h1 h2 hk hacc
    obtain ⟨k, rfl⟩ : ∃ k', k = k' + 1 := ⟨k - 1, by omega⟩
    subst hacc
    exact fin i k (by omega) (by omega)
  | succ n ih =>
    intro i k acc h1 h2 hk hacc
    obtain ⟨k, rfl⟩ : ∃ k', k = k' + 1 := ⟨k - 1, by omega⟩
    by_cases h : (i : Int) < (d.size : Int)
    · have hld := size_list d
      have hlt : i < d.data.toList.length := by omega
      have hlen : acc.length ≤ 3 * i := by
        subst hacc
        have := List.length_take_le i d.data.toList
        generalize d.data.toList.take i = l at this
        have e : (l.flatMap lowB).length = 3 * l.length := by
          clear this
          induction l with
          | nil => rfl
          | cons c l ih => rw [List.flatMap_cons, List.length_append, ih]; show 3 + _ = _; simp; omega
        omega
      simp only [decorumlaw04_PctDecoded.l0]
      have hb := bt_list d i hlt
      have hd2 := div_at (d.data.toList[i])
      rw [if_pos h, if_pos (by omega), hb, if_pos hd2.1, if_pos hd2.2.1, if_pos hd2.2.2.1, if_pos hd2.2.2.2, Option.bind_some, low_at]
      have hsz : (⟨acc.toArray⟩ : ByteArray).size = acc.length := rfl
      have hsz2 : (⟨(lowB (d.data.toList[i])).toArray⟩ : ByteArray).size = 3 := rfl
      rw [if_pos (by omega), wrap_in _ (by omega) (by omega)]
      have e : (⟨acc.toArray⟩ : ByteArray) ++ ⟨(lowB (d.data.toList[i])).toArray⟩ = ⟨(acc ++ lowB (d.data.toList[i])).toArray⟩ := by
        apply ByteArray.ext
        simp
      rw [e]
      refine ih (i + 1) k _ (by omega) (by omega) (by omega) ?_
      rw [List.take_add_one, List.getElem?_eq_getElem hlt, hacc]
      simp
    · subst hacc
      exact fin i k (by omega) (by omega)
theorem decoded (k : Nat) (hk : 7000 ≤ k) (s : ByteArray) (hs : s.size ≤ 500) : decorumlaw04_PctDecoded.j0 (k + 1) s = some true := by
  simp only [decorumlaw04_PctDecoded.j0]
  have hl := size_list s
  rw [decode_f s k (by omega) (by omega), Option.bind_some, awake_ev k (by omega)]
  rcases hx : decB s.data.toList with _ | d
  · simp [resR]
  · have hd := dec_len s.size _ d (by omega) hx
    have hsd : (⟨d.toArray⟩ : ByteArray).size = d.length := rfl
    exact low_l ⟨d.toArray⟩ (by omega) 500 0 k [] (by omega) (by omega) (by omega) rfl
theorem PctDecoded : decorumlaw04_PctDecoded.Pure := by
  intro a0 ha
  refine ⟨7001, ?_⟩
  unfold decorumlaw04_PctDecoded.f
  by_cases h : (a0.size : Int) > 500
  · rw [if_pos h, if_pos (by omega), if_pos (by omega)]
    exact decoded 7000 (by omega) _ (by simp; omega)
  · rw [if_neg h]
    exact decoded 7000 (by omega) _ (by omega)

end Go.Proofs.Ytnbahmjpgjnoaaa.Pure
