/- Laws of Norm and Decode, on lists of bytes. -/
import Derived.Test.YtnbahmjpgjnoaaaMid
namespace Go.Proofs.Ytnbahmjpgjnoaaa.Given
theorem code_trip (c : UInt8) (t : List UInt8) : tripB (codeB c ++ t) = some c := by
  have h0 : ∀ c : Fin 256, tripB (codeB (UInt8.ofNat c.val)) = some (UInt8.ofNat c.val) := by decide +kernel
  have h := h0 ⟨c.toNat, c.toNat_lt⟩
  simp only [UInt8.ofNat_toNat] at h
  rw [← h]
  rfl
theorem free_ne (c : UInt8) (h : freeN c.toNat = true) : c ≠ 37 := by
  rintro rfl; exact absurd h (by decide)
theorem other_ne (c : UInt8) (h : otherN c.toNat = true) : c ≠ 37 := by
  rintro rfl; exact absurd h (by decide)
theorem norm_code (c : UInt8) (t : List UInt8) : normB (codeB c ++ t) = (normB t).map (outB c ++ ·) := by
  have h := normB_pct 37 (dig (c.toNat / 16) :: dig (c.toNat % 16) :: t) rfl
  rw [show (37 :: dig (c.toNat / 16) :: dig (c.toNat % 16) :: t : List UInt8) = codeB c ++ t from rfl, code_trip] at h
  exact h
theorem dec_code (c : UInt8) (t : List UInt8) : decB (codeB c ++ t) = (decB t).map (c :: ·) := by
  have h := decB_pct 37 (dig (c.toNat / 16) :: dig (c.toNat % 16) :: t) rfl
  rw [show (37 :: dig (c.toNat / 16) :: dig (c.toNat % 16) :: t : List UInt8) = codeB c ++ t from rfl, code_trip] at h
  exact h
theorem norm_outB (c : UInt8) (t : List UInt8) : normB (outB c ++ t) = (normB t).map (outB c ++ ·) := by
  by_cases h : freeN c.toNat = true
  · have e : outB c = [c] := by rw [outB, if_pos h]
    have e1 : out1 c = [c] := by rw [out1, if_pos (by simp [h])]
    rw [e, List.singleton_append, normB_one c t (free_ne c h), e1]
  · have e : outB c = codeB c := by rw [outB, if_neg h]
    rw [e, norm_code, e]
theorem dec_outB (c : UInt8) (t : List UInt8) : decB (outB c ++ t) = (decB t).map (c :: ·) := by
  by_cases h : freeN c.toNat = true
  · rw [outB, if_pos h, List.singleton_append, decB_one c t (free_ne c h)]
  · rw [outB, if_neg h, dec_code]
theorem norm_out1 (c : UInt8) (t : List UInt8) : normB (out1 c ++ t) = (normB t).map (out1 c ++ ·) := by
  by_cases h : (freeN c.toNat || otherN c.toNat) = true
  · have e1 : out1 c = [c] := by rw [out1, if_pos h]
    have hne : c ≠ 37 := (Bool.or_eq_true _ _ ▸ h).elim (free_ne c) (other_ne c)
    rw [e1, List.singleton_append, normB_one c t hne, e1]
  · have e : out1 c = codeB c := by rw [out1, if_neg h]
    have hf : ¬ freeN c.toNat = true := by intro hh; apply h; simp [hh]
    have e2 : outB c = codeB c := by rw [outB, if_neg hf]
    rw [e, norm_code, e2]
theorem dec_out1 (c : UInt8) (t : List UInt8) : decB (out1 c ++ t) = (decB t).map (c :: ·) := by
  by_cases h : (freeN c.toNat || otherN c.toNat) = true
  · have hne : c ≠ 37 := (Bool.or_eq_true _ _ ▸ h).elim (free_ne c) (other_ne c)
    rw [out1, if_pos h, List.singleton_append, decB_one c t hne]
  · rw [out1, if_neg h, dec_code]

/-- Norm fails where Decode fails; what it answers stays under Norm, and decodes to the same. -/
theorem norm_dec (n : Nat) : ∀ l : List UInt8, l.length ≤ n → (normB l = none ∧ decB l = none) ∨ ∃ t d, normB l = some t ∧ decB l = some d ∧ normB t = some t ∧ decB t = some d := by
  induction n with
  | zero =>
    intro l h
    obtain rfl : l = [] := List.eq_nil_of_length_eq_zero (by omega)
    exact .inr ⟨[], [], normB_nil, decB_nil, normB_nil, decB_nil⟩
  | succ n ih =>
    intro l h
    rcases l with _ | ⟨c, t⟩
    · exact .inr ⟨[], [], normB_nil, decB_nil, normB_nil, decB_nil⟩
    by_cases hc : c = 37
    · rw [normB_pct c t hc, decB_pct c t hc]
      rcases ht : tripB (c :: t) with _ | b
      · exact .inl ⟨rfl, rfl⟩
      · simp only [Option.bind_some]
        rcases ih (t.drop 2) (by simp at h ⊢; omega) with ⟨h1, h2⟩ | ⟨u, d, h1, h2, h3, h4⟩
        · rw [h1, h2]; exact .inl ⟨rfl, rfl⟩
        · rw [h1, h2]
          exact .inr ⟨outB b ++ u, b :: d, rfl, rfl, by rw [norm_outB, h3]; rfl, by rw [dec_outB, h4]; rfl⟩
    · rw [normB_one c t hc, decB_one c t hc]
      rcases ih t (by simp at h ⊢; omega) with ⟨h1, h2⟩ | ⟨u, d, h1, h2, h3, h4⟩
      · rw [h1, h2]; exact .inl ⟨rfl, rfl⟩
      · rw [h1, h2]
        exact .inr ⟨out1 c ++ u, c :: d, rfl, rfl, by rw [norm_out1, h3]; rfl, by rw [dec_out1, h4]; rfl⟩

theorem trip_app (t b : List UInt8) (x : UInt8) (h : tripB t = some x) : tripB (t ++ b) = some x := by
  match t with
  | [] => simp [tripB] at h
  | [_] => simp [tripB] at h
  | [_, _] => simp [tripB] at h
  | _ :: _ :: _ :: _ => rw [← h]; rfl
theorem norm_app (n : Nat) : ∀ (a b x y : List UInt8), a.length ≤ n → normB a = some x → normB b = some y → normB (a ++ b) = some (x ++ y) := by
  induction n with
  | zero =>
    intro a b x y h ha hb
    obtain rfl : a = [] := List.eq_nil_of_length_eq_zero (by omega)
    rw [normB_nil] at ha
    obtain rfl := Option.some.inj ha
    simpa using hb
  | succ n ih =>
    intro a b x y h ha hb
    rcases a with _ | ⟨c, t⟩
    · rw [normB_nil] at ha
      obtain rfl := Option.some.inj ha
      simpa using hb
    by_cases hc : c = 37
    · rw [normB_pct c t hc] at ha
      rcases ht : tripB (c :: t) with _ | z
      · rw [ht] at ha; cases ha
      · have hlen := tripB_len ht
        simp at hlen
        rw [ht, Option.bind_some] at ha
        obtain ⟨u, hu, rfl⟩ := Option.map_eq_some_iff.mp ha
        have := ih (t.drop 2) b u y (by simp at h ⊢; omega) hu hb
        rw [List.cons_append, normB_pct c _ hc, ← List.cons_append, trip_app _ _ _ ht, Option.bind_some, List.drop_append_of_le_length hlen, this]
        simp
    · rw [normB_one c t hc] at ha
      obtain ⟨u, hu, rfl⟩ := Option.map_eq_some_iff.mp ha
      have := ih t b u y (by simp at h ⊢; omega) hu hb
      rw [List.cons_append, normB_one c _ hc, this]
      simp

def okB (c : UInt8) : Bool := decide (32 < c.toNat) && decide (c.toNat < 127) && c != 34 && c != 60 && c != 62 && c != 92 && c != 94 && c != 123 && c != 125 && c != 124 && c != 35 && c != 96
theorem ok_outB (c : UInt8) : (outB c).all okB = true := by
  have h0 : ∀ c : Fin 256, (outB (UInt8.ofNat c.val)).all okB = true := by decide +kernel
  simpa using h0 ⟨c.toNat, c.toNat_lt⟩
theorem ok_out1 (c : UInt8) : (out1 c).all okB = true := by
  have h0 : ∀ c : Fin 256, (out1 (UInt8.ofNat c.val)).all okB = true := by decide +kernel
  simpa using h0 ⟨c.toNat, c.toNat_lt⟩
theorem norm_ok (n : Nat) : ∀ (a x : List UInt8), a.length ≤ n → normB a = some x → x.all okB = true ∧ x.length ≤ 3 * a.length := by
  induction n with
  | zero =>
    intro a x h ha
    obtain rfl : a = [] := List.eq_nil_of_length_eq_zero (by omega)
    rw [normB_nil] at ha
    obtain rfl := Option.some.inj ha
    simp
  | succ n ih =>
    intro a x h ha
    rcases a with _ | ⟨c, t⟩
    · rw [normB_nil] at ha
      obtain rfl := Option.some.inj ha
      simp
    by_cases hc : c = 37
    · rw [normB_pct c t hc] at ha
      rcases ht : tripB (c :: t) with _ | z
      · rw [ht] at ha; cases ha
      · have hlen := tripB_len ht
        simp at hlen
        rw [ht, Option.bind_some] at ha
        obtain ⟨u, hu, rfl⟩ := Option.map_eq_some_iff.mp ha
        have ⟨h1, h2⟩ := ih (t.drop 2) u (by simp at h ⊢; omega) hu
        have h3 := outB_length z
        refine ⟨by rw [List.all_append, ok_outB, h1]; rfl, ?_⟩
        simp at h2 ⊢
        omega
    · rw [normB_one c t hc] at ha
      obtain ⟨u, hu, rfl⟩ := Option.map_eq_some_iff.mp ha
      have ⟨h1, h2⟩ := ih t u (by simp at h ⊢; omega) hu
      have h3 := out1_length c
      refine ⟨by rw [List.all_append, ok_out1, h1]; rfl, ?_⟩
      simp at h2 ⊢
      omega
/-- Each byte with a percent ahead, the first digit small. -/
def lowB (c : UInt8) : List UInt8 := [37, if c.toNat / 16 < 10 then UInt8.ofNat (48 + c.toNat / 16) else UInt8.ofNat (87 + c.toNat / 16), dig (c.toNat % 16)]
theorem low_trip (c : UInt8) (t : List UInt8) : tripB (lowB c ++ t) = some c := by
  have h0 : ∀ c : Fin 256, tripB (lowB (UInt8.ofNat c.val)) = some (UInt8.ofNat c.val) := by decide +kernel
  have h := h0 ⟨c.toNat, c.toNat_lt⟩
  simp only [UInt8.ofNat_toNat] at h
  rw [← h]
  rfl
theorem norm_low (d : List UInt8) : ∃ t, normB (d.flatMap lowB) = some t ∧ decB t = some d := by
  induction d with
  | nil => exact ⟨[], normB_nil, decB_nil⟩
  | cons c d ih =>
    obtain ⟨t, h1, h2⟩ := ih
    refine ⟨outB c ++ t, ?_, by rw [dec_outB, h2]; rfl⟩
    have h := normB_pct 37 ((lowB c).drop 1 ++ d.flatMap lowB) rfl
    rw [show (37 :: ((lowB c).drop 1 ++ d.flatMap lowB) : List UInt8) = lowB c ++ d.flatMap lowB from rfl, low_trip, Option.bind_some] at h
    rw [List.flatMap_cons, h, show ((lowB c).drop 1 ++ d.flatMap lowB).drop 2 = d.flatMap lowB from rfl, h1]
    rfl
end Go.Proofs.Ytnbahmjpgjnoaaa.Given
