/- How a text is read sign by sign: where a sign's bytes lie, and what is not ASCII. -/
import Derived.WalkKit
import Derived.Lib.OthersKept
namespace Go.Proofs.YthbmedhejlhclaaDoor.Given
open Go.RowKit
set_option linter.unusedVariables false
/-- A sign's bytes lie in the text; those of one beyond ASCII are 128 or more. -/
theorem dec_in (s : ByteArray) (pos : Nat) (h : pos < s.size) :
    1 ≤ (Utf8.decode s pos).2 ∧ pos + (Utf8.decode s pos).2 ≤ s.size ∧ (128 ≤ (s.get! pos).toNat → ∀ i, i < (Utf8.decode s pos).2 → 128 ≤ (s.get! (pos + i)).toNat) := by
  unfold Utf8.decode
  simp only [Nat.add_zero, Bool.and_eq_true, decide_eq_true_eq, beq_iff_eq]
  have one : ∀ x : Nat, 1 ≤ (x, 1).2 ∧ pos + (x, 1).2 ≤ s.size ∧ (128 ≤ (s.get! pos).toNat → ∀ i, i < (x, 1).2 → 128 ≤ (s.get! (pos + i)).toNat) := by
    intro x
    refine ⟨Nat.le_refl _, by simp; omega, fun h1 i hi => ?_⟩
    obtain rfl : i = 0 := by simp at hi; omega
    exact h1
  split
  · exact one _
  split
  · rename_i hc
    split
    · refine ⟨by simp, by simp; omega, fun h1 i hi => ?_⟩
      simp only at hi
      rcases (by omega : i = 0 ∨ i = 1) with rfl | rfl
      · exact h1
      · omega
    · exact one _
  split
  · rename_i hc
    split
    · refine ⟨by simp, by simp; omega, fun h1 i hi => ?_⟩
      simp only at hi
      rcases (by omega : i = 0 ∨ i = 1 ∨ i = 2) with rfl | rfl | rfl
      · exact h1
      · omega
      · omega
    · exact one _
  split
  · rename_i hc
    split
    · refine ⟨by simp, by simp; omega, fun h1 i hi => ?_⟩
      simp only at hi
      rcases (by omega : i = 0 ∨ i = 1 ∨ i = 2 ∨ i = 3) with rfl | rfl | rfl | rfl
      · exact h1
      · omega
      · omega
      · omega
    · exact one _
  · exact one _
theorem dec_pos (s : ByteArray) (pos : Nat) (h : pos < s.size) : 1 ≤ (Utf8.decode s pos).2 := (dec_in s pos h).1
/-- What begins with a byte of 128 or more is no sign below 128. -/
theorem dec_big (s : ByteArray) (pos : Nat) (h : 128 ≤ (s.get! pos).toNat) : 128 ≤ (Utf8.decode s pos).1 := by
  unfold Utf8.decode
  simp only [Nat.add_zero, Bool.and_eq_true, decide_eq_true_eq, beq_iff_eq]
  have e : 128 ≤ Utf8.runeError := by decide
  split
  · omega
  split
  · split
    · assumption
    · exact e
  split
  · split
    · rename_i h1; have := h1.1; simp only; omega
    · exact e
  split
  · split
    · rename_i h1; have := h1.1; simp only; omega
    · exact e
  · exact e
theorem get_list (s : ByteArray) (i : Nat) (h : i < s.size) : s.get! i = s.data.toList[i]'(by simpa using h) := by
  have : s.get! i = s[i]'h := by
    show s.data[i]! = _
    rw [getElem!_pos s.data i h]
    rfl
  rw [this]
  simp
  rfl
end Go.Proofs.YthbmedhejlhclaaDoor.Given
