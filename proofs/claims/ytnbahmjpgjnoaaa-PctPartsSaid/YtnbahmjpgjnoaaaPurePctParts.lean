/- Norm of two texts put together is what Norm answers of each, put together, at all texts. -/
import Derived.Test.YtnbahmjpgjnoaaaQPctPartsx1
import Derived.Test.YtnbahmjpgjnoaaaSaid
namespace Go.Proofs.Ytnbahmjpgjnoaaa.Pure
open Go.RowKit Go.Proofs.Ytnbahmjpgjnoaaa.QPctParts Go.Proofs.Ytnbahmjpgjnoaaa.Given Go.Proofs.Ytnbahmjpgjnoaaa.QBase Go.Proofs.Ytnbahmjpgjnoaaa.QMid Go.Proofs.YtnbahmjpgjnoaaaW.PrintWords Go.Proofs.YtnbahmjpgjnoaaaW.PrintLast
set_option linter.unusedVariables false

theorem parts_no (k : Nat) (hk : 101 ≤ k) (a b : ByteArray) : decorumlaw04_PctParts.j0 k a b true = some true := by
  obtain ⟨k, rfl⟩ : ∃ k', k = k' + 1 := ⟨k - 1, by omega⟩
  simp only [decorumlaw04_PctParts.j0]
  rw [awake_ev k (by omega)]
  rfl
theorem parts (a b : ByteArray) (ha : a.size ≤ 300) (hb : b.size ≤ 300) : decorumlaw04_PctParts.j0 202 a b false = some true := by
  simp only [decorumlaw04_PctParts.j0]
  rw [if_neg (by simp), norm_f a (by omega), norm_f b (by omega)]
  have hla := size_list a
  have hlb := size_list b
  have no : ∀ x y : ByteArray, decorumlaw04_PctParts.j1 201 a b x y true = some true := by
    intro x y
    simp only [decorumlaw04_PctParts.j1]
    rw [awake_ev 200 (by omega)]
    rfl
  rcases hx : normB a.data.toList with _ | x
  · rcases hy : normB b.data.toList with _ | y
    · simp only [resR, Option.bind_some, Bool.false_eq_true, if_false]
      exact no _ _
    · simp only [resR, Option.bind_some, Bool.false_eq_true, if_false]
      exact no _ _
  rcases hy : normB b.data.toList with _ | y
  · simp only [resR, Option.bind_some, if_true, Bool.not_false]
    exact no _ _
  have hz := norm_app a.data.toList.length _ _ x y (Nat.le_refl _) hx hy
  have hlx := (norm_ok a.size _ x (by omega) hx).2
  have hly := (norm_ok b.size _ y (by omega) hy).2
  have hab : (a ++ b).data.toList = a.data.toList ++ b.data.toList := by simp
  have hsz : (a ++ b).size = a.size + b.size := by simp
  simp only [resR, Option.bind_some, List.nil_append, if_true, Bool.not_true]
  simp only [decorumlaw04_PctParts.j1]
  rw [if_neg (by simp), if_pos (by omega), norm_f (a ++ b) (by omega), awake_ev 200 (by omega), hab, hz]
  have hsx : (⟨x.toArray⟩ : ByteArray).size = x.length := rfl
  have hsy : (⟨y.toArray⟩ : ByteArray).size = y.length := rfl
  have e : (⟨(x ++ y).toArray⟩ : ByteArray) = ⟨x.toArray⟩ ++ ⟨y.toArray⟩ := by
    apply ByteArray.ext
    simp
  simp only [resR, Option.bind_some, List.nil_append, if_true]
  rw [if_pos (by omega), e]
  simp
theorem PctParts : decorumlaw04_PctParts.Pure := by
  intro a b ha hb
  refine ⟨202, ?_⟩
  unfold decorumlaw04_PctParts.f
  by_cases h : (a.size : Int) > 300
  · rw [if_pos h]
    exact parts_no 202 (by omega) a b
  · rw [if_neg h]
    by_cases h2 : (b.size : Int) > 300
    · rw [decide_eq_true h2]
      exact parts_no 202 (by omega) a b
    · rw [decide_eq_false h2]
      exact parts a b (by omega) (by omega)

end Go.Proofs.Ytnbahmjpgjnoaaa.Pure
