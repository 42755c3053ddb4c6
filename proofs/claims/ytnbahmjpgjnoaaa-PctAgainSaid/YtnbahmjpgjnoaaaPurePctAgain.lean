/- What Norm answers stays under Norm, and decodes to the same, at every text. -/
import Derived.Test.YtnbahmjpgjnoaaaQPctAgainx1
import Derived.Test.YtnbahmjpgjnoaaaSaid
namespace Go.Proofs.Ytnbahmjpgjnoaaa.Pure
open Go.RowKit Go.Proofs.Ytnbahmjpgjnoaaa.QPctAgain Go.Proofs.Ytnbahmjpgjnoaaa.Given Go.Proofs.Ytnbahmjpgjnoaaa.QBase Go.Proofs.Ytnbahmjpgjnoaaa.QMid Go.Proofs.YtnbahmjpgjnoaaaW.PrintWords Go.Proofs.YtnbahmjpgjnoaaaW.PrintLast
set_option linter.unusedVariables false

theorem again (s : ByteArray) (hs : s.size ≤ 1000) : decorumlaw04_PctAgain.j0 9001 s = some true := by
  simp only [decorumlaw04_PctAgain.j0]
  have hl := size_list s
  rw [norm_f s (by omega), decode_f s 9000 (by omega) (by omega), awake_ev 9000 (by omega)]
  rcases norm_dec s.size s.data.toList (by omega) with ⟨h1, h2⟩ | ⟨t, d, h1, h2, h3, h4⟩
  · rw [h1, h2]
    simp only [resR, Option.bind_some]
    rw [if_neg (by simp)]
    decide +kernel
  · have ht := (norm_ok s.size _ t (by omega) h1).2
    have h3' : normB (⟨t.toArray⟩ : ByteArray).data.toList = some t := h3
    have h4' : decB (⟨t.toArray⟩ : ByteArray).data.toList = some d := h4
    have hts : (⟨t.toArray⟩ : ByteArray).size = t.length := rfl
    rw [h1, h2]
    simp only [resR, List.nil_append, Option.bind_some, if_true]
    rw [norm_f _ (by omega), decode_f _ 9000 (by omega) (by omega), h3', h4']
    simp [resR]
theorem PctAgain : decorumlaw04_PctAgain.Pure := by
  intro a0 ha
  refine ⟨9001, ?_⟩
  unfold decorumlaw04_PctAgain.f
  by_cases h : (a0.size : Int) > 1000
  · rw [if_pos h, if_pos (by omega), if_pos (by omega)]
    exact again _ (by simp; omega)
  · rw [if_neg h]
    exact again _ (by omega)

end Go.Proofs.Ytnbahmjpgjnoaaa.Pure
