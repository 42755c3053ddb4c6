/- Norm answers as the document's, at every text. -/
import Derived.Test.YtnbahmjpgjnoaaaQPctNormsx1
import Derived.Test.YtnbahmjpgjnoaaaSaid
namespace Go.Proofs.Ytnbahmjpgjnoaaa.Pure
open Go.RowKit Go.Proofs.Ytnbahmjpgjnoaaa.QPctNorms Go.Proofs.Ytnbahmjpgjnoaaa.Given Go.Proofs.Ytnbahmjpgjnoaaa.QBase Go.Proofs.Ytnbahmjpgjnoaaa.QMid Go.Proofs.YtnbahmjpgjnoaaaW.PrintWords Go.Proofs.YtnbahmjpgjnoaaaW.PrintLast
set_option linter.unusedVariables false

theorem PctNorms : decorumlaw04_PctNorms.Pure := by
  intro a0 ha
  refine ⟨5000, ?_⟩
  unfold decorumlaw04_PctNorms.f
  by_cases h : (a0.size : Int) > 1000
  · have hs : (a0.extract 0 1000).size ≤ 1000 := by simp; omega
    rw [if_pos h, if_pos (by omega), if_pos (by omega), norm_f _ (by omega), refnorm_f _ (by omega) 5000 (by omega), awake_ev 5000 (by omega)]
    simp
  · rw [if_neg h, norm_f _ (by omega), refnorm_f _ (by omega) 5000 (by omega), awake_ev 5000 (by omega)]
    simp

end Go.Proofs.Ytnbahmjpgjnoaaa.Pure
