/- LinesTexts: the plain law. -/
import Derived.Test.YthbmedhejlhclaaDoorQTxtx2
import Derived.Test.YthbmedhejlhclaaDoorPureT
namespace Go.Proofs.YthbmedhejlhclaaDoor.Pure
open Go Go.RowKit Go.Proofs.YthbmedhejlhclaaDoor.QBase Go.Proofs.YthbmedhejlhclaaDoor.Given Go.Proofs.YthbmedhejlhclaaDoor.QTxt Go.Proofs.YthbmedhejlhclaaDoorW.PrintWords Go.Proofs.YthbmedhejlhclaaDoorW.PrintLast
set_option linter.unusedVariables false
set_option linter.unusedSimpArgs false

theorem awake_f : decorumlaw09_awake.f = some true := by decide +kernel
theorem texts_j (a : ByteArray) (ha : a.size ≤ 3000) : ∃ k, decorumlaw09_LinesTexts.j0 k a = some true := by
  have h1 := parse_f a (by omega)
  have h4 := cut_4096 a
  obtain ⟨s1, s2⟩ := parse_small _ h4
  have h2 : ∀ k, 30000 ≤ k → decorumref09_Parse.f k a = some ((parseV (cut4096 a).data.toList).map conv) := fun k hk => ref_parse a k hk
  clear h4
  generalize parseV (cut4096 a).data.toList = X at h1 h2 s1 s2
  obtain ⟨g1, g2⟩ := groups_small X s1
  obtain ⟨K, hK⟩ := alike_f (groupsV X) g1 g2
  refine ⟨K + 30000 + 1, ?_⟩
  rw [decorumlaw09_LinesTexts.j0, awake_f, Option.bind_some, if_pos rfl, h1, Option.bind_some, groups_f X s1 s2, Option.bind_some, h2 _ (by omega), Option.bind_some, refgroups_f X s1 s2, Option.bind_some, hK _ (by omega)]
  rfl
theorem LinesTexts : decorumlaw09_LinesTexts.Pure := by
  intro a0 h0
  by_cases h : (a0.size : Int) > 3000
  · obtain ⟨k, hk⟩ := texts_j (a0.extract 0 3000) (by simp only [ByteArray.size_extract]; omega)
    exact ⟨k, by rw [decorumlaw09_LinesTexts.f, if_pos h, if_pos (by omega), if_pos (by omega), hk]⟩
  · obtain ⟨k, hk⟩ := texts_j a0 (by omega)
    exact ⟨k, by rw [decorumlaw09_LinesTexts.f, if_neg h, hk]⟩
end Go.Proofs.YthbmedhejlhclaaDoor.Pure
