/- LinesParses: the plain law. -/
import Derived.Test.YthbmedhejlhclaaDoorQLawx3
import Derived.Test.YthbmedhejlhclaaDoorPureS
namespace Go.Proofs.YthbmedhejlhclaaDoor.Pure
open Go Go.RowKit Go.Proofs.YthbmedhejlhclaaDoor.QBase Go.Proofs.YthbmedhejlhclaaDoor.Given Go.Proofs.YthbmedhejlhclaaDoor.QLaw Go.Proofs.YthbmedhejlhclaaDoorW.PrintWords Go.Proofs.YthbmedhejlhclaaDoorW.PrintLast
set_option linter.unusedVariables false
set_option linter.unusedSimpArgs false

theorem awake_f : decorumlaw09_awake.f = some true := by decide +kernel
theorem parses_loop (x : List S28) (hx : x.length < 1000000) : ∀ (m i k : Nat), x.length - i = m → i ≤ x.length → m + 1 ≤ k → decorumlaw09_LinesParses.l0 k x x (i : Int) = some true := by
  intro m
  induction m with
  | zero =>
    intro i k h1 h2 h3
    obtain ⟨k, rfl⟩ : ∃ k', k = k' + 1 := ⟨k - 1, by omega⟩
    rw [decorumlaw09_LinesParses.l0, if_neg (by omega), awake_f]
    rfl
  | succ m ih =>
    intro i k h1 h2 h3
    obtain ⟨k, rfl⟩ : ∃ k', k = k' + 1 := ⟨k - 1, by omega⟩
    have hw := i1 i (by omega)
    have same : ∀ p : S28, ((!(p.f0.toList == p.f0.toList) || (!(p.f1.toList == p.f1.toList))) = true) = False := by intro p; simp
    rw [decorumlaw09_LinesParses.l0, if_pos (by omega), if_pos (by omega), if_pos (by omega), if_neg (by rw [same]; exact id), hw.out]
    exact ih (i + 1) k (by omega) (by omega) (by omega)
theorem cut_list (a : ByteArray) : (cut4096 a).data.toList.length ≤ 4096 := by
  show (Lib.trimPrefix (a.extract 0 (min a.size 4096)).data.toList [239, 187, 191]).length ≤ 4096
  have h1 : (a.extract 0 (min a.size 4096)).data.toList.length ≤ 4096 := by
    rw [Lib.extract_data, List.length_take]; omega
  unfold Lib.trimPrefix
  split
  · rw [List.length_drop]; omega
  · exact h1
theorem plen (l : List UInt8) : (parseV l).length ≤ l.length + 1 := by
  unfold parseV
  exact Nat.le_trans (List.length_filterMap_le _ _) (spl_len l [])
theorem parses_j (a : ByteArray) (ha : a.size ≤ 6000) : decorumlaw09_LinesParses.j0 40001 a = some true := by
  have h1 := parse_f a (by omega)
  have h2 := ref_parse a 40000 (by omega)
  have h3 := plen (cut4096 a).data.toList
  have h4 := cut_list a
  have hX : (parseV (cut4096 a).data.toList).length ≤ 4097 := by omega
  clear h3 h4
  generalize parseV (cut4096 a).data.toList = X at h1 h2 hX
  have h5 := pairs_f X (by omega) 40000 (by omega)
  have h6 := parses_loop (X.map conv) (by rw [List.length_map]; omega) _ 0 40000 rfl (Nat.zero_le _) (by rw [List.length_map]; omega)
  rw [show ((0 : Nat) : Int) = 0 from rfl] at h6
  rw [decorumlaw09_LinesParses.j0, h1, Option.bind_some, h5, Option.bind_some, h2, Option.bind_some]
  refine (if_pos rfl).trans ?_
  exact h6
theorem LinesParses : decorumlaw09_LinesParses.Pure := by
  intro a0 h0
  refine ⟨40001, ?_⟩
  unfold decorumlaw09_LinesParses.f
  by_cases h : (a0.size : Int) > 6000
  · rw [if_pos h, if_pos (by omega), if_pos (by omega), parses_j _ (by simp only [ByteArray.size_extract]; omega)]
  · rw [if_neg h, parses_j a0 (by omega)]
end Go.Proofs.YthbmedhejlhclaaDoor.Pure
