/- MatchAny answers true; and what the other laws of Match share. -/
import Derived.Test.YtioafmnobmgdkaaDoorQLawx1
import Derived.Test.YtioafmnobmgdkaaDoorLawP
namespace Go.Proofs.YtioafmnobmgdkaaDoor.Pure
open Go.RowKit Go.Proofs.YtioafmnobmgdkaaDoor.Given Go.Proofs.YtioafmnobmgdkaaDoor.QBase Go.Proofs.YtioafmnobmgdkaaDoor.QMid Go.Proofs.YtioafmnobmgdkaaDoor.QLaw Go.Proofs.YtioafmnobmgdkaaDoor.Glob Go.Proofs.YtioafmnobmgdkaaDoorW.PrintWords Go.Proofs.YtioafmnobmgdkaaDoorW.PrintLast
set_option linter.unusedVariables false
set_option linter.unusedSimpArgs false

theorem cut_f (a : ByteArray) : ∃ b, decorumlaw10_cut.f a = some b ∧ b.size ≤ 100 := by
  unfold decorumlaw10_cut.f
  by_cases h : (a.size : Int) > 100
  · rw [if_pos h, if_pos (by omega), if_pos (by omega)]
    exact ⟨_, rfl, by simp; omega⟩
  · rw [if_neg h]
    exact ⟨_, rfl, by omega⟩
theorem awake_ev (k : Nat) (hk : 100 ≤ k) : decorumlaw10_awake.f k = some true :=
  at_rounds decorumlaw10_awake.mono hk (by decide +kernel)
theorem refmatch_c (a p : ByteArray) (ha : a.size ≤ 100) (hp : p.size ≤ 100) (k : Nat) (hk : 200000 ≤ k) : decorumref09_Match.f k a p = some (matchV a.data.toList p.data.toList) := by
  refine refmatch_f a p (by omega) (by omega) k ?_
  have := Nat.mul_le_mul (show 4 * a.size ≤ 400 by omega) (show 4 * p.size + 4 ≤ 404 by omega)
  omega

theorem MatchAny : decorumlaw10_MatchAny.Pure := by
  intro a0 a1 h0 h1
  obtain ⟨b0, e0, s0⟩ := cut_f a0
  obtain ⟨b1, e1, s1⟩ := cut_f a1
  refine ⟨200001, ?_⟩
  unfold decorumlaw10_MatchAny.f
  rw [e0, Option.bind_some, e1, Option.bind_some, awake_ev 200001 (by omega), Option.bind_some, if_pos rfl, match_f b0 b1 (by omega) (by omega), Option.bind_some, refmatch_c b0 b1 s0 s1 200001 (by omega), Option.bind_some]
  simp

theorem ext_take (s : ByteArray) (j : Nat) : (s.extract 0 j).data.toList = s.data.toList.take j := Lib.extract_from_zero s j
theorem ext_drop (s : ByteArray) (j : Nat) : (s.extract j s.size).data.toList = s.data.toList.drop j := Lib.extract_to_end s j
theorem app_list (a b : ByteArray) : (a ++ b).data.toList = a.data.toList ++ b.data.toList := by simp
theorem app_size (a b : ByteArray) : (a ++ b).size = a.size + b.size := by simp [ByteArray.size_append]
theorem mem_of_at {P : UInt8 → Prop} (s : ByteArray) (h : ∀ j c, j < s.size → s.data.toList[j]? = some c → P c) : ∀ c ∈ s.data.toList, P c := by
  intro c hc
  obtain ⟨j, hj⟩ := List.mem_iff_getElem?.mp hc
  have : j < s.data.toList.length := (List.getElem?_eq_some_iff.mp hj).1
  exact h j c (by rw [← size_list]; exact this) hj
theorem ne_of {c : UInt8} {n : Nat} (d : UInt8) (hd : d.toNat = n) (h : ¬ ((c.toNat : Int) = (n : Int))) : c ≠ d := by
  rintro rfl; exact h (by rw [hd])

end Go.Proofs.YtioafmnobmgdkaaDoor.Pure
