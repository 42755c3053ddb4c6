/- Each byte of what Norm answers may stand there, and it is at most three times as long, at every text. -/
import Derived.Test.YtnbahmjpgjnoaaaQPctPlainx1
import Derived.Test.YtnbahmjpgjnoaaaSaid
namespace Go.Proofs.Ytnbahmjpgjnoaaa.Pure
open Go.RowKit Go.Proofs.Ytnbahmjpgjnoaaa.QPctPlain Go.Proofs.Ytnbahmjpgjnoaaa.Given Go.Proofs.Ytnbahmjpgjnoaaa.QBase Go.Proofs.Ytnbahmjpgjnoaaa.QMid Go.Proofs.YtnbahmjpgjnoaaaW.PrintWords Go.Proofs.YtnbahmjpgjnoaaaW.PrintLast
set_option linter.unusedVariables false

theorem plain_l (s x : ByteArray) (hs : s.size ≤ 1000) (hx : x.data.toList.all okB = true) (hl : x.size ≤ 3 * s.size) (n : Nat) : ∀ (i k : Nat), x.size ≤ i + n → i ≤ x.size → n + 101 ≤ k →
    decorumlaw04_PctPlain.l0 k s x (i : Int) = some true := by
  induction n with
  | zero =>
    intro i k h1 h2 hk
    obtain ⟨k, rfl⟩ : ∃ k', k = k' + 1 := ⟨k - 1, by omega⟩
    simp only [decorumlaw04_PctPlain.l0]
    rw [if_neg (by omega), awake_ev k (by omega), wrap_in _ (by omega) (by omega)]
    simp
    omega
  | succ n ih =>
    intro i k h1 h2 hk
    obtain ⟨k, rfl⟩ : ∃ k', k = k' + 1 := ⟨k - 1, by omega⟩
    simp only [decorumlaw04_PctPlain.l0]
    by_cases h : (i : Int) < (x.size : Int)
    · have hlt : i < x.data.toList.length := by rw [size_list]; omega
      have hb := bt_list x i hlt
      have hok := List.all_eq_true.mp hx _ (List.getElem_mem hlt)
      rw [if_pos h, if_pos (by omega), hb, wrap_in _ (by omega) (by omega)]
      generalize x.data.toList[i] = c at hok
      simp only [okB, Bool.and_eq_true, decide_eq_true_eq, bne_iff_ne, ne_eq, ← UInt8.toNat_inj] at hok
      obtain ⟨⟨⟨⟨⟨⟨⟨⟨⟨⟨⟨g1, g2⟩, g3⟩, g4⟩, g5⟩, g6⟩, g7⟩, g8⟩, g9⟩, g10⟩, g11⟩, g12⟩ := hok
      simp at g3 g4 g5 g6 g7 g8 g9 g10 g11 g12
      iterate 12 rw [if_neg (by omega)]
      exact ih (i + 1) k (by omega) (by omega) (by omega)
    · rw [if_neg h, awake_ev k (by omega), wrap_in _ (by omega) (by omega)]
      simp
      omega
theorem plain (s : ByteArray) (hs : s.size ≤ 1000) : decorumlaw04_PctPlain.j0 4001 s = some true := by
  simp only [decorumlaw04_PctPlain.j0]
  have hl := size_list s
  rw [norm_f s (by omega), Option.bind_some]
  rcases hx : normB s.data.toList with _ | x
  · exact plain_l s _ hs rfl (Nat.zero_le _) 0 0 4000 (Nat.le_refl _) (Nat.le_refl _) (by omega)
  · have ⟨h1, h2⟩ := norm_ok s.size _ x (by omega) hx
    have hsx : (⟨x.toArray⟩ : ByteArray).size = x.length := rfl
    exact plain_l s ⟨x.toArray⟩ hs h1 (by omega) 3000 0 4000 (by omega) (by omega) (by omega)
theorem PctPlain : decorumlaw04_PctPlain.Pure := by
  intro a0 ha
  refine ⟨4001, ?_⟩
  unfold decorumlaw04_PctPlain.f
  by_cases h : (a0.size : Int) > 1000
  · rw [if_pos h, if_pos (by omega), if_pos (by omega)]
    exact plain _ (by simp; omega)
  · rw [if_neg h]
    exact plain _ (by omega)

end Go.Proofs.Ytnbahmjpgjnoaaa.Pure
