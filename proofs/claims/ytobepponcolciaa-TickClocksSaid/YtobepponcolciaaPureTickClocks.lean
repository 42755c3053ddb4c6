/- TickClocks: for any list of readings the clock never goes back nor beyond the end; no condition. -/
import Derived.Test.YtobepponcolciaaQTickClocksx2
namespace Go.Proofs.Ytobepponcolciaa.Pure
open Go.RowKit Go.Proofs.Ytobepponcolciaa.QTickClocks Go.Proofs.YtobepponcolciaaW.PrintWords Go.Proofs.YtobepponcolciaaW.PrintLast Go.Proofs.YtobepponcolciaaW.PrintMore
set_option linter.unusedVariables false
namespace TickClocks
def hd (a : Int) : Int := mx (-4611686018427387903) (mn a 4611686018427387903)
def ad (a b : Int) : Int := hd (hd a + hd b)
theorem wrap_in (n : Int) (h : -9223372036854775808 ≤ n) (h' : n ≤ 9223372036854775807) : wrap64 n = n := by
  unfold wrap64; omega
theorem hd_bd (a : Int) : -4611686018427387903 ≤ hd a ∧ hd a ≤ 4611686018427387903 := by
  unfold hd mx mn; omega
theorem hd_id (a : Int) (h : -4611686018427387903 ≤ a) (h' : a ≤ 4611686018427387903) : hd a = a := by
  unfold hd mx mn; omega
theorem ad_bd (a b : Int) : -4611686018427387903 ≤ ad a b ∧ ad a b ≤ 4611686018427387903 := hd_bd _
theorem held_eq (a : Int) : tick_held.f a = some (hd a) := rfl
theorem add_eq (a b : Int) : tick_Add.f a b = some (ad a b) := by
  have ha := hd_bd a
  have hb := hd_bd b
  unfold tick_Add.f
  simp only [held_eq, Option.bind_some]
  rw [wrap_in _ (by omega) (by omega)]
  rfl
theorem awake_ev : ∃ K, ∀ k, K ≤ k → decorumlaw01_awake.f k = some true := Ev.of decorumlaw01_awake.mono (k := 20) (by decide +kernel)
theorem l0_eq (K : Nat) (h : ∀ q, K ≤ q → decorumlaw01_awake.f q = some true) (l : List Int) (hl : l.length ≤ 9223372036854775807) (d : Nat) : ∀ (k : Nat) (now i : Int), 0 ≤ i → i ≤ 100 → 0 ≤ now → now ≤ 1099511627776 → (100 - i).toNat = d → K + 3 * d + 4 < k →
    decorumlaw01_TickClocks.l0 k l now i = some true := by
  have fin : ∀ (k : Nat) (now i : Int), K + 1 < k → decorumlaw01_TickClocks.j1 (k + 1) l now i false = some true := by
    intro k now i hk
    simp only [decorumlaw01_TickClocks.j1]
    rw [if_neg (by decide), h k (by omega)]; rfl
  induction d with
  | zero =>
    intro k now i h0 h1 n0 n1 hd hk
    obtain ⟨k, rfl⟩ : ∃ m, k = m + 2 := ⟨k - 2, by omega⟩
    simp only [decorumlaw01_TickClocks.l0]
    have e : decide (i < 100) = false := decide_eq_false (by omega)
    rw [e]
    by_cases c : i < (l.length : Int)
    · rw [if_pos c]; exact fin k now i (by omega)
    · rw [if_neg c]; exact fin k now i (by omega)
  | succ d ih =>
    intro k now i h0 h1 n0 n1 hd hk
    obtain ⟨k, rfl⟩ : ∃ m, k = m + 3 := ⟨k - 3, by omega⟩
    simp only [decorumlaw01_TickClocks.l0]
    by_cases c : i < (l.length : Int)
    · have e : decide (i < 100) = true := decide_eq_true (by omega)
      rw [if_pos c, e]
      simp only [decorumlaw01_TickClocks.j1, if_true]
      rw [if_pos h0, if_pos c]
      have ec : tick_Clock.f now (rd l i) = some (mx now (mn (rd l i) 1099511627776)) := rfl
      rw [ec]
      simp only [Option.bind_some]
      have key : ∀ w, w = (if rd l i > now then rd l i else now) → decorumlaw01_TickClocks.j2 (k + 1) l i (mx now (mn (rd l i) 1099511627776)) w = some true := by
        intro w hw
        simp only [decorumlaw01_TickClocks.j2]
        have hr : 0 ≤ mx now (mn (rd l i) 1099511627776) ∧ mx now (mn (rd l i) 1099511627776) ≤ 1099511627776 := by unfold mx mn; omega
        have go := ih k (mx now (mn (rd l i) 1099511627776)) (i + 1) (by omega) (by omega) hr.1 hr.2 (by omega) (by omega)
        rw [wrap_in (i + 1) (by omega) (by omega)]
        by_cases g : w > 1099511627776
        · rw [if_pos g, if_pos (by subst hw; unfold mx mn; omega)]; exact go
        · rw [if_neg g, if_pos (by subst hw; unfold mx mn; omega)]; exact go
      by_cases g : rd l i > now
      · rw [if_pos g]; exact key _ (by rw [if_pos g])
      · rw [if_neg g]; exact key _ (by rw [if_neg g])
    · rw [if_neg c]; exact fin (k + 1) now i (by omega)
end TickClocks
open TickClocks in
theorem TickClocks : decorumlaw01_TickClocks.Pure := by
  intro l hl _ _
  obtain ⟨K, h⟩ := awake_ev
  refine ⟨K + 400, ?_⟩
  unfold decorumlaw01_TickClocks.f
  exact l0_eq K h l (by unfold maxLen at hl; omega) 100 (K + 400) 0 0 (by omega) (by omega) (by omega) (by omega) rfl (by omega)

end Go.Proofs.Ytobepponcolciaa.Pure
