/- BackJitters: for any three ints the program's part of a wait and its count of failures are the document's; no condition. -/
import Derived.Test.YteopghkhegccfaaPBackJittersx1
namespace Go.Proofs.Yteopghkhegccfaa.Pure
open Go.RowKit Go.Proofs.Yteopghkhegccfaa.PBackJitters Go.Proofs.YteopghkhegccfaaW.PrintWords Go.Proofs.YteopghkhegccfaaW.PrintLast Go.Proofs.YteopghkhegccfaaW.PrintMore
set_option linter.unusedVariables false
namespace BackJitters
def hd (a : Int) : Int := mx (-4611686018427387903) (mn a 4611686018427387903)
def ad (a b : Int) : Int := hd (hd a + hd b)
theorem wrap_in (n : Int) (h : -9223372036854775808 ≤ n) (h' : n ≤ 9223372036854775807) : wrap64 n = n := by
  unfold wrap64; omega
theorem hd_bd (a : Int) : -4611686018427387903 ≤ hd a ∧ hd a ≤ 4611686018427387903 := by
  unfold hd mx mn; omega
theorem hd_id (a : Int) (h : -4611686018427387903 ≤ a) (h' : a ≤ 4611686018427387903) : hd a = a := by
  unfold hd mx mn; omega
theorem ad_bd (a b : Int) : -4611686018427387903 ≤ ad a b ∧ ad a b ≤ 4611686018427387903 := hd_bd _
theorem held_eq (a : Int) : tick_held.f a = some (hd a) := rfl
theorem add_eq (a b : Int) : tick_Add.f a b = some (ad a b) := by
  have ha := hd_bd a
  have hb := hd_bd b
  unfold tick_Add.f
  simp only [held_eq, Option.bind_some]
  rw [wrap_in _ (by omega) (by omega)]
  rfl
theorem mul_bd {a b A B : Int} (ha : 0 ≤ a) (hA : a ≤ A) (hb : 0 ≤ b) (hB : b ≤ B) : 0 ≤ a * b ∧ a * b ≤ A * B :=
  ⟨Int.mul_nonneg ha hb, Int.mul_le_mul hA hB hb (by omega)⟩
/-- a part of W, by D thousandths of its greater half. -/
def jit (W D : Int) : Int := W / 2 + (W - W / 2) * D / 1000
def cw (w : Int) : Int := mx 0 (mn w 1099511627776)
def cd (d : Int) : Int := mx 0 (mn d 1000)
theorem cw_bd (w : Int) : 0 ≤ cw w ∧ cw w ≤ 1099511627776 := by unfold cw mx mn; omega
theorem cd_bd (d : Int) : 0 ≤ cd d ∧ cd d ≤ 1000 := by unfold cd mx mn; omega
theorem jitter_eq (w d : Int) : back_Jitter.f w d = some (jit (cw w) (cd d)) := by
  have hw := cw_bd w
  have hd' := cd_bd d
  have e1 : mx 0 (mn w 1099511627776) = cw w := rfl
  have e2 : mx 0 (mn d 1000) = cd d := rfl
  unfold back_Jitter.f jit
  rw [e1, e2]
  generalize cw w = W at *
  generalize cd d = D at *
  have hm := mul_bd (a := W - W / 2) (A := 1099511627776) (b := D) (B := 1000) (by omega) (by omega) hd'.1 hd'.2
  generalize (W - W / 2) * D = p at *
  rw [wrap_in p (by omega) (by omega), Int.tdiv_eq_ediv_of_nonneg hm.1, wrap_in (p / 1000) (by omega) (by omega), wrap_in _ (by omega) (by omega)]
theorem up_eq (e : Int) : back_Up.f e = some (mx 0 (mn e 15) + 1) := rfl
theorem cut_eq (a b c : Int) : decorumref18_cut.f a b c = some (if a < b then b else if a > c then c else a) := by
  unfold decorumref18_cut.f
  split
  · rfl
  · split <;> rfl
theorem awake_ev : ∃ K, ∀ k, K ≤ k → decorumlaw18_awake.f k = some true := Ev.of decorumlaw18_awake.mono (k := 20) (by decide +kernel)
theorem rjit_eq (w d : Int) : decorumref18_Jitter.f w d = some (jit (cw w) (cd d)) := by
  have hw := cw_bd w
  have hd' := cd_bd d
  unfold decorumref18_Jitter.f
  simp only [cut_eq, Option.bind_some]
  have e1 : (if w < 0 then 0 else if w > 1099511627776 then 1099511627776 else w) = cw w := by unfold cw mx mn; omega
  have e2 : (if d < 0 then 0 else if d > 1000 then 1000 else d) = cd d := by unfold cd mx mn; omega
  rw [e1, e2]
  unfold jit
  generalize cw w = W at *
  generalize cd d = D at *
  rw [Int.tdiv_eq_ediv_of_nonneg hw.1, wrap_in (W / 2) (by omega) (by omega), wrap_in (W - W / 2) (by omega) (by omega)]
  have hr : 0 ≤ W - W / 2 ∧ W - W / 2 ≤ 1099511627776 := by omega
  generalize W - W / 2 = R at *
  rw [Int.tdiv_eq_ediv_of_nonneg hr.1, Int.tmod_eq_emod_of_nonneg hr.1, wrap_in (R / 1000) (by omega) (by omega)]
  have h1 := mul_bd (a := R / 1000) (A := 1099511627776) (b := D) (B := 1000) (by omega) (by omega) hd'.1 hd'.2
  have h2 := mul_bd (a := R % 1000) (A := 1000) (b := D) (B := 1000) (by omega) (by omega) hd'.1 hd'.2
  have h3 : R * D = 1000 * (R / 1000 * D) + R % 1000 * D := by
    rw [← Int.mul_assoc, ← Int.add_mul]; congr 1; omega
  rw [h3]
  generalize R / 1000 * D = u at *
  generalize R % 1000 * D = v at *
  rw [wrap_in u (by omega) (by omega), wrap_in v (by omega) (by omega), Int.tdiv_eq_ediv_of_nonneg h2.1, wrap_in (W / 2 + u) (by omega) (by omega), wrap_in (v / 1000) (by omega) (by omega), wrap_in _ (by omega) (by omega)]
  exact congrArg some (by omega)
theorem rup_eq (e : Int) : decorumref18_Up.f e = some (mx 0 (mn e 15) + 1) := by
  unfold decorumref18_Up.f
  simp only [cut_eq, Option.bind_some]
  have e1 : (if e < 0 then 0 else if e > 15 then 15 else e) = mx 0 (mn e 15) := by unfold mx mn; omega
  have e2 : 0 ≤ mx 0 (mn e 15) ∧ mx 0 (mn e 15) ≤ 15 := by unfold mx mn; omega
  rw [e1, wrap_in _ (by omega) (by omega)]
end BackJitters
open BackJitters in
theorem BackJitters : decorumlaw18_BackJitters.Pure := by
  intro w d e _ _ _
  obtain ⟨K, h⟩ := awake_ev
  refine ⟨K, ?_⟩
  unfold decorumlaw18_BackJitters.f
  rw [h _ (by omega), jitter_eq, rjit_eq, up_eq, rup_eq]
  simp

end Go.Proofs.Yteopghkhegccfaa.Pure
