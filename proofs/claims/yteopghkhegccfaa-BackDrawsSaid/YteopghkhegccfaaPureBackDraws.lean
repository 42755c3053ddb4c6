/- BackDraws: for any two uint32 and any two draws, a greater draw or a longer wait gives no shorter part, and no part is longer than the wait; no condition. -/
import Derived.Test.YteopghkhegccfaaQBackDrawsx1
namespace Go.Proofs.Yteopghkhegccfaa.Pure
open Go.RowKit Go.Proofs.Yteopghkhegccfaa.QBackDraws Go.Proofs.YteopghkhegccfaaW.PrintWords Go.Proofs.YteopghkhegccfaaW.PrintLast Go.Proofs.YteopghkhegccfaaW.PrintMore
set_option linter.unusedVariables false
namespace BackDraws
theorem bd_u8 {n : Int} (h : (Lit.int .u8 n).wf = true) : 0 ≤ n ∧ n ≤ 255 := by
  simp [Lit.wf, IntKind.min, IntKind.max, IntKind.signed, IntKind.bits] at h
  omega
theorem bd_u16 {n : Int} (h : (Lit.int .u16 n).wf = true) : 0 ≤ n ∧ n ≤ 65535 := by
  simp [Lit.wf, IntKind.min, IntKind.max, IntKind.signed, IntKind.bits] at h
  omega
theorem bd_u32 {n : Int} (h : (Lit.int .u32 n).wf = true) : 0 ≤ n ∧ n ≤ 4294967295 := by
  simp [Lit.wf, IntKind.min, IntKind.max, IntKind.signed, IntKind.bits] at h
  omega
theorem bd_i64 {n : Int} (h : (Lit.int .i64 n).wf = true) : -9223372036854775808 ≤ n ∧ n ≤ 9223372036854775807 := by
  simp [Lit.wf, IntKind.min, IntKind.max, IntKind.signed, IntKind.bits] at h
  omega
def hd (a : Int) : Int := mx (-4611686018427387903) (mn a 4611686018427387903)
def ad (a b : Int) : Int := hd (hd a + hd b)
theorem wrap_in (n : Int) (h : -9223372036854775808 ≤ n) (h' : n ≤ 9223372036854775807) : wrap64 n = n := by
  unfold wrap64; omega
theorem hd_bd (a : Int) : -4611686018427387903 ≤ hd a ∧ hd a ≤ 4611686018427387903 := by
  unfold hd mx mn; omega
theorem hd_id (a : Int) (h : -4611686018427387903 ≤ a) (h' : a ≤ 4611686018427387903) : hd a = a := by
  unfold hd mx mn; omega
theorem ad_bd (a b : Int) : -4611686018427387903 ≤ ad a b ∧ ad a b ≤ 4611686018427387903 := hd_bd _
theorem held_eq (a : Int) : tick_held.f a = some (hd a) := rfl
theorem add_eq (a b : Int) : tick_Add.f a b = some (ad a b) := by
  have ha := hd_bd a
  have hb := hd_bd b
  unfold tick_Add.f
  simp only [held_eq, Option.bind_some]
  rw [wrap_in _ (by omega) (by omega)]
  rfl
theorem mul_bd {a b A B : Int} (ha : 0 ≤ a) (hA : a ≤ A) (hb : 0 ≤ b) (hB : b ≤ B) : 0 ≤ a * b ∧ a * b ≤ A * B :=
  ⟨Int.mul_nonneg ha hb, Int.mul_le_mul hA hB hb (by omega)⟩
/-- a part of W, by D thousandths of its greater half. -/
def jit (W D : Int) : Int := W / 2 + (W - W / 2) * D / 1000
def cw (w : Int) : Int := mx 0 (mn w 1099511627776)
def cd (d : Int) : Int := mx 0 (mn d 1000)
theorem cw_bd (w : Int) : 0 ≤ cw w ∧ cw w ≤ 1099511627776 := by unfold cw mx mn; omega
theorem cd_bd (d : Int) : 0 ≤ cd d ∧ cd d ≤ 1000 := by unfold cd mx mn; omega
theorem jitter_eq (w d : Int) : back_Jitter.f w d = some (jit (cw w) (cd d)) := by
  have hw := cw_bd w
  have hd' := cd_bd d
  have e1 : mx 0 (mn w 1099511627776) = cw w := rfl
  have e2 : mx 0 (mn d 1000) = cd d := rfl
  unfold back_Jitter.f jit
  rw [e1, e2]
  generalize cw w = W at *
  generalize cd d = D at *
  have hm := mul_bd (a := W - W / 2) (A := 1099511627776) (b := D) (B := 1000) (by omega) (by omega) hd'.1 hd'.2
  generalize (W - W / 2) * D = p at *
  rw [wrap_in p (by omega) (by omega), Int.tdiv_eq_ediv_of_nonneg hm.1, wrap_in (p / 1000) (by omega) (by omega), wrap_in _ (by omega) (by omega)]
theorem up_eq (e : Int) : back_Up.f e = some (mx 0 (mn e 15) + 1) := rfl
theorem awake_ev : ∃ K, ∀ k, K ≤ k → decorumlaw18_awake.f k = some true := Ev.of decorumlaw18_awake.mono (k := 20) (by decide +kernel)
theorem jit_d (W a b : Int) (hW : 0 ≤ W) (h : a ≤ b) : jit W a ≤ jit W b := by
  unfold jit
  have := Int.mul_le_mul_of_nonneg_left h (show 0 ≤ W - W / 2 by omega)
  generalize (W - W / 2) * a = p at *
  generalize (W - W / 2) * b = q at *
  omega
theorem jit_w (V W D : Int) (h : V ≤ W) (hD : 0 ≤ D) : jit V D ≤ jit W D := by
  unfold jit
  have := Int.mul_le_mul_of_nonneg_right (show V - V / 2 ≤ W - W / 2 by omega) hD
  generalize (V - V / 2) * D = p at *
  generalize (W - W / 2) * D = q at *
  omega
theorem jit_hi (W D : Int) (hW : 0 ≤ W) (h1 : D ≤ 1000) : jit W D ≤ W := by
  unfold jit
  have := Int.mul_le_mul_of_nonneg_left h1 (show 0 ≤ W - W / 2 by omega)
  generalize (W - W / 2) * D = p at *
  omega
theorem cd_mono (a b : Int) (h : a ≤ b) : cd a ≤ cd b := by unfold cd mx mn; omega
theorem cw_mono (a b : Int) (h : a ≤ b) : cw a ≤ cw b := by unfold cw mx mn; omega
theorem cw_le (a : Int) (h : 0 ≤ a) : cw a ≤ a := by unfold cw mx mn; omega
theorem j1_eq (k : Nat) (v w p q : Int) (hv : 0 ≤ v) (h : v ≤ w) (hp : p ≤ q) (hK : decorumlaw18_awake.f k = some true) : decorumlaw18_BackDraws.j1 (k + 1) v w p q = some true := by
  simp only [decorumlaw18_BackDraws.j1]
  rw [hK]
  simp only [Option.bind_some, if_true, jitter_eq]
  rw [if_pos (jit_d _ _ _ (cw_bd v).1 (cd_mono p q hp)), if_pos (jit_w _ _ _ (cw_mono v w h) (cd_bd p).1)]
  have h1 := jit_hi (cw w) (cd q) (cw_bd w).1 (cd_bd q).2
  have h2 := cw_le w (by omega)
  rw [decide_eq_true (by omega)]
theorem j0_eq (k : Nat) (v w p q : Int) (hv : 0 ≤ v) (h : v ≤ w) (hK : decorumlaw18_awake.f k = some true) : decorumlaw18_BackDraws.j0 (k + 2) v w p q = some true := by
  simp only [decorumlaw18_BackDraws.j0]
  by_cases hp : p > q
  · rw [if_pos hp]; exact j1_eq k v w q p hv h (by omega) hK
  · rw [if_neg hp]; exact j1_eq k v w p q hv h (by omega) hK
end BackDraws
open BackDraws in
theorem BackDraws : decorumlaw18_BackDraws.Pure := by
  intro a b x y wa wb _ _
  obtain ⟨K, h⟩ := awake_ev
  have ba := bd_u32 wa
  have bb := bd_u32 wb
  refine ⟨K + 2, ?_⟩
  unfold decorumlaw18_BackDraws.f
  rw [wrap_in a (by omega) (by omega), wrap_in b (by omega) (by omega)]
  by_cases hp : a > b
  · rw [if_pos hp]; exact j0_eq K _ _ _ _ (by omega) (by omega) (h K (by omega))
  · rw [if_neg hp]; exact j0_eq K _ _ _ _ (by omega) (by omega) (h K (by omega))

end Go.Proofs.Yteopghkhegccfaa.Pure
