/- What a host comes to under failures and one success, in plain numbers; of the law PolicyCalm. -/
import Derived.Test.YtdmebkdikminjaaSpec
namespace Go.Proofs.Ytdmebkdikminjaa.Given
open Go.RowKit Go.Proofs.Ytdmebkdikminjaa.QBase Go.Proofs.YtdmebkdikminjaaW.PrintWords Go.Proofs.YtdmebkdikminjaaW.PrintLast Go.Proofs.YtdmebkdikminjaaW.PrintMore
set_option linter.unusedVariables false
theorem ad_small {a b : Int} (h1 : -1000000000 ≤ a) (h2 : a ≤ 1000000000) (h3 : -1000000000 ≤ b) (h4 : b ≤ 1000000000) : ad a b = a + b := by
  unfold ad; rw [hd_id a (by omega) (by omega), hd_id b (by omega) (by omega), hd_id _ (by omega) (by omega)]
/-- A host that nothing is on its way to. -/
structure CI (cf : Cfg) (d : Int) (p : Pol) (now : Int) (i : Nat) : Prop where
  fl : p.flying = 0
  n : p.n = 0
  A : p.A = .none
  rt : p.retry = 0
  rs : p.reset = 0
  dl : p.delay = d
  g0 : 0 ≤ p.gap
  g1 : p.gap ≤ 70000
  l0 : -1 ≤ p.last
  l1 : p.last ≤ now
  t : p.till ≤ now + 1000
  w0 : 0 ≤ now
  w1 : now ≤ i * 100000
structure CC (cf : Cfg) (d : Int) : Prop where
  f0 : 0 ≤ cf.floor
  f1 : cf.floor ≤ 255
  d0 : 0 ≤ d
  d1 : d ≤ 65535
  cap : cf.cap = 1
  base : cf.base = 10
  most : cf.most = 9000
  opn : cf.opn = 700
theorem jit_bd (e draw : Int) (b m : Int) (hm : 0 ≤ m) (hm' : m ≤ 100000) : 0 ≤ jitP (mst b m e) draw ∧ jitP (mst b m e) draw ≤ m := by
  have h1 : 0 ≤ mst b m e ∧ mst b m e ≤ m := by
    unfold mst
    by_cases h : e < 1
    · rw [if_pos h]; omega
    · rw [if_neg h]; generalize dbl _ _ = z; unfold mx mn; omega
  unfold jitP
  have hc : cw (mst b m e) = mst b m e := by unfold cw mx mn; omega
  rw [hc]
  have hd' := cd_bd draw
  generalize cd draw = D at *
  generalize mst b m e = w at *
  unfold jit
  have hp := mul_bd (a := w - w / 2) (A := w - w / 2) (b := D) (B := 1000) (by omega) (by omega) hd'.1 hd'.2
  generalize (w - w / 2) * D = P at *
  omega
section
variable {cf : Cfg} {d : Int} {p : Pol} {now : Int} {i : Nat}
theorem CI.elig (h : CI cf d p now i) (hc : CC cf d) (hi : i ≤ 40) : 0 ≤ eligP cf p ∧ eligP cf p ≤ now + 71000 := by
  obtain ⟨h1, h2, h3, h4, h5, h6, h7, h8, h9, h10, h11, h12, h13⟩ := h
  have := hc.cap
  unfold eligP
  rw [if_neg (by rw [h1, this]; omega), h4, h5]
  have e := ad_small (a := p.last) (b := p.gap) (by omega) (by omega) (by omega) (by omega)
  rw [e]
  simp only []
  split <;> split <;> unfold mx <;> omega
theorem flying1 (h : p.flying = 0) (n : Int) : (sendP p n).flying = 1 := by
  show wrap64 (p.flying + 1) = 1
  rw [h]; exact wrap_in 1 (by decide) (by decide)
theorem CI.sent (h : CI cf d p now i) (hc : CC cf d) (n : Int) : eligP cf (sendP p n) = 4611686018427387903 := by
  unfold eligP
  rw [if_pos (.inl (by rw [flying1 h.fl, hc.cap]; decide))]
theorem least_bd (hc : CC cf d) {q : Pol} (hq : q.delay = d) : leastP cf q = mx (mx cf.floor d) 0 := by unfold leastP; rw [hq]
theorem CI.lost (h : CI cf d p now i) (hc : CC cf d) (hi : i ≤ 40) {n : Int} (hn : now ≤ n) (hn' : n ≤ now + 71000) (draw : Int) :
    CI cf d (lostP cf (sendP p n) (n + 1) draw) n (i + 1) ∧ n + cf.floor ≤ eligP cf (lostP cf (sendP p n) (n + 1) draw) ∧ n + d ≤ eligP cf (lostP cf (sendP p n) (n + 1) draw) := by
  have hs := flying1 h.fl n
  obtain ⟨h1, h2, h3, h4, h5, h6, h7, h8, h9, h10, h11, h12, h13⟩ := h
  obtain ⟨c0, c1, c2, c3, c4, c5, c6, c7⟩ := hc
  have hj := jit_bd (upP (sendP p n).exp) draw cf.base cf.most (by omega) (by omega)
  have hl : leastP cf (landP (sendP p n)) = mx (mx cf.floor d) 0 := by unfold leastP; rw [show (landP (sendP p n)).delay = d from h6]
  have hg : (lostP cf (sendP p n) (n + 1) draw).gap = mx (mx (mx cf.floor d) 0) (jitP (mst cf.base cf.most (upP (sendP p n).exp)) draw) := by
    show mx (leastP cf (landP (sendP p n))) _ = _
    rw [hl]; rfl
  have hf : (lostP cf (sendP p n) (n + 1) draw).flying = 0 := by
    show mx ((sendP p n).flying - 1) 0 = 0
    rw [hs]; rfl
  have ht : (lostP cf (sendP p n) (n + 1) draw).till ≤ n + 1000 := by
    show (brkFail _ _ p.till (n + 1) cf.brk cf.opn).2.2 ≤ _
    unfold brkFail
    rw [c7, ad_small (a := n + 1) (b := 700) (by omega) (by omega) (by omega) (by omega)]
    simp only []
    split
    · show mx p.till (n + 1 + 700) ≤ _
      unfold mx; omega
    · show p.till ≤ _
      omega
  generalize jitP (mst cf.base cf.most (upP (sendP p n).exp)) draw = J at *
  have g0 : 0 ≤ (lostP cf (sendP p n) (n + 1) draw).gap ∧ (lostP cf (sendP p n) (n + 1) draw).gap ≤ 70000 ∧ cf.floor ≤ (lostP cf (sendP p n) (n + 1) draw).gap ∧ d ≤ (lostP cf (sendP p n) (n + 1) draw).gap := by
    rw [hg]; unfold mx; omega
  have hla : (lostP cf (sendP p n) (n + 1) draw).last = n := rfl
  refine ⟨⟨hf, h2, h3, h4, h5, h6, g0.1, g0.2.1, by rw [hla]; omega, by rw [hla]; omega, ht, by omega, by omega⟩, ?_⟩
  have he : n + (lostP cf (sendP p n) (n + 1) draw).gap ≤ eligP cf (lostP cf (sendP p n) (n + 1) draw) := by
    unfold eligP
    rw [if_neg (by rw [hf, c4]; omega), hla]
    rw [ad_small (a := n) (b := (lostP cf (sendP p n) (n + 1) draw).gap) (by omega) (by omega) (by omega) (by omega)]
    simp only [if_pos (show n ≥ 0 by omega)]
    split <;> unfold mx <;> omega
  exact ⟨by omega, by omega⟩
theorem CI.good (h : CI cf d p now i) (hc : CC cf d) (hi : i ≤ 40) {n : Int} (hn : now ≤ n) (hn' : n ≤ now + 100000) (draw : Int) :
    (answerP cf (sendP p n) 1 0 0 (n + 5) draw).state = 0 ∧ (answerP cf (sendP p n) 1 0 0 (n + 5) draw).n = 0 ∧ (answerP cf (sendP p n) 1 0 0 (n + 5) draw).A = .none ∧ eligP cf (answerP cf (sendP p n) 1 0 0 (n + 5) draw) = n + mx cf.floor d := by
  have hs := flying1 h.fl n
  obtain ⟨h1, h2, h3, h4, h5, h6, h7, h8, h9, h10, h11, h12, h13⟩ := h
  obtain ⟨c0, c1, c2, c3, c4, c5, c6, c7⟩ := hc
  have e : answerP cf (sendP p n) 1 0 0 (n + 5) draw = { sendP p n with flying := 0, retry := 0, reset := 0, state := 0, fails := 0, till := 0, exp := 0, gap := mx (mx cf.floor d) 0 } := by
    unfold answerP
    rw [if_neg (by decide)]
    have a1 : (landP (sendP p n)).flying = 0 := by show mx ((sendP p n).flying - 1) 0 = 0; rw [hs]; rfl
    have a2 : mx (sendP p n).retry 0 = 0 := by show mx p.retry 0 = 0; rw [h4]; rfl
    have a3 : mx (sendP p n).reset 0 = 0 := by show mx p.reset 0 = 0; rw [h5]; rfl
    have a4 : leastP cf (sendP p n) = mx (mx cf.floor d) 0 := by unfold leastP; rw [show (sendP p n).delay = d from h6]
    rw [a2, a3, a4]
    have a5 : landP (sendP p n) = { sendP p n with flying := 0 } := by
      unfold landP at a1 ⊢
      simp only [] at a1
      rw [a1]
    rw [a5]
  rw [e]
  refine ⟨rfl, h2, h3, ?_⟩
  unfold eligP
  rw [if_neg (by rw [c4]; simp)]
  have hlast : (sendP p n).last = n := rfl
  simp only [hlast, if_pos (show n ≥ 0 by omega)]
  rw [ad_small (a := n) (b := mx (mx cf.floor d) 0) (by omega) (by omega) (by unfold mx; omega) (by unfold mx; omega)]
  rw [if_neg (by decide)]
  unfold mx; omega
theorem CI.start (hc : CC cf d) : CI cf d (learnP cf (newP cf.floor 0) false false .none 0 0 d 0) 0 0 := by
  obtain ⟨c0, c1, c2, c3, c4, c5, c6, c7⟩ := hc
  have hg : (learnP cf (newP cf.floor 0) false false .none 0 0 d 0).gap = mx (mx cf.floor 0) (mx (mx cf.floor d) 0) := rfl
  exact ⟨rfl, rfl, rfl, rfl, rfl, rfl, by rw [hg]; unfold mx; omega, by rw [hg]; unfold mx; omega, by show (-1 : Int) ≤ -1; omega, by show (-1 : Int) ≤ 0; omega, by show (0 : Int) ≤ 0 + 1000; omega, by omega, by omega⟩
end
end Go.Proofs.Ytdmebkdikminjaa.Given
