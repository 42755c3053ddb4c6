/- What a policy keeps, whatever a host says, in plain numbers; of the law PolicyPolite. -/
import Derived.Test.YtdmebkdikminjaaCal20
namespace Go.Proofs.Ytdmebkdikminjaa.Given
open Go.RowKit Go.Proofs.Ytdmebkdikminjaa.QBase Go.Proofs.YtdmebkdikminjaaW.PrintWords Go.Proofs.YtdmebkdikminjaaW.PrintLast Go.Proofs.YtdmebkdikminjaaW.PrintMore
set_option linter.unusedVariables false
structure PC (cf : Cfg) : Prop where
  f0 : 0 ≤ cf.floor
  f1 : cf.floor ≤ 255
  c0 : 1 ≤ cf.cap
  c1 : cf.cap ≤ 3
  base : cf.base = 20
  most : cf.most = 500
  opn : cf.opn = 200
structure PI (cf : Cfg) (p : Pol) (now last delay asked fl : Int) (i : Nat) : Prop where
  hfl : p.flying = fl
  f0 : 0 ≤ fl
  f1 : fl ≤ cf.cap
  n : p.n = 0
  A : p.A = .none
  la : p.last = last
  l0 : -1 ≤ last
  l1 : last ≤ now
  rt : p.retry = asked
  a0 : 0 ≤ asked
  a1 : asked ≤ now + 1000
  rs : p.reset = 0
  dl : p.delay = delay
  d0 : 0 ≤ delay
  d1 : delay ≤ 999
  g0 : cf.floor ≤ p.gap
  gd : delay ≤ p.gap
  g1 : p.gap ≤ 2000
  t : p.till ≤ now + 1000
  w0 : 0 ≤ now
  w1 : now ≤ i * 3000
section
variable {cf : Cfg} {p : Pol} {now last delay asked fl : Int} {i : Nat}
theorem PI.start (hc : PC cf) : PI cf (newP cf.floor 0) 0 (-1) 0 0 0 0 := by
  obtain ⟨c0, c1, c2, c3, c4, c5, c6⟩ := hc
  have hg : (newP cf.floor 0).gap = mx cf.floor 0 := rfl
  exact ⟨rfl, by omega, by omega, rfl, rfl, rfl, by omega, by omega, rfl, by omega, by omega, rfl, rfl, by omega, by omega, by rw [hg]; unfold mx; omega, by rw [hg]; unfold mx; omega, by rw [hg]; unfold mx; omega, by show (0 : Int) ≤ 0 + 1000; omega, by omega, by omega⟩
theorem PI.idle (h : PI cf p now last delay asked fl i) : PI cf p (now + 1) last delay asked fl (i + 1) := by
  obtain ⟨h1, h2, h3, h4, h5, h6, h7, h8, h9, h10, h11, h12, h13, h14, h15, h16, h17, h18, h19, h20, h21⟩ := h
  exact ⟨h1, h2, h3, h4, h5, h6, h7, by omega, h9, h10, by omega, h12, h13, h14, h15, h16, h17, h18, by omega, by omega, by omega⟩
/-- A failure of a host that has one less on its way, at the next moment. -/
theorem PI.failed (hc : PC cf) {q : Pol} {ask : Int} (hi : i ≤ 200) (h4 : q.n = 0) (h5 : q.A = .none) (h6 : q.last = last) (h7 : -1 ≤ last) (h8 : last ≤ now) (h9 : q.retry = ask) (h10 : 0 ≤ ask) (h11 : ask ≤ now + 1001) (h12 : q.reset = 0) (h13 : q.delay = delay) (h14 : 0 ≤ delay) (h15 : delay ≤ 999)
    (h19 : q.till ≤ now + 1000) (h20 : 0 ≤ now) (h21 : now ≤ i * 3000) (hf : q.flying = fl) (hf0 : 0 ≤ fl) (hf1 : fl ≤ cf.cap) (draw : Int) : PI cf (failP cf q (now + 1) draw) (now + 1) last delay ask fl (i + 1) := by
  obtain ⟨c0, c1, c2, c3, c4, c5, c6⟩ := hc
  have hj := jit_bd (upP q.exp) draw cf.base cf.most (by omega) (by omega)
  have hg : (failP cf q (now + 1) draw).gap = mx (mx (mx cf.floor delay) 0) (jitP (mst cf.base cf.most (upP q.exp)) draw) := by
    show mx (leastP cf q) _ = _
    unfold leastP; rw [h13]
  generalize jitP (mst cf.base cf.most (upP q.exp)) draw = J at *
  have ht : (failP cf q (now + 1) draw).till ≤ (now + 1) + 1000 := by
    show (brkFail _ _ q.till (now + 1) cf.brk cf.opn).2.2 ≤ _
    unfold brkFail
    rw [c6, ad_small (a := now + 1) (b := 200) (by omega) (by omega) (by omega) (by omega)]
    simp only []
    split
    · show mx q.till (now + 1 + 200) ≤ _
      unfold mx; omega
    · show q.till ≤ _
      omega
  refine ⟨hf, hf0, hf1, h4, h5, h6, h7, by omega, h9, h10, by omega, h12, h13, h14, h15, ?_, ?_, ?_, ht, by omega, by omega⟩
  all_goals rw [hg]; unfold mx; omega
theorem PI.lost (h : PI cf p now last delay asked fl i) (hc : PC cf) (hi : i ≤ 200) (hf : fl ≠ 0) (draw : Int) : PI cf (lostP cf p (now + 1) draw) (now + 1) last delay asked (fl - 1) (i + 1) := by
  obtain ⟨h1, h2, h3, h4, h5, h6, h7, h8, h9, h10, h11, h12, h13, h14, h15, h16, h17, h18, h19, h20, h21⟩ := h
  have e : (landP p).flying = fl - 1 := by show mx (p.flying - 1) 0 = _; rw [h1]; unfold mx; omega
  exact PI.failed (q := landP p) hc hi h4 h5 h6 h7 h8 h9 h10 (by omega) h12 h13 h14 h15 h19 h20 h21 e (by omega) (by omega) draw
theorem PI.answer (h : PI cf p now last delay asked fl i) (hc : PC cf) (hi : i ≤ 200) (hf : fl ≠ 0) (cls R draw : Int) (hR0 : 0 ≤ R) (hR : R ≤ now + 1001) : PI cf (answerP cf p cls R 0 (now + 1) draw) (now + 1) last delay (mx asked R) (fl - 1) (i + 1) := by
  obtain ⟨h1, h2, h3, h4, h5, h6, h7, h8, h9, h10, h11, h12, h13, h14, h15, h16, h17, h18, h19, h20, h21⟩ := h
  have e : (landP p).flying = fl - 1 := by show mx (p.flying - 1) 0 = _; rw [h1]; unfold mx; omega
  have eR : mx p.retry R = mx asked R := by rw [h9]
  have eS : mx p.reset 0 = 0 := by rw [h12]; rfl
  have hm : 0 ≤ mx asked R ∧ mx asked R ≤ now + 1001 := by unfold mx; omega
  by_cases hk : cls = 3 ∨ cls = 4
  · have e2 : answerP cf p cls R 0 (now + 1) draw = failP cf { landP p with retry := mx p.retry R, reset := mx p.reset 0 } (now + 1) draw := by
      unfold answerP; rw [if_pos hk]
    rw [e2]
    exact PI.failed (q := { landP p with retry := mx p.retry R, reset := mx p.reset 0 }) hc hi h4 h5 h6 h7 h8 eR hm.1 hm.2 eS h13 h14 h15 h19 h20 h21 e (by omega) (by omega) draw
  · have e2 : answerP cf p cls R 0 (now + 1) draw = { landP p with retry := mx p.retry R, reset := mx p.reset 0, state := 0, fails := 0, till := 0, exp := 0, gap := leastP cf p } := by
      unfold answerP; rw [if_neg hk]
    rw [e2]
    obtain ⟨c0, c1, c2, c3, c4, c5, c6⟩ := hc
    have hl : leastP cf p = mx (mx cf.floor delay) 0 := by unfold leastP; rw [h13]
    refine ⟨e, by omega, by omega, h4, h5, h6, h7, by omega, eR, hm.1, by omega, eS, h13, h14, h15, ?_, ?_, ?_, ?_, by omega, by omega⟩
    · show _ ≤ leastP cf p; rw [hl]; unfold mx; omega
    · show _ ≤ leastP cf p; rw [hl]; unfold mx; omega
    · show leastP cf p ≤ _; rw [hl]; unfold mx; omega
    · show (0 : Int) ≤ now + 1 + 1000; omega
theorem PI.learn (h : PI cf p now last delay asked fl i) (hc : PC cf) {d : Int} (hd0 : 0 ≤ d) (hd1 : d ≤ 999) : PI cf (learnP cf p false false .none 0 0 d (now + 1)) (now + 1) last d asked fl (i + 1) := by
  obtain ⟨h1, h2, h3, h4, h5, h6, h7, h8, h9, h10, h11, h12, h13, h14, h15, h16, h17, h18, h19, h20, h21⟩ := h
  obtain ⟨c0, c1, c2, c3, c4, c5, c6⟩ := hc
  have hg : (learnP cf p false false .none 0 0 d (now + 1)).gap = mx p.gap (mx (mx cf.floor d) 0) := rfl
  refine ⟨h1, h2, h3, rfl, rfl, h6, h7, by omega, h9, h10, by omega, h12, rfl, hd0, hd1, ?_, ?_, ?_, by show p.till ≤ _; omega, by omega, by omega⟩
  all_goals rw [hg]; unfold mx; omega
theorem PI.elig (h : PI cf p now last delay asked fl i) (hc : PC cf) (hi : i ≤ 200) :
    (eligP cf p = 4611686018427387903 ∧ (cf.cap ≤ fl ∨ p.state ≠ 0 ∧ 0 < fl)) ∨
    (eligP cf p ≠ 4611686018427387903 ∧ fl < cf.cap ∧ (p.state ≠ 0 → fl = 0) ∧ 0 ≤ eligP cf p ∧ eligP cf p ≤ now + 2001 ∧ asked ≤ eligP cf p ∧ (0 ≤ last → last + p.gap ≤ eligP cf p) ∧ (p.state = 1 → p.till ≤ eligP cf p)) := by
  obtain ⟨h1, h2, h3, h4, h5, h6, h7, h8, h9, h10, h11, h12, h13, h14, h15, h16, h17, h18, h19, h20, h21⟩ := h
  obtain ⟨c0, c1, c2, c3, c4, c5, c6⟩ := hc
  by_cases hN : cf.cap ≤ fl ∨ p.state ≠ 0 ∧ 0 < fl
  · refine .inl ⟨?_, hN⟩
    unfold eligP
    rw [if_pos (by rw [h1]; exact hN)]
  · have e := ad_small (a := p.last) (b := p.gap) (by omega) (by omega) (by omega) (by omega)
    have hE : eligP cf p = if p.state = 1 then mx (if p.last ≥ 0 then mx (mx (mx p.retry p.reset) 0) (ad p.last p.gap) else mx (mx p.retry p.reset) 0) p.till else (if p.last ≥ 0 then mx (mx (mx p.retry p.reset) 0) (ad p.last p.gap) else mx (mx p.retry p.reset) 0) := by
      unfold eligP
      rw [if_neg (by rw [h1]; exact hN)]
    rw [e, h6, h9, h12] at hE
    generalize eligP cf p = E at *
    have key : 0 ≤ E ∧ E ≤ now + 2001 ∧ asked ≤ E ∧ (0 ≤ last → last + p.gap ≤ E) ∧ (p.state = 1 → p.till ≤ E) := by
      subst hE
      by_cases a : p.state = 1 <;> by_cases b : last ≥ 0
      · rw [if_pos a, if_pos b]; unfold mx; omega
      · rw [if_pos a, if_neg b]; unfold mx; omega
      · rw [if_neg a, if_pos b]; unfold mx; omega
      · rw [if_neg a, if_neg b]; unfold mx; omega
    obtain ⟨k1, k2, k3, k4, k5⟩ := key
    exact .inr ⟨by omega, by omega, fun hs => by
      rcases (by omega : fl = 0 ∨ 0 < fl) with z | z
      · exact z
      · exact absurd (.inr ⟨hs, z⟩) hN, k1, k2, k3, k4, k5⟩
theorem PI.send (h : PI cf p now last delay asked fl i) (hc : PC cf) (hf : fl < cf.cap) {n : Int} (h0 : now + 1 ≤ n) (h1' : n ≤ now + 2001) (ha : asked ≤ n) : PI cf (sendP p n) n n delay asked (fl + 1) (i + 1) := by
  obtain ⟨h1, h2, h3, h4, h5, h6, h7, h8, h9, h10, h11, h12, h13, h14, h15, h16, h17, h18, h19, h20, h21⟩ := h
  obtain ⟨c0, c1, c2, c3, c4, c5, c6⟩ := hc
  have e : (sendP p n).flying = fl + 1 := by
    show wrap64 (p.flying + 1) = _
    rw [h1, wrap_in _ (by omega) (by omega)]
  exact ⟨e, by omega, by omega, h4, h5, rfl, by omega, by omega, h9, h10, by omega, h12, h13, h14, h15, h16, h17, h18, by show p.till ≤ _; omega, by omega, by omega⟩
end
theorem tmod_bd (x : Int) : -999 ≤ x.tmod 1000 ∧ x.tmod 1000 ≤ 999 := by
  rcases (by omega : 0 ≤ x ∨ x < 0) with h | h
  · rw [Int.tmod_eq_emod_of_nonneg h]; omega
  · have : x.tmod 1000 = -((-x) % 1000) := by
      rw [← Int.tmod_eq_emod_of_nonneg (by omega : (0 : Int) ≤ -x), Int.neg_tmod, Int.neg_neg]
    omega
def absP (x : Int) : Int := if x < 0 then -x else x
theorem abs_bd (x : Int) : 0 ≤ absP (x.tmod 1000) ∧ absP (x.tmod 1000) ≤ 999 := by
  have := tmod_bd x
  unfold absP
  split <;> omega
end Go.Proofs.Ytdmebkdikminjaa.Given
