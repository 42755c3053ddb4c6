/- policy's and the document's Eligible, Same at two that are one, light, tame: what they answer. -/
import Derived.Test.YtdmebkdikminjaaGivF
import Derived.Test.YtdmebkdikminjaaQMidx
namespace Go.Proofs.Ytdmebkdikminjaa.Given
open Go.RowKit Go.Proofs.Ytdmebkdikminjaa.QBase Go.Proofs.Ytdmebkdikminjaa.QMid Go.Proofs.YtdmebkdikminjaaW.PrintWords Go.Proofs.YtdmebkdikminjaaW.PrintLast Go.Proofs.YtdmebkdikminjaaW.PrintMore
set_option linter.unusedVariables false
set_option linter.unusedSimpArgs false
/-- The rules that a policy holds lie in memory, as this list. -/
def Rl (w : World) (p : Pol) (l : List S55) : Prop := p.n = l.length ∧ l.length ≤ p.c ∧ Kd.C k55 w p.A l.length l
theorem Rl.below {w w' : World} {p : Pol} {l : List S55} (h : Rl w p l) (b : Below w.heap.size w w') : Rl w' p l := ⟨h.1, h.2.1, Kd.C_below h.2.2 b⟩
theorem Rl.of {w : World} {p q : Pol} {l : List S55} (h : Rl w p l) (hn : q.n = p.n) (hc : q.c = p.c) (hA : q.A = p.A) : Rl w q l := ⟨hn.trans h.1, hc ▸ h.2.1, hA ▸ h.2.2⟩

theorem elig_f (cf : Cfg) (p : Pol) (l : List S55) : policy_Eligible.f 1 cf.c0 cf.c1 cf.c2 cf.c3 cf.floor cf.cap cf.base cf.most cf.brk cf.opn cf.c10 cf.c11 cf.keep cf.agent p.last p.gap p.exp p.fails p.state p.till p.retry p.reset p.flying p.known p.all p.none l p.delay = some (eligP cf p) := by
  have key : ∀ b, b = decide (p.flying ≥ cf.cap ∨ p.state ≠ 0 ∧ p.flying > 0) → policy_Eligible.j0 1 b p.last p.gap p.exp p.fails p.state p.till p.retry p.reset p.flying p.known p.all p.none l p.delay = some (eligP cf p) := by
    intro b hb
    simp only [policy_Eligible.j0]
    unfold eligP
    by_cases h : p.flying ≥ cf.cap ∨ p.state ≠ 0 ∧ p.flying > 0
    · rw [if_pos h, hb, decide_eq_true h, if_pos rfl]
    · rw [if_neg h, hb, decide_eq_false h, if_neg (by simp)]
      by_cases h1 : p.last ≥ 0
      · rw [if_pos h1, add_eq]
        simp only [Option.bind_some, if_pos h1]
        by_cases h2 : p.state = 1
        · simp only [if_pos h2]
        · simp only [if_neg h2]
      · rw [if_neg h1]
        simp only [if_neg h1]
        by_cases h2 : p.state = 1
        · simp only [if_pos h2]
        · simp only [if_neg h2]
  unfold policy_Eligible.f
  by_cases h1 : p.flying ≥ cf.cap
  · rw [if_pos h1]; exact key _ (decide_eq_true (.inl h1)).symm
  · rw [if_neg h1]
    by_cases h2 : p.state = 0
    · rw [if_pos h2]; exact key _ (decide_eq_false (by rintro (h | h); exact h1 h; exact h.1 h2)).symm
    · rw [if_neg h2]; exact key _ (by by_cases h3 : p.flying > 0 <;> simp [h1, h2, h3])
theorem l0_eq (d : Nat) : ∀ (k : Nat) (x : Int) (xs : List Int) (i : Int), 0 ≤ i → i ≤ xs.length → (xs.length : Int) - i = d → d < k → xs.length ≤ 1000 →
    decorumref18_Eligible.l0 k x xs i = some ((xs.drop i.toNat).foldl mx x) := by
  induction d with
  | zero =>
    intro k x xs i h0 h1 hd hk _
    obtain ⟨k, rfl⟩ : ∃ m, k = m + 1 := ⟨k - 1, by omega⟩
    simp only [decorumref18_Eligible.l0]
    rw [if_neg (by omega), List.drop_eq_nil_of_le (by omega)]
    rfl
  | succ d ih =>
    intro k x xs i h0 h1 hd hk hl
    obtain ⟨k, rfl⟩ : ∃ m, k = m + 1 := ⟨k - 1, by omega⟩
    simp only [decorumref18_Eligible.l0]
    have hlt : i.toNat < xs.length := by omega
    rw [if_pos (by omega), if_pos h0, wrap_in (i + 1) (by omega) (by omega), List.drop_eq_getElem_cons hlt, List.foldl_cons]
    have e : rd xs i = xs[i.toNat] := by unfold rd; simp [hlt]
    have e2 : i.toNat + 1 = (i + 1).toNat := by omega
    rw [e, e2]
    by_cases h : xs[i.toNat] > x
    · rw [if_pos h, ih k _ xs (i + 1) (by omega) (by omega) (by omega) (by omega) hl]
      have e3 : mx x xs[i.toNat] = xs[i.toNat] := by unfold mx; omega
      rw [e3]
    · rw [if_neg h, ih k _ xs (i + 1) (by omega) (by omega) (by omega) (by omega) hl]
      have e3 : mx x xs[i.toNat] = x := by unfold mx; omega
      rw [e3]
theorem relig_f (cf : Cfg) (p : Pol) (l : List S55) : decorumref18_Eligible.f 10 cf.c0 cf.c1 cf.c2 cf.c3 cf.floor cf.cap cf.base cf.most cf.brk cf.opn cf.c10 cf.c11 cf.keep cf.agent p.last p.gap p.exp p.fails p.state p.till p.retry p.reset p.flying p.known p.all p.none l p.delay = some (eligP cf p) := by
  have e2 : ∀ (a b : Int), ([a, b].drop (0 : Int).toNat).foldl mx 0 = mx (mx a b) 0 := fun a b => by simp only [Int.toNat_zero, List.drop_zero, List.foldl]; unfold mx; omega
  have e3 : ∀ (a b c : Int), ([a, b, c].drop (0 : Int).toNat).foldl mx 0 = mx (mx (mx a b) 0) c := fun a b c => by simp only [Int.toNat_zero, List.drop_zero, List.foldl]; unfold mx; omega
  have e4 : ∀ (a b c d : Int), ([a, b, c, d].drop (0 : Int).toNat).foldl mx 0 = mx (mx (mx (mx a b) 0) c) d := fun a b c d => by simp only [Int.toNat_zero, List.drop_zero, List.foldl]; unfold mx; omega
  have key : ∀ b, b = decide (p.flying ≥ cf.cap ∨ p.state ≠ 0 ∧ p.flying > 0) → decorumref18_Eligible.j0 10 b p.last p.gap p.exp p.fails p.state p.till p.retry p.reset p.flying p.known p.all p.none l p.delay = some (eligP cf p) := by
    intro b hb
    simp only [decorumref18_Eligible.j0]
    unfold eligP
    by_cases h : p.flying ≥ cf.cap ∨ p.state ≠ 0 ∧ p.flying > 0
    · rw [if_pos h, hb, decide_eq_true h, if_pos rfl]
    · rw [if_neg h, hb, decide_eq_false h, if_neg (by simp)]
      simp only [Option.bind_some]
      by_cases h1 : p.last ≥ 0
      · rw [if_pos h1, radd_eq _ _ _ (by decide)]
        simp only [Option.bind_some, if_pos h1]
        rw [if_pos (by simp)]
        simp only [decorumref18_Eligible.j1, decorumref18_Eligible.j2, List.cons_append, List.nil_append]
        by_cases h2 : p.state = 1
        · simp only [if_pos h2]
          rw [if_pos (by simp), l0_eq 4 _ _ _ _ (by decide) (by simp) (by simp) (by decide) (by simp), e4]
        · simp only [if_neg h2]
          rw [l0_eq 3 _ _ _ _ (by decide) (by simp) (by simp) (by decide) (by simp), e3]
      · rw [if_neg h1]
        simp only [if_neg h1]
        simp only [decorumref18_Eligible.j1, decorumref18_Eligible.j2, List.cons_append, List.nil_append]
        by_cases h2 : p.state = 1
        · simp only [if_pos h2]
          rw [if_pos (by simp), l0_eq 3 _ _ _ _ (by decide) (by simp) (by simp) (by decide) (by simp), e3]
        · simp only [if_neg h2]
          rw [l0_eq 2 _ _ _ _ (by decide) (by simp) (by simp) (by decide) (by simp), e2]
  unfold decorumref18_Eligible.f
  by_cases h1 : p.flying ≥ cf.cap
  · rw [if_pos h1]; exact key _ (decide_eq_true (.inl h1)).symm
  · rw [if_neg h1]
    by_cases h2 : p.state = 0
    · rw [if_pos h2]; exact key _ (decide_eq_false (by rintro (h | h); exact h1 h; exact h.1 h2)).symm
    · rw [if_neg h2]; exact key _ (by by_cases h3 : p.flying > 0 <;> simp [h1, h2, h3])
theorem same_l0 (p : Pol) (l : List S55) (d : Nat) : ∀ (k : Nat) (i : Int), 0 ≤ i → i ≤ l.length → (l.length : Int) - i = d → d < k → l.length ≤ 4611686018427387904 →
    decorumref18_Same.l0 k i p.last p.gap p.exp p.fails p.state p.till p.retry p.reset p.flying p.known p.all p.none l p.delay p.last p.gap p.exp p.fails p.state p.till p.retry p.reset p.flying p.known p.all p.none l p.delay p.all p.none l p.delay p.all p.none l p.delay = some true := by
  induction d with
  | zero =>
    intro k i h0 h1 hd hk _
    obtain ⟨k, rfl⟩ : ∃ m, k = m + 1 := ⟨k - 1, by omega⟩
    simp only [decorumref18_Same.l0]
    rw [if_neg (by omega)]
    simp
  | succ d ih =>
    intro k i h0 h1 hd hk hl
    obtain ⟨k, rfl⟩ : ∃ m, k = m + 1 := ⟨k - 1, by omega⟩
    simp only [decorumref18_Same.l0]
    rw [if_pos (by omega), if_pos h0, if_pos (by omega), if_neg (by simp), wrap_in (i + 1) (by omega) (by omega)]
    exact ih k (i + 1) (by omega) (by omega) (by omega) (by omega) hl
theorem same_f (p : Pol) (l : List S55) (hl : l.length ≤ 4611686018427387904) : decorumref18_Same.f (l.length + 3) p.last p.gap p.exp p.fails p.state p.till p.retry p.reset p.flying p.known p.all p.none l p.delay p.last p.gap p.exp p.fails p.state p.till p.retry p.reset p.flying p.known p.all p.none l p.delay = some true := by
  unfold decorumref18_Same.f
  rw [if_neg (by simp), if_neg (by simp), if_pos rfl]
  rw [show l.length + 3 = (l.length + 2) + 1 from rfl]
  simp only [decorumref18_Same.j0]
  rw [if_neg (by simp)]
  exact same_l0 p l l.length _ 0 (by omega) (by omega) (by omega) (by omega) hl
section
variable {cf : Cfg} {p : Pol} {l : List S55} {W : World}
theorem Rl.cells (h : Rl W p l) : p.cells = #[.int .i64 p.last, .int .i64 p.gap, .int .i64 p.exp, .int .i64 p.fails, .int .i64 p.state, .int .i64 p.till, .int .i64 p.retry, .int .i64 p.reset, .int .i64 p.flying, .int .i64 p.known, .bool p.all, .bool p.none, .slice p.A l.length p.c, .int .i64 p.delay] := by rw [← h.1]; rfl
theorem elig_calls (cf : Cfg) (h : Rl W p l) : Calls Try.prog 10 #[.agg cf.cells, .agg p.cells] W fun e w' => e = .returned (.int .i64 (eligP cf p)) ∧ Below W.heap.size W w' := by
  rw [h.cells]
  exact policy_Eligible.calls 1 _ _ _ _ _ _ _ _ _ _ _ _ _ _ _ _ _ _ _ _ _ _ _ _ _ _ _ _ _ _ _ _ h.2.2 h.2.1 (elig_f cf p l)
theorem relig_calls (cf : Cfg) (h : Rl W p l) : Calls Try.prog 11 #[.agg cf.cells, .agg p.cells] W fun e w' => e = .returned (.int .i64 (eligP cf p)) ∧ Below W.heap.size W w' := by
  rw [h.cells]
  exact decorumref18_Eligible.calls 10 _ _ _ _ _ _ _ _ _ _ _ _ _ _ _ _ _ _ _ _ _ _ _ _ _ _ _ _ _ _ _ _ h.2.2 h.2.1 (relig_f cf p l)
theorem same_calls (h : Rl W p l) (hl : l.length ≤ 4611686018427387904) : Calls Try.prog 14 #[.agg p.cells, .agg p.cells] W fun e w' => e = .returned (.bool true) ∧ Below W.heap.size W w' := by
  rw [h.cells]
  exact decorumref18_Same.calls (l.length + 3) _ _ _ _ _ _ _ _ _ _ _ _ _ _ _ _ _ _ _ _ _ _ _ _ _ _ _ _ _ _ _ _ _ _ h.2.2 h.2.1 h.2.2 h.2.1 (same_f p l hl)
theorem light_calls (h : Rl W p l) : Calls Try.prog 12 #[.agg p.cells] W fun e w' => e = .returned (.bool (decide ((l.length : Int) ≤ 100))) ∧ Below W.heap.size W w' := by
  rw [h.cells]
  exact decorumlaw20_light.calls _ _ _ _ _ _ _ _ _ _ _ _ _ _ _ _ _ _ h.2.2 h.2.1 rfl
def tameP (p : Pol) : Bool := decide (p.flying < 4611686018427387904 ∧ -4611686018427387904 < p.flying)
theorem tame_calls (h : Rl W p l) : Calls Try.prog 13 #[.agg p.cells] W fun e w' => e = .returned (.bool (tameP p)) ∧ Below W.heap.size W w' := by
  rw [h.cells]
  refine decorumlaw20_tame.calls _ _ _ _ _ _ _ _ _ _ _ _ _ _ _ _ _ _ h.2.2 h.2.1 ?_
  unfold decorumlaw20_tame.f tameP
  by_cases h1 : p.flying < 4611686018427387904
  · rw [if_pos h1]; congr 1; simp [h1]
  · rw [if_neg h1]; simp [h1]
end
end Go.Proofs.Ytdmebkdikminjaa.Given
