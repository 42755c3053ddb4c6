/- What a policy's functions answer, in plain words; both the program's and the document's. -/
import Derived.Test.YtdmebkdikminjaaQBasex
namespace Go.Proofs.Ytdmebkdikminjaa.Given
open Go.RowKit Go.Proofs.Ytdmebkdikminjaa.QBase Go.Proofs.YtdmebkdikminjaaW.PrintWords Go.Proofs.YtdmebkdikminjaaW.PrintLast Go.Proofs.YtdmebkdikminjaaW.PrintMore
set_option linter.unusedVariables false
set_option linter.unusedSimpArgs false

def hd (a : Int) : Int := mx (-4611686018427387903) (mn a 4611686018427387903)
def ad (a b : Int) : Int := hd (hd a + hd b)
theorem wrap_in (n : Int) (h : -9223372036854775808 ≤ n) (h' : n ≤ 9223372036854775807) : wrap64 n = n := by
  unfold wrap64; omega
theorem hd_bd (a : Int) : -4611686018427387903 ≤ hd a ∧ hd a ≤ 4611686018427387903 := by
  unfold hd mx mn; omega
theorem hd_id (a : Int) (h : -4611686018427387903 ≤ a) (h' : a ≤ 4611686018427387903) : hd a = a := by
  unfold hd mx mn; omega
theorem ad_bd (a b : Int) : -4611686018427387903 ≤ ad a b ∧ ad a b ≤ 4611686018427387903 := hd_bd _
theorem held_eq (a : Int) : tick_held.f a = some (hd a) := rfl
theorem add_eq (a b : Int) : tick_Add.f a b = some (ad a b) := by
  have ha := hd_bd a
  have hb := hd_bd b
  unfold tick_Add.f
  simp only [held_eq, Option.bind_some]
  rw [wrap_in _ (by omega) (by omega)]
  rfl
def dbl : Nat → Int → Int
  | 0, x => x
  | n + 1, x => dbl n (ad x x)
theorem dbl_fix (x : Int) (h : ad x x = x) : ∀ n, dbl n x = x
  | 0 => rfl
  | n + 1 => by rw [dbl, h]; exact dbl_fix x h n
theorem dbl_bd (n : Nat) : ∀ x : Int, -4611686018427387903 ≤ x → x ≤ 4611686018427387903 → -4611686018427387903 ≤ dbl n x ∧ dbl n x ≤ 4611686018427387903 := by
  induction n with
  | zero => intro x h h'; exact ⟨h, h'⟩
  | succ n ih => intro x _ _; exact ih _ (ad_bd x x).1 (ad_bd x x).2
theorem shl_l0 (d : Nat) : ∀ (k : Nat) (x n : Int), -4611686018427387903 ≤ x → x ≤ 4611686018427387903 → n ≤ 9223372036854775807 → n.toNat = d → d < k → tick_Shl.l0 k x n = some (dbl d x) := by
  induction d with
  | zero =>
    intro k x n _ _ _ hn hk
    obtain ⟨k, rfl⟩ : ∃ m, k = m + 1 := ⟨k - 1, by omega⟩
    simp only [tick_Shl.l0]
    rw [if_neg (by omega)]
    rfl
  | succ d ih =>
    intro k x n h0 h1 h2 hn hk
    obtain ⟨k, rfl⟩ : ∃ m, k = m + 1 := ⟨k - 1, by omega⟩
    simp only [tick_Shl.l0]
    rw [if_pos (by omega)]
    by_cases hx : x = 0
    · rw [if_pos hx, dbl_fix x (by subst hx; rfl)]
    · rw [if_neg hx, wrap_in (-x) (by omega) (by omega)]
      by_cases hm : mx x (-x) < 4611686018427387903
      · rw [if_pos hm, add_eq]
        simp only [Option.bind_some]
        rw [wrap_in (n - 1) (by omega) (by omega)]
        exact ih k _ _ (ad_bd x x).1 (ad_bd x x).2 (by omega) (by omega) (by omega)
      · rw [if_neg hm, dbl_fix x]
        unfold mx at hm
        unfold ad hd mx mn
        omega
theorem shl_eq (k : Nat) (a n : Int) (h : n ≤ 9223372036854775807) (hk : n.toNat < k) : tick_Shl.f k a n = some (dbl n.toNat (hd a)) := by
  unfold tick_Shl.f
  rw [held_eq]
  simp only [Option.bind_some]
  exact shl_l0 _ k _ n (hd_bd a).1 (hd_bd a).2 h rfl hk
theorem rheld_eq (a : Int) : decorumref01_Held.f a = some (hd a) := by
  unfold decorumref01_Held.f hd mx mn
  split
  · exact congrArg some (by omega)
  · split
    · exact congrArg some (by omega)
    · exact congrArg some (by omega)
theorem radd_eq (k : Nat) (a b : Int) (hk : 0 < k) : decorumref01_Add.f k a b = some (ad a b) := by
  obtain ⟨k, rfl⟩ : ∃ m, k = m + 1 := ⟨k - 1, by omega⟩
  have ha := hd_bd a
  have hb := hd_bd b
  unfold decorumref01_Add.f
  simp only [rheld_eq, Option.bind_some, decorumref01_Add.j0]
  unfold ad
  generalize hd a = x at *
  generalize hd b = y at *
  rw [wrap_in (x + y) (by omega) (by omega)]
  by_cases h : y > 0
  · rw [if_pos h, wrap_in _ (by omega) (by omega)]
    by_cases h2 : x > 4611686018427387903 - y
    · rw [if_pos (by simpa using h2)]; congr 1; unfold hd mx mn; omega
    · rw [if_neg (by simpa using h2), if_neg (by omega)]; congr 1; unfold hd mx mn; omega
  · rw [if_neg h, if_neg (by simp)]
    by_cases h2 : y < 0
    · rw [if_pos h2, wrap_in _ (by omega) (by omega)]
      by_cases h3 : x < -4611686018427387903 - y
      · rw [if_pos h3]; congr 1; unfold hd mx mn; omega
      · rw [if_neg h3]; congr 1; unfold hd mx mn; omega
    · rw [if_neg h2]; congr 1; unfold hd mx mn; omega
theorem cut_eq (a b c : Int) : decorumref18_cut.f a b c = some (if a < b then b else if a > c then c else a) := by
  unfold decorumref18_cut.f
  split
  · rfl
  · split <;> rfl
theorem ref_l0 (d : Nat) : ∀ (k : Nat) (b e w i : Int), 1 ≤ i → i ≤ 16 → ((mn e 16) - i).toNat = d → d < k →
    decorumref18_Most.l0 (k + 1) b e w i = some (if dbl d w < 0 then 0 else if dbl d w > b then b else dbl d w) := by
  induction d with
  | zero =>
    intro k b e w i h0 h1 hd' hk
    unfold mn at hd'
    simp only [decorumref18_Most.l0]
    by_cases h2 : i < e
    · rw [if_pos h2, if_neg (by omega), cut_eq]; rfl
    · rw [if_neg h2, cut_eq]; rfl
  | succ d ih =>
    intro k b e w i h0 h1 hd' hk
    obtain ⟨k, rfl⟩ : ∃ m, k = m + 1 := ⟨k - 1, by omega⟩
    have hd2 := hd'
    unfold mn at hd2
    rw [decorumref18_Most.l0]
    rw [if_pos (by omega), if_pos (by omega), radd_eq _ _ _ (by omega)]
    simp only [Option.bind_some]
    rw [wrap_in _ (by omega) (by omega)]
    exact ih k b e _ _ (by omega) (by omega) (by omega) (by omega)
theorem mul_bd {a b A B : Int} (ha : 0 ≤ a) (hA : a ≤ A) (hb : 0 ≤ b) (hB : b ≤ B) : 0 ≤ a * b ∧ a * b ≤ A * B :=
  ⟨Int.mul_nonneg ha hb, Int.mul_le_mul hA hB hb (by omega)⟩
def jit (W D : Int) : Int := W / 2 + (W - W / 2) * D / 1000
def cw (w : Int) : Int := mx 0 (mn w 1099511627776)
def cd (d : Int) : Int := mx 0 (mn d 1000)
theorem cw_bd (w : Int) : 0 ≤ cw w ∧ cw w ≤ 1099511627776 := by unfold cw mx mn; omega
theorem cd_bd (d : Int) : 0 ≤ cd d ∧ cd d ≤ 1000 := by unfold cd mx mn; omega
theorem jitter_eq (w d : Int) : back_Jitter.f w d = some (jit (cw w) (cd d)) := by
  have hw := cw_bd w
  have hd' := cd_bd d
  have e1 : mx 0 (mn w 1099511627776) = cw w := rfl
  have e2 : mx 0 (mn d 1000) = cd d := rfl
  unfold back_Jitter.f jit
  rw [e1, e2]
  generalize cw w = W at *
  generalize cd d = D at *
  have hm := mul_bd (a := W - W / 2) (A := 1099511627776) (b := D) (B := 1000) (by omega) (by omega) hd'.1 hd'.2
  generalize (W - W / 2) * D = p at *
  rw [wrap_in p (by omega) (by omega), Int.tdiv_eq_ediv_of_nonneg hm.1, wrap_in (p / 1000) (by omega) (by omega), wrap_in _ (by omega) (by omega)]
theorem up_eq (e : Int) : back_Up.f e = some (mx 0 (mn e 15) + 1) := rfl
theorem rjit_eq (w d : Int) : decorumref18_Jitter.f w d = some (jit (cw w) (cd d)) := by
  have hw := cw_bd w
  have hd' := cd_bd d
  unfold decorumref18_Jitter.f
  simp only [cut_eq, Option.bind_some]
  have e1 : (if w < 0 then 0 else if w > 1099511627776 then 1099511627776 else w) = cw w := by unfold cw mx mn; omega
  have e2 : (if d < 0 then 0 else if d > 1000 then 1000 else d) = cd d := by unfold cd mx mn; omega
  rw [e1, e2]
  unfold jit
  generalize cw w = W at *
  generalize cd d = D at *
  rw [Int.tdiv_eq_ediv_of_nonneg hw.1, wrap_in (W / 2) (by omega) (by omega), wrap_in (W - W / 2) (by omega) (by omega)]
  have hr : 0 ≤ W - W / 2 ∧ W - W / 2 ≤ 1099511627776 := by omega
  generalize W - W / 2 = R at *
  rw [Int.tdiv_eq_ediv_of_nonneg hr.1, Int.tmod_eq_emod_of_nonneg hr.1, wrap_in (R / 1000) (by omega) (by omega)]
  have h1 := mul_bd (a := R / 1000) (A := 1099511627776) (b := D) (B := 1000) (by omega) (by omega) hd'.1 hd'.2
  have h2 := mul_bd (a := R % 1000) (A := 1000) (b := D) (B := 1000) (by omega) (by omega) hd'.1 hd'.2
  have h3 : R * D = 1000 * (R / 1000 * D) + R % 1000 * D := by
    rw [← Int.mul_assoc, ← Int.add_mul]; congr 1; omega
  rw [h3]
  generalize R / 1000 * D = u at *
  generalize R % 1000 * D = v at *
  rw [wrap_in u (by omega) (by omega), wrap_in v (by omega) (by omega), Int.tdiv_eq_ediv_of_nonneg h2.1, wrap_in (W / 2 + u) (by omega) (by omega), wrap_in (v / 1000) (by omega) (by omega), wrap_in _ (by omega) (by omega)]
  exact congrArg some (by omega)
theorem rup_eq (e : Int) : decorumref18_Up.f e = some (mx 0 (mn e 15) + 1) := by
  unfold decorumref18_Up.f
  simp only [cut_eq, Option.bind_some]
  have e1 : (if e < 0 then 0 else if e > 15 then 15 else e) = mx 0 (mn e 15) := by unfold mx mn; omega
  have e2 : 0 ≤ mx 0 (mn e 15) ∧ mx 0 (mn e 15) ≤ 15 := by unfold mx mn; omega
  rw [e1, wrap_in _ (by omega) (by omega)]

def mst (a b e : Int) : Int := if e < 1 then 0 else mx (mn (dbl ((mn e 16) - 1).toNat (hd (mx a 0))) b) 0
theorem back_eq (k : Nat) (a b e : Int) (hk : 20 ≤ k) : back_Most.f k a b e = some (mst a b e) := by
  unfold back_Most.f mst
  by_cases h : e < 1
  · rw [if_pos h, if_pos h]
  · rw [if_neg h, if_neg h]
    have h1 : 1 ≤ mn e 16 ∧ mn e 16 ≤ 16 := by unfold mn; omega
    rw [wrap_in _ (by omega) (by omega), shl_eq k _ _ (by omega) (by omega)]
    rfl
theorem rmost_eq (k : Nat) (a b e : Int) (hk : 20 ≤ k) : decorumref18_Most.f k a b e = some (mst a b e) := by
  obtain ⟨k, rfl⟩ : ∃ m, k = m + 2 := ⟨k - 2, by omega⟩
  unfold decorumref18_Most.f mst
  by_cases h : e < 1
  · rw [if_pos h, if_pos h]; simp only [decorumref18_Most.j0]; rfl
  · rw [if_neg h, if_neg h]
    simp only [decorumref18_Most.j0]
    by_cases hb : b < 1
    · rw [if_pos (by simpa using hb)]; congr 1; unfold mx mn; omega
    · rw [if_neg (by simpa using hb), cut_eq]
      simp only [Option.bind_some]
      have h1 : 1 ≤ mn e 16 ∧ mn e 16 ≤ 16 := by unfold mn; omega
      rw [ref_l0 _ k b e _ 1 (by omega) (by omega) rfl (by omega)]
      have h2 : (if a < 0 then 0 else if a > 4611686018427387903 then 4611686018427387903 else a) = hd (mx a 0) := by unfold hd mx mn; omega
      rw [h2]
      generalize dbl _ _ = z
      congr 1; unfold mx mn; omega

structure Pol where
  last : Int
  gap : Int
  exp : Int
  fails : Int
  state : Int
  till : Int
  retry : Int
  reset : Int
  flying : Int
  known : Int
  all : Bool
  none : Bool
  A : Option Addr
  n : Nat
  c : Nat
  delay : Int
def Pol.cells (p : Pol) : Array Value := #[.int .i64 p.last, .int .i64 p.gap, .int .i64 p.exp, .int .i64 p.fails, .int .i64 p.state, .int .i64 p.till, .int .i64 p.retry, .int .i64 p.reset, .int .i64 p.flying, .int .i64 p.known, .bool p.all, .bool p.none, .slice p.A p.n p.c, .int .i64 p.delay]
structure Cfg where
  c0 : Int
  c1 : Int
  c2 : Int
  c3 : Int
  floor : Int
  cap : Int
  base : Int
  most : Int
  brk : Int
  opn : Int
  c10 : Int
  c11 : Int
  keep : Int
  agent : ByteArray
def Cfg.cells (c : Cfg) : Array Value := #[.int .i64 c.c0, .int .i64 c.c1, .int .i64 c.c2, .int .i64 c.c3, .int .i64 c.floor, .int .i64 c.cap, .int .i64 c.base, .int .i64 c.most, .int .i64 c.brk, .int .i64 c.opn, .int .i64 c.c10, .int .i64 c.c11, .int .i64 c.keep, .string c.agent]

/-- A breaker's failure: fails, state, till. -/
def brkFail (fails state till now most opn : Int) : Int × Int × Int :=
  let f := mn (mx fails 0) 1099511627776 + 1
  if state = 2 ∨ f ≥ mx most 1 then (f, 1, mx till (ad now opn)) else (f, state, till)
def leastP (c : Cfg) (p : Pol) : Int := mx (mx c.floor p.delay) 0
def upP (e : Int) : Int := mx 0 (mn e 15) + 1
def jitP (w d : Int) : Int := jit (cw w) (cd d)
def sendP (p : Pol) (now : Int) : Pol := { p with state := if p.state = 1 ∧ now ≥ p.till then 2 else p.state, last := now, flying := wrap64 (p.flying + 1) }
def failP (c : Cfg) (p : Pol) (now draw : Int) : Pol :=
  let b := brkFail p.fails p.state p.till now c.brk c.opn
  let e := upP p.exp
  { p with fails := b.1, state := b.2.1, till := b.2.2, exp := e, gap := mx (leastP c p) (jitP (mst c.base c.most e) draw) }
def landP (p : Pol) : Pol := { p with flying := mx (p.flying - 1) 0 }
def answerP (c : Cfg) (p : Pol) (cls retry reset now draw : Int) : Pol :=
  let q : Pol := { landP p with retry := mx p.retry retry, reset := mx p.reset reset }
  if cls = 3 ∨ cls = 4 then failP c q now draw else { q with state := 0, fails := 0, till := 0, exp := 0, gap := leastP c p }
def lostP (c : Cfg) (p : Pol) (now draw : Int) : Pol := failP c (landP p) now draw
def learnP (c : Cfg) (p : Pol) (all none : Bool) (A : Option Addr) (n k : Nat) (delay now : Int) : Pol :=
  let q : Pol := { p with all := all, none := none, A := A, n := n, c := k, delay := delay, known := ad now c.keep }
  { q with gap := mx p.gap (leastP c q) }
def newP (floor until_ : Int) : Pol := ⟨-1, mx floor 0, 0, 0, 0, 0, until_, 0, 0, 0, false, false, .none, 0, 0, 0⟩
def eligP (c : Cfg) (p : Pol) : Int :=
  if p.flying ≥ c.cap ∨ p.state ≠ 0 ∧ p.flying > 0 then 4611686018427387903 else
  let a := mx (mx p.retry p.reset) 0
  let a := if p.last ≥ 0 then mx a (ad p.last p.gap) else a
  if p.state = 1 then mx a p.till else a
theorem bfail_f (fails state till now most opn : Int) : breaker_Fail.f state fails till now most opn = some ((brkFail fails state till now most opn).2.1, (brkFail fails state till now most opn).1, (brkFail fails state till now most opn).2.2) := by
  unfold breaker_Fail.f brkFail
  by_cases h : state = 2
  · rw [if_pos h, add_eq]; simp [h]
  · rw [if_neg h]
    by_cases h2 : mn (mx fails 0) 1099511627776 + 1 ≥ mx most 1
    · rw [if_pos h2, add_eq]; simp [h, h2]
    · rw [if_neg h2]; simp [h, h2]
theorem bsend_f (state fails till now : Int) : breaker_Send.f state fails till now = some (if state = 1 ∧ now ≥ till then 2 else state, fails, till) := by
  unfold breaker_Send.f
  by_cases h : state = 1
  · rw [if_pos h]
    by_cases h2 : now ≥ till
    · rw [if_pos h2]; simp [h, h2]
    · rw [if_neg h2]; simp [h, h2]
  · rw [if_neg h]; simp [h]
end Go.Proofs.Ytdmebkdikminjaa.Given
