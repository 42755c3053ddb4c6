/- A region that draws its order, in two parts: a first part whose operations each yield one value in every world of a class (loads, calls that only make memory), in any order; and a last part in one forced order. The two are given as lists of places. -/
import Derived.StillTail
import Derived.Deep.Quiet
import Derived.BigQuiet
import Derived.Below
namespace Go.Proofs.Ytdmebkdikminjaa.Calm
open Go
section
variable {P : Program} {ops : Array Oper} {md : Region.Mode} {C : World → Prop} {hd tl : List Nat}

def sinks (md : Region.Mode) (ops : Array Oper) (f : Nat) : List Nat → Bool
  | [] => true
  | i :: l => (l ++ [f]).any (fun j => Region.waitsFor md ops j i) && sinks md ops f l
def chained (md : Region.Mode) (ops : Array Oper) : Nat → List Nat → Bool
  | _, [] => true
  | a, b :: l => Region.waitsFor md ops b a && chained md ops b l
def inTurn (md : Region.Mode) (ops : Array Oper) : List Nat → Array Bool → Bool
  | [], s => (Region.ready md ops s).isEmpty
  | k :: l, s => decide (Region.ready md ops s = [k]) && inTurn md ops l (s.setIfInBounds k true)
def inHead (md : Region.Mode) (ops : Array Oper) (tl : List Nat) : List Nat → Array Bool → Bool
  | [], s => inTurn md ops tl s
  | k :: l, s => (Region.ready md ops s).contains k && Region.free md ops s k && inHead md ops tl l (s.setIfInBounds k true)
/-- What is looked at, once: a closed Bool. -/
def fits (md : Region.Mode) (ops : Array Oper) (hd : List Nat) (f : Nat) (tl : List Nat) : Bool :=
  Region.noSelect ops && sinks md ops f hd && chained md ops f tl && (List.range ops.size).all (fun i => (hd ++ f :: tl).contains i) && hd.all (fun i => !(f :: tl).contains i) &&
    (hd.length + (f :: tl).length == ops.size) && inHead md ops (f :: tl) hd (Array.replicate ops.size false)

/-- What holds as long as the first part is not through: what is listed is closed, nothing of the last part is. -/
structure Inv (md : Region.Mode) (ops : Array Oper) (tl : List Nat) (s : Array Bool) : Prop where
  size : s.size = ops.size
  closed : ∀ j oj, ops[j]? = some oj → s.getD j false = true → ∀ e ∈ oj.after, Region.binds md e = true → s.getD e.on false = true
  last : ∀ t ∈ tl, s.getD t false = false

theorem Inv.set {i : Nat} {s : Array Bool} (inv : Inv md ops tl s) (hi : i ∈ Region.ready md ops s) (hin : i ∉ tl) : Inv md ops tl (s.setIfInBounds i true) := by
  obtain ⟨_, oi, hoi, hall⟩ := mem_ready.1 hi
  refine ⟨by simp [inv.size], fun j oj hj hl e he hb => ?_, fun t ht => by
    have hne : i ≠ t := fun h => hin (by rw [h]; exact ht)
    rw [getD_set_ne false hne]; exact inv.last t ht⟩
  by_cases hij : i = j
  · subst hij
    have : oj = oi := Option.some.inj (hj.symm.trans hoi)
    subst this
    exact getD_set_true (hall e he hb)
  · rw [getD_set_ne false hij] at hl
    exact getD_set_true (inv.closed j oj hj hl e he hb)

theorem not_ready_of {t i : Nat} {s : Array Bool} (hw : Region.waitsFor md ops t i = true) (hi : s.getD i false = false) : t ∉ Region.ready md ops s := by
  intro hr
  obtain ⟨ot, hot, e, he, hb, hon⟩ := Region.waitsFor_spec hw
  obtain ⟨_, o', ho', hall⟩ := mem_ready.1 hr
  have : o' = ot := Option.some.inj (ho'.symm.trans hot)
  subst this
  have := hall e he hb
  rw [hon, hi] at this
  cases this

theorem sinks_block {f : Nat} {s : Array Bool} (inv : Inv md ops tl s) : ∀ l : List Nat, sinks md ops f l = true → (∃ i ∈ l, s.getD i true = false) → f ∉ Region.ready md ops s
  | [], _, h => by obtain ⟨i, hi, _⟩ := h; cases hi
  | i :: l, hs, h => by
    simp only [sinks, Bool.and_eq_true] at hs
    by_cases hl : ∃ k ∈ l, s.getD k true = false
    · exact sinks_block inv l hs.2 hl
    · obtain ⟨k, hk, hk0⟩ := h
      rcases List.mem_cons.1 hk with rfl | hk
      · obtain ⟨j, hj, hw⟩ := List.any_eq_true.1 hs.1
        rcases List.mem_append.1 hj with hj | hj
        · exfalso
          obtain ⟨oj, hoj, e, he, hb, hon⟩ := Region.waitsFor_spec hw
          have hlt : j < s.size := by rw [inv.size]; exact (Array.getElem?_eq_some_iff.1 hoj).1
          have h1 : s.getD j false = true := by
            cases hc : s.getD j false with
            | true => rfl
            | false => exact absurd ⟨j, hj, getD_in hlt hc⟩ hl
          have := inv.closed j oj hoj h1 e he hb
          rw [hon, getD_both hk0] at this
          cases this
        · have : j = f := by simpa using hj
          subst this
          exact not_ready_of hw (getD_both hk0)
      · exact absurd ⟨k, hk, hk0⟩ hl

theorem chained_block {s : Array Bool} : ∀ (l : List Nat) (f : Nat), (∀ t ∈ f :: l, s.getD t false = false) → chained md ops f l = true → ∀ t ∈ l, t ∉ Region.ready md ops s
  | [], _, _, _, _, h => by cases h
  | b :: l, f, hall, hc, t, ht => by
    simp only [chained, Bool.and_eq_true] at hc
    rcases List.mem_cons.1 ht with rfl | ht
    · exact not_ready_of hc.1 (hall f (.head _))
    · exact chained_block l b (fun t ht => hall t (.tail _ ht)) hc.2 t ht

theorem last_waits {f : Nat} {s : Array Bool} (hs : sinks md ops f hd = true) (hc : chained md ops f tl = true) (inv : Inv md ops (f :: tl) s) (hu : ∃ i ∈ hd, s.getD i true = false) : ∀ t ∈ f :: tl, t ∉ Region.ready md ops s := by
  intro t ht
  rcases List.mem_cons.1 ht with rfl | ht
  · exact sinks_block inv hd hs hu
  · exact chained_block tl f inv.last hc t ht

/-- The first part; behind it T holds of what is listed, and of the frame. -/
def First (P : Program) (md : Region.Mode) (ops : Array Oper) (C : World → Prop) (hd : List Nat) (T : Array Bool → Act → Prop) : Nat → Array Bool → Act → Prop
  | 0, s, a => T s a
  | k + 1, s, a => Region.ready md ops s ≠ [] ∧ ∀ i ∈ Region.ready md ops s, i ∈ hd ∧ qOp P ops C i (First P md ops C hd T k (s.setIfInBounds i true)) a

theorem First.any {g : Nat} {T : Array Bool → Act → Prop} {Q : Exit → Act → World → Prop}
    (hT : ∀ s a w, C w → T s a → wpAny P md ops Q g s a w) (k : Nat) : ∀ (s : Array Bool) (a : Act) (w : World), C w → First P md ops C hd T k s a → wpAny P md ops Q (k + g) s a w := by
  induction k with
  | zero => intro s a w hw h; rw [Nat.zero_add]; exact hT _ _ _ hw h
  | succ k ih =>
    intro s a w hw h
    rw [Nat.add_right_comm]
    exact ⟨fun e => absurd e h.1, fun i hi => wpOp_of_qOp hw (fun a' w' hw' h' => ih _ a' w' hw' h') (h.2 i hi).2⟩

/-- An operation of the first part that may come now may be taken now. -/
theorem First.take {f i : Nat} {o : Oper} {v : Value} {T : Array Bool → Act → Prop} (ho : ops[i]? = some o)
    (hsel : ∀ (j : Nat) (o : Oper) cs b, ops[j]? = some o → o.op ≠ .select cs b)
    (hs : sinks md ops f hd = true) (hc : chained md ops f tl = true) (hall : ∀ i, i < ops.size → i ∈ hd ∨ i ∈ f :: tl) (hdis : ∀ i ∈ hd, i ∉ f :: tl) (hin : i ∈ hd)
    (hT : ∀ s a, T s a → ∀ j ∈ Region.ready md ops s, j ∈ f :: tl) (k : Nat) : ∀ (s : Array Bool) (a : Act), Inv md ops (f :: tl) s →
      (∀ j oj, ops[j]? = some oj → j ≠ i → s.getD j true = false → (∀ e ∈ oj.after, Region.binds md e = true → e.on ≠ i) → o.apart ops oj = true) →
      i ∈ Region.ready md ops s → YieldsIn P ops C o v a →
      First P md ops C hd T k (s.setIfInBounds i true) (a.put o.dst v) → First P md ops C hd T (k + 1) s a := by
  have inHd : ∀ (s : Array Bool), Inv md ops (f :: tl) s → i ∈ Region.ready md ops s → ∀ j ∈ Region.ready md ops s, j ∈ hd := by
    intro s inv hr j hj
    have hun := (mem_ready.1 hr).1
    obtain ⟨_, oj, hoj, _⟩ := mem_ready.1 hj
    rcases hall j (Array.getElem?_eq_some_iff.1 hoj).1 with h | h
    · exact h
    · exact absurd hj (last_waits hs hc inv ⟨i, hin, hun⟩ j h)
  induction k with
  | zero =>
    intro s a inv _ hr hy H
    refine ⟨fun h => (by rw [h] at hr; cases hr), fun j hj => ⟨inHd s inv hr j hj, ?_⟩⟩
    by_cases hji : j = i
    · subst hji; exact hy.qOp ho H
    · exact absurd (hT _ _ H j (ready_mono hj hji)) (hdis j (inHd s inv hr j hj))
  | succ k ih =>
    intro s a inv hfree hr hy H
    have hun := (mem_ready.1 hr).1
    refine ⟨fun h => (by rw [h] at hr; cases hr), fun j hj => ⟨inHd s inv hr j hj, ?_⟩⟩
    by_cases hji : j = i
    · subst hji; exact hy.qOp ho H
    · obtain ⟨hjun, oj, hoj, hja⟩ := mem_ready.1 hj
      have hnot : ∀ e ∈ oj.after, Region.binds md e = true → e.on ≠ i := fun e he hb heq => by
        have h1 := hja e he hb
        rw [heq, getD_both hun] at h1
        cases h1
      have h2 := qOp_put hoj (hfree j oj hoj hji hjun hnot) (fun cs b => hsel i o cs b ho) (fun cs b => hsel j oj cs b hoj) hy (H.2 j (ready_mono hj hji)).2
      refine qOp_mono (fun a' h3 => ih (s.setIfInBounds j true) a' (inv.set hj (hdis j (inHd s inv hr j hj))) (fun m om hm hmi hmu hmn => ?_) (ready_mono hr (Ne.symm hji)) h3.1 ?_) h2
      · refine hfree m om hm hmi ?_ hmn
        by_cases hjm : j = m
        · subst hjm; exact hjun
        · rw [getD_set_ne true hjm] at hmu; exact hmu
      · rw [Array.setIfInBounds_comm _ _ hji]; exact h3.2

theorem inTurn_ready {s : Array Bool} : ∀ (l : List Nat), inTurn md ops l s = true → ∀ j ∈ Region.ready md ops s, j ∈ l
  | [], h, j, hj => by simp only [inTurn, List.isEmpty_iff] at h; rw [h] at hj; cases hj
  | k :: l, h, j, hj => by
    simp only [inTurn, Bool.and_eq_true, decide_eq_true_eq] at h
    rw [h.1] at hj
    have : j = k := by simpa using hj
    subst this
    exact .head _

theorem First.lex {f : Nat} {T : Act → Prop} (hsel : Region.noSelect ops = true) (hs : sinks md ops f hd = true) (hc : chained md ops f tl = true) (hall : ∀ i, i < ops.size → i ∈ hd ∨ i ∈ f :: tl) (hdis : ∀ i ∈ hd, i ∉ f :: tl) :
    ∀ (l : List Nat) (s : Array Bool) (a : Act), (∀ k ∈ l, k ∈ hd) → Inv md ops (f :: tl) s →
    inHead md ops (f :: tl) l s = true → wpQuiet P ops C T (l.filterMap (ops[·]?)) a →
    First P md ops C hd (fun s' a' => inTurn md ops (f :: tl) s' = true ∧ T a') l.length s a
  | [], s, a, _, _, hB, h => ⟨by simpa [inHead] using hB, h⟩
  | k :: l, s, a, hl, inv, hB, h => by
    simp only [inHead, Bool.and_eq_true] at hB
    have hr : k ∈ Region.ready md ops s := by simpa using hB.1.1
    obtain ⟨_, o, h0, _⟩ := mem_ready.1 hr
    rw [List.filterMap_cons_some h0] at h
    obtain ⟨v, hy, hK⟩ := yieldsIn_of_qOp (C := C) (K := wpQuiet P ops C T (l.filterMap (ops[·]?))) h0 (by unfold qOp; simp only [h0]; exact h)
    exact First.take h0 (Region.noSelect_spec hsel) hs hc hall hdis (hl k (.head _)) (fun s' a' hT => inTurn_ready _ hT.1) l.length s a inv (Region.free_spec h0 hB.1.2) hr hy
      (First.lex hsel hs hc hall hdis l _ _ (fun j hj => hl j (.tail _ hj)) (inv.set hr (hdis k (hl k (.head _)))) hB.2 hK)

theorem any_inTurn {Q : Exit → Act → World → Prop} : ∀ (l : List Nat) (s : Array Bool) (a : Act) (w : World),
    inTurn md ops l s = true → wpList P ops Q (l.filterMap (ops[·]?)) a w → wpAny P md ops Q l.length s a w
  | [], _, _, _, hB, h => ⟨by simpa [inTurn] using hB, h⟩
  | k :: l, s, a, w, hB, h => by
    simp only [inTurn, Bool.and_eq_true, decide_eq_true_eq] at hB
    refine ⟨fun h1 => (by rw [hB.1] at h1; cases h1), fun i hi => ?_⟩
    obtain ⟨_, o, h0, _⟩ := mem_ready.1 hi
    rw [hB.1] at hi
    have hik : i = k := by simpa using hi
    subst hik
    rw [List.filterMap_cons_some h0] at h
    have hw : wpOp P ops Q i (wpList P ops Q (l.filterMap (ops[·]?))) a w := by unfold wpOp; simp only [h0]; exact h
    exact wpOp_mono (fun a' w' h' => any_inTurn l _ a' w' hB.2 h') hw

/-- The operations at these places. -/
def pick (l : List Oper) : List Nat → List Oper
  | [] => []
  | k :: ks => (l.drop k).take 1 ++ pick l ks
theorem pick_eq (l : List Oper) : ∀ ks : List Nat, pick l ks = ks.filterMap (l[·]?)
  | [] => rfl
  | k :: ks => by
    rw [pick, pick_eq l ks]
    cases h : l[k]? with
    | none =>
      rw [List.filterMap_cons_none h]
      have : l.length ≤ k := List.getElem?_eq_none_iff.1 h
      rw [List.drop_eq_nil_of_le this]; rfl
    | some o =>
      rw [List.filterMap_cons_some h]
      obtain ⟨hk, rfl⟩ := List.getElem?_eq_some_iff.1 h
      rw [List.drop_eq_getElem_cons hk]; rfl

/-- **The two parts.** -/
theorem region {id : Nat} {Q : Exit → Act → World → Prop} {a : Act} {w : World} {l : List Oper} (C : World → Prop) (hd : List Nat) (f : Nat) (tl : List Nat) (hm : P.follows .mixedOrders = true) (hB : fits .any l.toArray hd f tl = true)
    (hC : C w.drew) (h : wpQuiet P l.toArray C (fun a' => ∀ w', C w' → wpList P l.toArray Q (pick l (f :: tl)) a' w') (pick l hd) a) : (Code.region id l.toArray true).wp P Q a w := by
  simp only [pick_eq] at h
  simp only [fits, Bool.and_eq_true] at hB
  obtain ⟨⟨⟨⟨⟨⟨hsel, hs⟩, hc⟩, hall⟩, hdis⟩, hlen⟩, hlex⟩ := hB
  have hall' : ∀ i, i < l.toArray.size → i ∈ hd ∨ i ∈ f :: tl := fun i hi => by
    have := List.all_eq_true.1 hall i (List.mem_range.2 hi)
    simpa using this
  have hdis' : ∀ i ∈ hd, i ∉ f :: tl := fun i hi => by
    have := List.all_eq_true.1 hdis i hi
    simpa using this
  have inv0 : Inv .any l.toArray (f :: tl) (Array.replicate l.toArray.size false) :=
    ⟨by simp, fun j oj _ hl => (by rw [getD_replicate_false] at hl; cases hl), fun t _ => getD_replicate_false _ _⟩
  have e : ∀ ks : List Nat, ks.filterMap (l.toArray[·]?) = ks.filterMap (l[·]?) := fun ks => by simp
  have H := First.lex (P := P) (C := C) (md := .any) hsel hs hc hall' hdis' hd _ a (fun _ h => h) inv0 hlex (by rw [e]; exact h)
  refine wp_region_any hm ?_
  have := First.any (Q := Q) (g := (f :: tl).length) (fun s a' w' hw' hL => any_inTurn (f :: tl) s a' w' hL.1 (by rw [e]; exact hL.2 w' hw')) _ _ _ _ hC H
  rw [beq_iff_eq] at hlen
  rwa [hlen] at this

theorem listed {Q : Exit → Act → World → Prop} {rest : List Oper} : ∀ (l : List Oper) (a : Act) (w : World), C w →
    wpQuiet P ops C (fun a' => ∀ w', C w' → wpList P ops Q rest a' w') l a → wpList P ops Q (l ++ rest) a w
  | [], a, w, hw, h => h w hw
  | o :: l, a, w, hw, h => by
    simp only [wpQuiet] at h
    simp only [List.cons_append, wpList]
    split
    · rename_i hy
      rw [if_pos hy] at h
      exact .inl (Oper.wp_of_quiet hw (fun a' w' hw' h' => listed l a' w' hw' h') h)
    · rename_i hy
      rw [if_neg hy] at h
      exact listed l _ w hw h
/-- The same of a region that draws nothing. -/
theorem plain {id : Nat} {Q : Exit → Act → World → Prop} {a : Act} {w : World} {l : List Oper} (C : World → Prop) (n : Nat)
    (hC : C w) (h : wpQuiet P l.toArray C (fun a' => ∀ w', C w' → wpList P l.toArray Q (l.drop n) a' w') (l.take n) a) : (Code.region id l.toArray false).wp P Q a w :=
  wp_region_lit (by have := listed (l.take n) a w hC h; rwa [List.take_append_drop] at this)
end
end Go.Proofs.Ytdmebkdikminjaa.Calm
