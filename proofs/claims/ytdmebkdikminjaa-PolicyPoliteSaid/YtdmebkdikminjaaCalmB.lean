/- A region that draws its order and lays one new box besides: what the first part's operations yield is one and the same, whether the box lies already or not. -/
import Derived.Test.YtdmebkdikminjaaCalm
namespace Go.Proofs.Ytdmebkdikminjaa.Calm
open Go
/-- A region without a last part, one that draws nothing. -/
theorem whole {P : Program} {id : Nat} {Q : Exit → Act → World → Prop} {a : Act} {w : World} {l : List Oper} (C : World → Prop)
    (hC : C w) (h : wpQuiet P l.toArray C (fun a' => ∀ w', C w' → Q .normal a' w') l a) : (Code.region id l.toArray false).wp P Q a w :=
  wp_region_lit (by have := listed (P := P) (Q := Q) (rest := []) l a w hC h; rwa [List.append_nil] at this)
/-- The same of one that draws its order. -/
theorem wholeD {P : Program} {id : Nat} {Q : Exit → Act → World → Prop} {a : Act} {w : World} {l : List Oper} (C : World → Prop) (hm : P.follows .mixedOrders = true) (hB : Region.lexB .any l.toArray = true)
    (hC : C w.drew) (h : wpQuiet P l.toArray C (fun a' => ∀ w', C w' → Q .normal a' w') l a) : (Code.region id l.toArray true).wp P Q a w :=
  wp_region_quiet hm hB hC (by simpa using h)

/-! ### A region whose first part lays one new box besides (an 'alloc' that nothing of the first part looks at) -/
section
variable {P : Program} {ops : Array Oper} {md : Region.Mode} {C : Option Nat → World → Prop} {hd tl : List Nat} {sp f : Nat} {os : Oper}

/-- In state a, in every world of every class of the family, o leaves v, and a world of the same class. -/
def YieldsF (P : Program) (ops : Array Oper) (C : Option Nat → World → Prop) (o : Oper) (v : Value) (a : Act) : Prop :=
  (Region.wanted o (yielded ops a.tmps) = true ∧ ∀ g w, C g w → o.quietAt P a (C g) w v) ∨ (Region.wanted o (yielded ops a.tmps) = false ∧ v = undef)
theorem YieldsF.of_same {o : Oper} {v : Value} {a a' : Act} (hy : YieldsF P ops C o v a) (he : execOp a'.eval o = execOp a.eval o)
    (hw : Region.wanted o (yielded ops a'.tmps) = Region.wanted o (yielded ops a.tmps)) : YieldsF P ops C o v a' := by
  unfold YieldsF Oper.quietAt at *
  rw [he, hw]
  exact hy
def qF (P : Program) (ops : Array Oper) (C : Option Nat → World → Prop) (i : Nat) (K : Act → Prop) (a : Act) : Prop := ∃ o v, ops[i]? = some o ∧ YieldsF P ops C o v a ∧ K (a.put o.dst v)
theorem qF_mono {i : Nat} {a : Act} {K K' : Act → Prop} (h : ∀ a, K a → K' a) (hh : qF P ops C i K a) : qF P ops C i K' a := by
  obtain ⟨o, v, h1, h2, h3⟩ := hh
  exact ⟨o, v, h1, h2, h _ h3⟩
theorem qF_put {j : Nat} {oi oj : Oper} {v : Value} (hj : ops[j]? = some oj) (hap : oi.apart ops oj = true)
    (hsi : ∀ cs b, oi.op ≠ .select cs b) (hsj : ∀ cs b, oj.op ≠ .select cs b) {K : Act → Prop} {a : Act}
    (hy : YieldsF P ops C oi v a) (h : qF P ops C j K (a.put oi.dst v)) : qF P ops C j (fun a' => YieldsF P ops C oi v a' ∧ K (a'.put oi.dst v)) a := by
  obtain ⟨h1, h2, h3⟩ := Oper.apart_spec hap
  obtain ⟨o, u, ho, hu, hK⟩ := h
  have : o = oj := Option.some.inj (ho.symm.trans hj)
  subst this
  refine ⟨o, u, hj, hu.of_same (execOp_put o hsj a oi.dst v h1).symm (wanted_put o a oi.dst v h1).symm, hy.of_same (execOp_put oi hsi a o.dst u h3) (wanted_put oi a o.dst u h3), ?_⟩
  rw [← Act.put_comm a v u h2]
  exact hK

def ptr (g : Nat) : Value := .pointer (some ⟨g, 0, none⟩)
/-- The frame with the new box's place in it, once it has been laid. -/
def withBox (os : Oper) : Option Nat → Act → Act
  | none, a => a
  | some g, a => a.put os.dst (ptr g)

def FirstA (P : Program) (md : Region.Mode) (ops : Array Oper) (C : Option Nat → World → Prop) (hd : List Nat) (sp : Nat) (T : Option Nat → Array Bool → Act → Prop) : Nat → Option Nat → Array Bool → Act → Prop
  | 0, b, s, a => T b s a
  | k + 1, b, s, a => Region.ready md ops s ≠ [] ∧ ∀ i ∈ Region.ready md ops s,
      (i = sp ∧ b = none ∧ ∀ g, FirstA P md ops C hd sp T k (some g) (s.setIfInBounds sp true) a) ∨ (i ∈ hd ∧ qF P ops C i (FirstA P md ops C hd sp T k b (s.setIfInBounds i true)) a)

theorem FirstA.any {g : Nat} {T : Option Nat → Array Bool → Act → Prop} {Q : Exit → Act → World → Prop} (hos : ops[sp]? = some os) (hsel : ∀ (j : Nat) (o : Oper) cs b, ops[j]? = some o → o.op ≠ .select cs b)
    (hgd : os.guard = none) (hap : ∀ i ∈ hd, ∀ o, ops[i]? = some o → os.apart ops o = true)
    (hal : ∀ (a : Act) w, C none w → ∃ w', (execOp a.eval os).run P w = .ok (.value (ptr w.heap.size)) w' ∧ C (some w.heap.size) w')
    (hT : ∀ b s a w, C b w → T b s a → wpAny P md ops Q g s (withBox os b a) w) (k : Nat) :
    ∀ (b : Option Nat) (s : Array Bool) (a : Act) (w : World), C b w → FirstA P md ops C hd sp T k b s a → wpAny P md ops Q (k + g) s (withBox os b a) w := by
  induction k with
  | zero => intro b s a w hw h; rw [Nat.zero_add]; exact hT _ _ _ _ hw h
  | succ k ih =>
    intro b s a w hw h
    rw [Nat.add_right_comm]
    refine ⟨fun e => absurd e h.1, fun i hi => ?_⟩
    rcases h.2 i hi with ⟨rfl, rfl, hg⟩ | ⟨hid, o, v, ho, hy, hK⟩
    · obtain ⟨w', hr, hc⟩ := hal a w hw
      unfold wpOp
      simp only [hos]
      rw [if_pos (by simp [Region.wanted, hgd])]
      refine .inl ?_
      unfold Oper.wp
      show Oper.upon P os a _ Q ((execOp a.eval os).run P w)
      rw [hr]
      exact ih (some w.heap.size) _ a w' hc (hg _)
    · obtain ⟨h1, h2, h3⟩ := Oper.apart_spec (hap i hid o ho)
      unfold wpOp
      simp only [ho]
      have e1 : execOp (withBox os b a).eval o = execOp a.eval o := by
        cases b with
        | none => rfl
        | some g => exact execOp_put o (fun cs b => hsel i o cs b ho) a os.dst (ptr g) h1
      have e2 : Region.wanted o (yielded ops (withBox os b a).tmps) = Region.wanted o (yielded ops a.tmps) := by
        cases b with
        | none => rfl
        | some g => exact wanted_put o a os.dst (ptr g) h1
      have e3 : ∀ v, (withBox os b a).put o.dst v = withBox os b (a.put o.dst v) := by
        intro v
        cases b with
        | none => rfl
        | some g => exact Act.put_comm a (ptr g) v h2
      rcases hy with ⟨hw1, hq⟩ | ⟨hw1, rfl⟩
      · rw [e2, if_pos hw1]
        refine .inl ?_
        have hq' := hq b w hw
        unfold Oper.quietAt at hq'
        unfold Oper.wp
        rw [e1]
        generalize (execOp a.eval o).run P w = r at *
        cases r with
        | ok n w' =>
          cases n <;> simp only [Oper.quietUpon] at hq' <;> simp only [Oper.upon]
          case value u =>
            obtain ⟨c1, c2⟩ := hq'
            rw [c1, c2, e3]
            exact ih b _ _ _ hw hK
          case skip =>
            obtain ⟨c1, c2⟩ := hq'
            rw [c1, ← c2, e3]
            exact ih b _ _ _ hw hK
          case enter fn args =>
            obtain ⟨c1, hc⟩ := hq'
            rw [c1]
            exact hc.mono fun e w'' ⟨he, hw''⟩ => by subst he; simp only []; rw [e3]; exact ih b _ _ _ hw'' hK
        | halt x w' => simp only [Oper.quietUpon] at hq'
      · rw [e2, hw1, if_neg (by simp), e3]
        exact ih b _ _ _ hw hK

theorem FirstA.take {i : Nat} {o : Oper} {v : Value} {T : Option Nat → Array Bool → Act → Prop} (ho : ops[i]? = some o)
    (hsel : ∀ (j : Nat) (o : Oper) cs b, ops[j]? = some o → o.op ≠ .select cs b)
    (hs : sinks md ops f (sp :: hd) = true) (hc : chained md ops f tl = true) (hall : ∀ i, i < ops.size → i ∈ sp :: hd ∨ i ∈ f :: tl) (hdis : ∀ i ∈ sp :: hd, i ∉ f :: tl) (hin : i ∈ hd) (hsp : sp ∉ hd)
    (hT : ∀ b s a, T b s a → ∀ j ∈ Region.ready md ops s, j ∈ f :: tl) (k : Nat) : ∀ (b : Option Nat) (s : Array Bool) (a : Act), Inv md ops (f :: tl) s →
      (∀ j oj, ops[j]? = some oj → j ≠ i → s.getD j true = false → (∀ e ∈ oj.after, Region.binds md e = true → e.on ≠ i) → o.apart ops oj = true) →
      i ∈ Region.ready md ops s → YieldsF P ops C o v a →
      FirstA P md ops C hd sp T k b (s.setIfInBounds i true) (a.put o.dst v) → FirstA P md ops C hd sp T (k + 1) b s a := by
  have inHd : ∀ (s : Array Bool), Inv md ops (f :: tl) s → i ∈ Region.ready md ops s → ∀ j ∈ Region.ready md ops s, j ∈ sp :: hd := by
    intro s inv hr j hj
    have hun := (mem_ready.1 hr).1
    obtain ⟨_, oj, hoj, _⟩ := mem_ready.1 hj
    rcases hall j (Array.getElem?_eq_some_iff.1 hoj).1 with h | h
    · exact h
    · exact absurd hj (last_waits hs hc inv ⟨i, .tail _ hin, hun⟩ j h)
  induction k with
  | zero =>
    intro b s a inv _ hr hy H
    refine ⟨fun h => (by rw [h] at hr; cases hr), fun j hj => ?_⟩
    by_cases hji : j = i
    · subst hji; exact .inr ⟨hin, o, v, ho, hy, H⟩
    · exact absurd (hT _ _ _ H j (ready_mono hj hji)) (hdis j (inHd s inv hr j hj))
  | succ k ih =>
    intro b s a inv hfree hr hy H
    have hun := (mem_ready.1 hr).1
    refine ⟨fun h => (by rw [h] at hr; cases hr), fun j hj => ?_⟩
    by_cases hji : j = i
    · subst hji; exact .inr ⟨hin, o, v, ho, hy, H⟩
    · obtain ⟨hjun, oj, hoj, hja⟩ := mem_ready.1 hj
      have free' : ∀ m om, ops[m]? = some om → m ≠ i → (s.setIfInBounds j true).getD m true = false → (∀ e ∈ om.after, Region.binds md e = true → e.on ≠ i) → o.apart ops om = true := fun m om hm hmi hmu hmn => by
        refine hfree m om hm hmi ?_ hmn
        by_cases hjm : j = m
        · subst hjm; exact hjun
        · rw [getD_set_ne true hjm] at hmu; exact hmu
      have inv' := inv.set hj (hdis j (inHd s inv hr j hj))
      have hr' := ready_mono hr (Ne.symm hji)
      rcases H.2 j (ready_mono hj hji) with ⟨rfl, hb, hg⟩ | ⟨hjd, hq⟩
      · refine .inl ⟨rfl, hb, fun g => ih (some g) _ a inv' free' hr' hy ?_⟩
        rw [Array.setIfInBounds_comm _ _ hji]
        exact hg g
      · have hnot : ∀ e ∈ oj.after, Region.binds md e = true → e.on ≠ i := fun e he hb heq => by
          have h1 := hja e he hb
          rw [heq, getD_both hun] at h1
          cases h1
        refine .inr ⟨hjd, qF_mono (fun a' h3 => ih b _ a' inv' free' hr' h3.1 ?_) (qF_put hoj (hfree j oj hoj hji hjun hnot) (fun cs b => hsel i o cs b ho) (fun cs b => hsel j oj cs b hoj) hy hq)⟩
        rw [Array.setIfInBounds_comm _ _ hji]; exact h3.2

/-- The first part's own order, then the new box, then the last part. -/
def inHeadA (md : Region.Mode) (ops : Array Oper) (sp : Nat) (tl : List Nat) : List Nat → Array Bool → Bool
  | [], s => decide (Region.ready md ops s = [sp]) && inTurn md ops tl (s.setIfInBounds sp true)
  | k :: l, s => (Region.ready md ops s).contains k && Region.free md ops s k && inHeadA md ops sp tl l (s.setIfInBounds k true)

def wpF (P : Program) (ops : Array Oper) (C : Option Nat → World → Prop) (T : Act → Prop) : List Oper → Act → Prop
  | [], a => T a
  | o :: l, a => ∃ v, YieldsF P ops C o v a ∧ wpF P ops C T l (a.put o.dst v)

theorem FirstA.lex {T : Act → Prop} (hsel : Region.noSelect ops = true) (hs : sinks md ops f (sp :: hd) = true) (hc : chained md ops f tl = true) (hall : ∀ i, i < ops.size → i ∈ sp :: hd ∨ i ∈ f :: tl) (hdis : ∀ i ∈ sp :: hd, i ∉ f :: tl) (hsp : sp ∉ hd) :
    ∀ (l : List Nat) (s : Array Bool) (a : Act), (∀ k ∈ l, k ∈ hd) → Inv md ops (f :: tl) s →
    inHeadA md ops sp (f :: tl) l s = true → wpF P ops C T (l.filterMap (ops[·]?)) a →
    FirstA P md ops C hd sp (fun b s' a' => b.isSome = true ∧ inTurn md ops (f :: tl) s' = true ∧ T a') (l.length + 1) none s a
  | [], s, a, _, _, hB, h => by
    simp only [inHeadA, Bool.and_eq_true, decide_eq_true_eq] at hB
    refine ⟨fun e => (by rw [hB.1] at e; cases e), fun i hi => ?_⟩
    rw [hB.1] at hi
    have : i = sp := by simpa using hi
    subst this
    exact .inl ⟨rfl, rfl, fun g => ⟨rfl, hB.2, h⟩⟩
  | k :: l, s, a, hl, inv, hB, h => by
    simp only [inHeadA, Bool.and_eq_true] at hB
    have hr : k ∈ Region.ready md ops s := by simpa using hB.1.1
    obtain ⟨_, o, h0, _⟩ := mem_ready.1 hr
    rw [List.filterMap_cons_some h0] at h
    obtain ⟨v, hy, hK⟩ := h
    exact FirstA.take h0 (Region.noSelect_spec hsel) hs hc hall hdis (hl k (.head _)) hsp (fun b s' a' hT => inTurn_ready _ hT.2.1) (l.length + 1) none s a inv (Region.free_spec h0 hB.1.2) hr hy
      (FirstA.lex hsel hs hc hall hdis hsp l _ _ (fun j hj => hl j (.tail _ hj)) (inv.set hr (hdis k (.tail _ (hl k (.head _))))) hB.2 hK)

/-- The slots that the first part writes: each one slot of the frame's, no two the same. -/
def slotsOk (n : Nat) : List Oper → Bool
  | [] => true
  | o :: l => (match o.dst with | some d => decide (d < n) && l.all (fun x => x.dst != some d) | none => false) && slotsOk n l

theorem put_size (a : Act) (d : Option Nat) (v : Value) : (a.put d v).tmps.size = a.tmps.size := by cases d <;> simp [Act.put]
theorem kept_slot {D : World → Prop} {b : Act} {d : Nat} : ∀ (l : List Oper) (a : Act), l.all (fun x => x.dst != some d) = true → wpQuiet P ops D (fun a' => a' = b) l a → b.tmps[d]? = a.tmps[d]?
  | [], a, _, h => by simp only [wpQuiet] at h; rw [← h]
  | o :: l, a, hl, h => by
    simp only [List.all_cons, Bool.and_eq_true, bne_iff_ne] at hl
    have step : ∀ v, (a.put o.dst v).tmps[d]? = a.tmps[d]? := fun v => by
      cases ho : o.dst with
      | none => rfl
      | some e =>
        have : e ≠ d := fun h => hl.1 (by rw [ho, h])
        simp [Act.put, Array.getElem?_setIfInBounds_ne this]
    simp only [wpQuiet] at h
    split at h
    · obtain ⟨v, _, hK⟩ := h
      rw [kept_slot l _ hl.2 hK, step]
    · rw [kept_slot l _ hl.2 h, step]
theorem wpF_of {b : Act} : ∀ (l : List Oper) (a : Act), slotsOk a.tmps.size l = true → (∃ w, C none w) → (∀ g, (∃ w, C g w) → wpQuiet P ops (C g) (fun a' => a' = b) l a) → wpF P ops C (fun a' => a' = b) l a
  | [], a, _, h0, h => by have := h none h0; simpa [wpQuiet, wpF] using this
  | o :: l, a, hk, h0, h => by
    simp only [slotsOk, Bool.and_eq_true] at hk
    obtain ⟨d, hd, hlt, hl⟩ : ∃ d, o.dst = some d ∧ d < a.tmps.size ∧ l.all (fun x => x.dst != some d) = true := by
      cases ho : o.dst with
      | none => rw [ho] at hk; simp at hk
      | some d => rw [ho] at hk; simp only [Bool.and_eq_true, decide_eq_true_eq] at hk; exact ⟨d, rfl, hk.1.1, hk.1.2⟩
    have at_d : ∀ v, (a.put o.dst v).tmps[d]? = some v := fun v => by rw [hd]; simp [Act.put, hlt]
    by_cases hw : Region.wanted o (yielded ops a.tmps) = true
    · have one : ∀ g, (∃ w, C g w) → ∃ v, b.tmps[d]? = some v ∧ (∀ w, C g w → o.quietAt P a (C g) w v) ∧ wpQuiet P ops (C g) (fun a' => a' = b) l (a.put o.dst v) := fun g hg => by
        have := h g hg
        simp only [wpQuiet] at this
        rw [if_pos hw] at this
        obtain ⟨v, h1, h2⟩ := this
        exact ⟨v, by rw [kept_slot l _ hl h2, at_d], h1, h2⟩
      obtain ⟨v, hv, _, _⟩ := one none h0
      have same : ∀ g, (∃ w, C g w) → (∀ w, C g w → o.quietAt P a (C g) w v) ∧ wpQuiet P ops (C g) (fun a' => a' = b) l (a.put o.dst v) := fun g hg => by
        obtain ⟨u, hu, h1, h2⟩ := one g hg
        have : u = v := Option.some.inj (hu.symm.trans hv)
        subst this
        exact ⟨h1, h2⟩
      exact ⟨v, .inl ⟨hw, fun g w hgw => (same g ⟨w, hgw⟩).1 w hgw⟩, wpF_of l _ (by rw [put_size]; exact hk.2) h0 fun g hg => (same g hg).2⟩
    · refine ⟨undef, .inr ⟨by simpa using hw, rfl⟩, wpF_of l _ (by rw [put_size]; exact hk.2) h0 fun g hg => ?_⟩
      have := h g hg
      simp only [wpQuiet] at this
      rwa [if_neg hw] at this

def fitsA (md : Region.Mode) (ops : Array Oper) (hd : List Nat) (sp f : Nat) (tl : List Nat) : Bool :=
  Region.noSelect ops && sinks md ops f (sp :: hd) && chained md ops f tl && (List.range ops.size).all (fun i => (sp :: hd ++ f :: tl).contains i) && (sp :: hd).all (fun i => !(f :: tl).contains i) && !hd.contains sp &&
    (hd.length + 1 + (f :: tl).length == ops.size) && inHeadA md ops sp (f :: tl) hd (Array.replicate ops.size false) &&
    (match ops[sp]? with
      | some o => o.guard.isNone && hd.all (fun i => match ops[i]? with | some oi => o.apart ops oi | none => true)
      | none => false)

/-- **The two parts, and a new box.** The walk of the first part is done for every class of the family that has a world; its frame at the end is one and the same. -/
theorem boxed {id : Nat} {Q : Exit → Act → World → Prop} {a b : Act} {w : World} {l : List Oper} (C : Option Nat → World → Prop) (hd : List Nat) (sp f : Nat) (tl : List Nat) (hm : P.follows .mixedOrders = true) (hB : fitsA .any l.toArray hd sp f tl = true)
    (hk : slotsOk a.tmps.size (pick l hd) = true) (hos : l[sp]? = some os) (hC : C none w.drew)
    (hal : ∀ (a : Act) w, C none w → ∃ w', (execOp a.eval os).run P w = .ok (.value (ptr w.heap.size)) w' ∧ C (some w.heap.size) w')
    (h : ∀ g, (∃ w, C g w) → wpQuiet P l.toArray (C g) (fun a' => a' = b) (pick l hd) a)
    (ht : ∀ g w', C (some g) w' → wpList P l.toArray Q (pick l (f :: tl)) (b.put os.dst (ptr g)) w') : (Code.region id l.toArray true).wp P Q a w := by
  simp only [pick_eq] at h hk ht
  simp only [fitsA, Bool.and_eq_true] at hB
  obtain ⟨⟨⟨⟨⟨⟨⟨⟨hsel, hs⟩, hc⟩, hall⟩, hdis⟩, hsp⟩, hlen⟩, hlex⟩, hbox⟩ := hB
  have hos' : l.toArray[sp]? = some os := by simpa using hos
  rw [hos'] at hbox
  simp only [Bool.and_eq_true, Option.isNone_iff_eq_none] at hbox
  have hall' : ∀ i, i < l.toArray.size → i ∈ sp :: hd ∨ i ∈ f :: tl := fun i hi => by
    have := List.all_eq_true.1 hall i (List.mem_range.2 hi)
    simpa [or_assoc] using this
  have hdis' : ∀ i ∈ sp :: hd, i ∉ f :: tl := fun i hi => by
    have := List.all_eq_true.1 hdis i hi
    simpa using this
  have hap : ∀ i ∈ hd, ∀ o, l.toArray[i]? = some o → os.apart l.toArray o = true := fun i hi o ho => by
    have := List.all_eq_true.1 hbox.2 i hi
    rwa [ho] at this
  have inv0 : Inv .any l.toArray (f :: tl) (Array.replicate l.toArray.size false) :=
    ⟨by simp, fun j oj _ hl => (by rw [getD_replicate_false] at hl; cases hl), fun t _ => getD_replicate_false _ _⟩
  have e : ∀ ks : List Nat, ks.filterMap (l.toArray[·]?) = ks.filterMap (l[·]?) := fun ks => by simp
  have H := FirstA.lex (P := P) (C := C) (md := .any) (T := fun a' => a' = b) hsel hs hc hall' hdis' (by simpa using hsp) hd _ a (fun _ h => h) inv0 hlex (by rw [e]; exact wpF_of _ a hk ⟨_, hC⟩ h)
  refine wp_region_any hm ?_
  have := FirstA.any (Q := Q) (g := (f :: tl).length) hos' (Region.noSelect_spec hsel) hbox.1 hap hal (fun b' s a' w' hw' hL => by
    obtain ⟨h1, h2, rfl⟩ := hL
    cases b' with
    | none => simp at h1
    | some g => exact any_inTurn (f :: tl) s _ w' h2 (by rw [e]; exact ht g w' hw')) _ none _ _ _ hC H
  rw [beq_iff_eq] at hlen
  rwa [hlen] at this
end
end Go.Proofs.Ytdmebkdikminjaa.Calm
