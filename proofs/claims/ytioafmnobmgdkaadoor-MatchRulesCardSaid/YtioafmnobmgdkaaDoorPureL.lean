/- MatchLonger, MatchRules and MatchOrder answer true. -/
import Derived.Test.YtioafmnobmgdkaaDoorQLawx3
import Derived.Test.YtioafmnobmgdkaaDoorPureM
namespace Go.Proofs.YtioafmnobmgdkaaDoor.Pure
open Go.RowKit Go.Proofs.YtioafmnobmgdkaaDoor.Given Go.Proofs.YtioafmnobmgdkaaDoor.QBase Go.Proofs.YtioafmnobmgdkaaDoor.QMid Go.Proofs.YtioafmnobmgdkaaDoor.QLaw Go.Proofs.YtioafmnobmgdkaaDoor.Glob Go.Proofs.YtioafmnobmgdkaaDoorW.PrintWords Go.Proofs.YtioafmnobmgdkaaDoorW.PrintLast
set_option linter.unusedVariables false
set_option linter.unusedSimpArgs false

/-! ### MatchLonger -/
theorem longer_j1 (x7 x9 : ByteArray) (h7 : x7.size ≤ 100) (h9 : x9.size ≤ 100) (g7 : ∀ c ∈ x7.data.toList, c ≠ 36 ∧ c ≠ 37) (g9 : ∀ c ∈ x9.data.toList, c ≠ 36 ∧ c ≠ 37) (k : Nat) (hk : 200 ≤ k) :
    decorumlaw10_MatchLonger.j1 k x7 x9 false = some true := by
  obtain ⟨k, rfl⟩ : ∃ k', k = k' + 1 := ⟨k - 1, by omega⟩
  have n36 : (36 : UInt8) ∉ x7.data.toList := fun h => (g7 _ h).1 rfl
  have n37 : ∀ c ∈ x7.data.toList, c ≠ 37 := fun c h => (g7 c h).2
  have m37 : ∀ c ∈ x9.data.toList, c ≠ 37 := fun c h => (g9 c h).2
  have hs36 : (⟨#[36]⟩ : ByteArray).size = 1 := rfl
  have hs42 : (⟨#[42]⟩ : ByteArray).size = 1 := rfl
  have l36 : (⟨#[36]⟩ : ByteArray).data.toList = [36] := rfl
  have l42 : (⟨#[42]⟩ : ByteArray).data.toList = [42] := rfl
  have s1 : match_Match.f (x7 ++ (⟨#[42]⟩ : ByteArray)) x9 = some (mt false (fm x7.data.toList) (fm x9.data.toList)) := by
    rw [match_f _ _ (by rw [app_size]; omega) (by omega), app_list, l42, mv_plain _ _ (by
      intro c h
      rcases List.mem_append.mp h with h | h
      · exact n37 c h
      · obtain rfl := List.mem_singleton.mp h; decide) m37 (by
      intro h
      rcases List.mem_append.mp h with h | h
      · exact n36 h
      · exact absurd (List.mem_singleton.mp h) (by decide)), fm_app, fm_star1, mt_star_end]
  have s2 : match_Match.f x7 x9 = some (mt false (fm x7.data.toList) (fm x9.data.toList)) := by
    rw [match_f _ _ (by omega) (by omega), mv_plain _ _ n37 m37 n36]
  have s3 : match_Match.f (x7 ++ (⟨#[36]⟩ : ByteArray)) x9 = some (mt true (fm x7.data.toList) (fm x9.data.toList)) := by
    rw [match_f _ _ (by rw [app_size]; omega) (by omega), app_list, l36, mv_end _ _ n37 m37]
  have s4 := mt_true_false (fm x7.data.toList) (fm x9.data.toList)
  simp only [decorumlaw10_MatchLonger.j1]
  rw [if_neg (by simp), awake_ev k (by omega), Option.bind_some, if_pos rfl, if_pos (by omega), s1, Option.bind_some, s2, Option.bind_some, if_pos (by simp), s3, Option.bind_some]
  by_cases h : mt true (fm x7.data.toList) (fm x9.data.toList) = true
  · rw [if_pos h, s4 h]
  · rw [if_neg h]

theorem longer_l0 (x7 x8 x9 x10 : ByteArray) (h7 : x7.size ≤ 100) (h8 : x8.size ≤ 100) (h9 : x9.size ≤ 100) (e10 : x10.data.toList = x7.data.toList ++ x8.data.toList ++ x9.data.toList) (h10 : x10.size ≤ 300) (m : Nat) :
    ∀ (i k : Nat), x10.size = i + m → (∀ j c, j < i → x10.data.toList[j]? = some c → c ≠ 36 ∧ c ≠ 37) → m + 300 ≤ k → decorumlaw10_MatchLonger.l0 k x7 x8 x9 x10 (i : Int) = some true := by
  induction m with
  | zero =>
    intro i k hi hg hk
    obtain ⟨k, rfl⟩ : ∃ k', k = k' + 1 := ⟨k - 1, by omega⟩
    have g := mem_of_at (P := fun c => c ≠ 36 ∧ c ≠ 37) x10 (fun j c hj => hg j c (by omega))
    rw [e10] at g
    have g7 : ∀ c ∈ x7.data.toList, c ≠ 36 ∧ c ≠ 37 := fun c h => g c (by simp [h])
    have g8 : ∀ c ∈ x8.data.toList, c ≠ 36 ∧ c ≠ 37 := fun c h => g c (by simp [h])
    have g9 : ∀ c ∈ x9.data.toList, c ≠ 36 ∧ c ≠ 37 := fun c h => g c (by simp [h])
    simp only [decorumlaw10_MatchLonger.l0]
    rw [if_neg (by omega), if_pos (by omega)]
    have s1 : match_Match.f (x7 ++ x8) x9 = some (mt false (fm x7.data.toList ++ fm x8.data.toList) (fm x9.data.toList)) := by
      rw [match_f _ _ (by rw [app_size]; omega) (by omega), app_list, mv_plain _ _ (fun c h => (List.mem_append.mp h).elim (fun h => (g7 c h).2) (fun h => (g8 c h).2)) (fun c h => (g9 c h).2)
        (fun h => (List.mem_append.mp h).elim (fun h => (g7 _ h).1 rfl) (fun h => (g8 _ h).1 rfl)), fm_app]
    have s2 : match_Match.f x7 x9 = some (mt false (fm x7.data.toList) (fm x9.data.toList)) := by
      rw [match_f _ _ (by omega) (by omega), mv_plain _ _ (fun c h => (g7 c h).2) (fun c h => (g9 c h).2) (fun h => (g7 _ h).1 rfl)]
    rw [s1, Option.bind_some]
    by_cases h : mt false (fm x7.data.toList ++ fm x8.data.toList) (fm x9.data.toList) = true
    · rw [if_pos h, s2, Option.bind_some, mt_longer _ _ _ h]
      exact longer_j1 x7 x9 h7 h9 g7 g9 k (by omega)
    · rw [if_neg h]
      exact longer_j1 x7 x9 h7 h9 g7 g9 k (by omega)
  | succ m ih =>
    intro i k hi hg hk
    obtain ⟨k, rfl⟩ : ∃ k', k = k' + 1 := ⟨k - 1, by omega⟩
    obtain ⟨c, hc, hb⟩ := bt_ge x10 i (by omega)
    simp only [decorumlaw10_MatchLonger.l0]
    rw [if_pos (by omega), if_pos (by omega), hb]
    by_cases h37 : (c.toNat : Int) = 37
    · rw [if_pos h37, awake_ev k (by omega)]; rfl
    rw [if_neg h37]
    by_cases h36 : (c.toNat : Int) = 36
    · rw [if_pos h36, awake_ev k (by omega)]; rfl
    rw [if_neg h36]
    by_cases h128 : (c.toNat : Int) ≥ 128
    · rw [if_pos h128, awake_ev k (by omega)]; rfl
    rw [if_neg h128, wrap_in ((i : Int) + 1) (by omega) (by omega), show (i : Int) + 1 = ((i + 1 : Nat) : Int) by omega]
    refine ih (i + 1) k (by omega) ?_ (by omega)
    intro j d hj hd
    by_cases e : j = i
    · subst e
      rw [hc] at hd
      cases hd
      exact ⟨ne_of 36 rfl h36, ne_of 37 rfl h37⟩
    · exact hg j d (by omega) hd

theorem MatchLonger : decorumlaw10_MatchLonger.Pure := by
  intro a0 a1 a2 h0 h1 h2
  obtain ⟨b0, e0, s0⟩ := cut_f a0
  obtain ⟨b1, e1, s1⟩ := cut_f a1
  obtain ⟨b2, e2, s2⟩ := cut_f a2
  refine ⟨1000, ?_⟩
  unfold decorumlaw10_MatchLonger.f
  rw [e0, Option.bind_some, e1, Option.bind_some, e2, Option.bind_some, if_pos (by omega), if_pos (by rw [app_size]; omega)]
  exact longer_l0 b0 b1 b2 _ s0 s1 s2 (by rw [app_list, app_list]) (by rw [app_size, app_size]; omega) _ 0 1000 (by rw [Nat.zero_add]) (by intro j c hj; omega) (by rw [app_size, app_size]; omega)

/-! ### rules -/
def mmOf (p : ByteArray) (r : S30) : Bool := matchV r.f1.data.toList p.data.toList
def nOf (r : S30) : Nat := (nf r.f1.data.toList).length
def allowedV (l : List S30) (p : ByteArray) : Bool := (l.foldl (stp (mmOf p) S30.f0 nOf) (-1, true)).2
theorem rd_at (l : List S30) (i : Nat) (h : i < l.length) : rd_T30 l (i : Int) = l[i] := by
  simp [rd_T30, h]
theorem sz (l : List UInt8) : (⟨l.toArray⟩ : ByteArray).size = l.length := rfl

theorem allowed_l0 (p : ByteArray) (hp : p.size ≤ 100) (l : List S30) (hl : l.length ≤ 1000) (hr : ∀ r ∈ l, r.f1.size ≤ 100) (m : Nat) : ∀ (i k : Nat) (b : Int) (ok : Bool), l.length = i + m → m + 1 ≤ k →
    match_Allowed.l0 k p b ok l (l.length : Int) (i : Int) = some ((l.drop i).foldl (stp (mmOf p) S30.f0 nOf) (b, ok)).2 := by
  induction m with
  | zero =>
    intro i k b ok hi hk
    obtain ⟨k, rfl⟩ : ∃ k', k = k' + 1 := ⟨k - 1, by omega⟩
    simp only [match_Allowed.l0]
    rw [if_neg (by omega), List.drop_of_length_le (by omega)]
    rfl
  | succ m ih =>
    intro i k b ok hi hk
    obtain ⟨k, rfl⟩ : ∃ k', k = k' + 1 := ⟨k - 1, by omega⟩
    have hil : i < l.length := by omega
    have hri := hr _ (List.getElem_mem hil)
    simp only [match_Allowed.l0]
    rw [if_pos (by omega), if_pos (by omega), if_pos (by omega), rd_at l i hil, one_f _ (by omega), Option.bind_some, match_f _ _ (by omega) (by omega), Option.bind_some, wrap_in ((i : Int) + 1) (by omega) (by omega), show (i : Int) + 1 = ((i + 1 : Nat) : Int) by omega,
      List.drop_eq_getElem_cons hil, List.foldl_cons, sz]
    generalize l[i] = r at *
    have step : ∀ st : Int × Bool, match_Allowed.l0 k p st.1 st.2 l (l.length : Int) ((i + 1 : Nat) : Int) = some ((l.drop (i + 1)).foldl (stp (mmOf p) S30.f0 nOf) st).2 := fun st => ih (i + 1) k st.1 st.2 (by omega) (by omega)
    have hst : stp (mmOf p) S30.f0 nOf (b, ok) r = if matchV r.f1.data.toList p.data.toList = true then (if ((nf r.f1.data.toList).length : Int) < b then (b, ok) else if r.f0 = true then (((nf r.f1.data.toList).length : Int), true) else if ((nf r.f1.data.toList).length : Int) = b then (((nf r.f1.data.toList).length : Int), ok) else (((nf r.f1.data.toList).length : Int), false)) else (b, ok) := rfl
    rw [hst]
    by_cases c1 : matchV r.f1.data.toList p.data.toList = true
    · rw [if_pos c1, if_pos c1]
      by_cases c2 : ((nf r.f1.data.toList).length : Int) < b
      · rw [if_pos c2, if_pos c2]; exact step (b, ok)
      · rw [if_neg c2, if_neg c2]
        by_cases c3 : r.f0 = true
        · rw [if_pos c3, if_pos c3]; exact step (_, true)
        · rw [if_neg c3, if_neg c3]
          by_cases c4 : ((nf r.f1.data.toList).length : Int) = b
          · rw [if_pos c4, if_pos c4]; exact step (_, ok)
          · rw [if_neg c4, if_neg c4]; exact step (_, false)
    · rw [if_neg c1, if_neg c1]; exact step (b, ok)
theorem allowed_f (p : ByteArray) (hp : p.size ≤ 100) (l : List S30) (hl : l.length ≤ 1000) (hr : ∀ r ∈ l, r.f1.size ≤ 100) (k : Nat) (hk : l.length + 1 ≤ k) : match_Allowed.f k l p = some (allowedV l p) := by
  have := allowed_l0 p hp l hl hr l.length 0 k (-1) true (by omega) hk
  rw [List.drop_zero] at this
  exact this

theorem refall_l1 (p : ByteArray) (hp : p.size ≤ 100) (l : List S30) (hl : l.length ≤ 1000) (hr : ∀ r ∈ l, r.f1.size ≤ 100) (b : Int) (m : Nat) : ∀ (i k : Nat), l.length = i + m → m + 200001 ≤ k →
    decorumref09_Allowed.l1 k l p b (i : Int) = some (((l.drop i).any fun r => r.f0 && ((nOf r : Int) == b) && mmOf p r) || decide (b < 0)) := by
  induction m with
  | zero =>
    intro i k hi hk
    obtain ⟨k, rfl⟩ : ∃ k', k = k' + 1 := ⟨k - 1, by omega⟩
    simp only [decorumref09_Allowed.l1]
    rw [if_neg (by omega), List.drop_of_length_le (by omega)]
    rfl
  | succ m ih =>
    intro i k hi hk
    obtain ⟨k, rfl⟩ : ∃ k', k = k' + 1 := ⟨k - 1, by omega⟩
    have hil : i < l.length := by omega
    have hri := hr _ (List.getElem_mem hil)
    have ih := ih (i + 1) k (by omega) (by omega)
    simp only [decorumref09_Allowed.l1]
    rw [if_pos (by omega), if_pos (by omega), rd_at l i hil, wrap_in ((i : Int) + 1) (by omega) (by omega), show (i : Int) + 1 = ((i + 1 : Nat) : Int) by omega, List.drop_eq_getElem_cons hil, List.any_cons]
    generalize l[i] = r at *
    by_cases c1 : r.f0 = true
    · rw [if_pos c1, form_f _ (by omega) k (by omega), Option.bind_some, sz]
      by_cases c2 : ((nf r.f1.data.toList).length : Int) = b
      · rw [if_pos c2, refmatch_c _ _ hri hp k (by omega), Option.bind_some]
        by_cases c3 : matchV r.f1.data.toList p.data.toList = true
        · rw [if_pos c3]
          simp [c1, nOf, c2, mmOf, c3]
        · rw [if_neg c3, ih]
          simp [mmOf, c3]
      · have e : ((nOf r : Int) == b) = false := by rw [beq_eq_false_iff_ne]; exact c2
        rw [if_neg c2, ih, e]
        simp
    · rw [if_neg c1, ih]
      simp [c1]
theorem refall_l0 (p : ByteArray) (hp : p.size ≤ 100) (l : List S30) (hl : l.length ≤ 1000) (hr : ∀ r ∈ l, r.f1.size ≤ 100) (m : Nat) : ∀ (i k : Nat) (b : Int), l.length = i + m → m + l.length + 200010 ≤ k →
    decorumref09_Allowed.l0 k l p b (i : Int) = some ((l.any fun r => r.f0 && ((nOf r : Int) == (l.drop i).foldl (mst (mmOf p) nOf) b) && mmOf p r) || decide ((l.drop i).foldl (mst (mmOf p) nOf) b < 0)) := by
  induction m with
  | zero =>
    intro i k b hi hk
    obtain ⟨k, rfl⟩ : ∃ k', k = k' + 1 := ⟨k - 1, by omega⟩
    simp only [decorumref09_Allowed.l0]
    rw [if_neg (by omega), List.drop_of_length_le (by omega)]
    have := refall_l1 p hp l hl hr b l.length 0 k (by omega) (by omega)
    rw [List.drop_zero] at this
    exact this
  | succ m ih =>
    intro i k b hi hk
    obtain ⟨k, rfl⟩ : ∃ k', k = k' + 1 := ⟨k - 1, by omega⟩
    have hil : i < l.length := by omega
    have hri := hr _ (List.getElem_mem hil)
    have ih := fun b => ih (i + 1) k b (by omega) (by omega)
    simp only [decorumref09_Allowed.l0]
    rw [if_pos (by omega), if_pos (by omega), rd_at l i hil, refmatch_c _ _ hri hp k (by omega), Option.bind_some, wrap_in ((i : Int) + 1) (by omega) (by omega), show (i : Int) + 1 = ((i + 1 : Nat) : Int) by omega, List.drop_eq_getElem_cons hil, List.foldl_cons]
    generalize l[i] = r at *
    have hst : mst (mmOf p) nOf b r = if matchV r.f1.data.toList p.data.toList = true then (if ((nf r.f1.data.toList).length : Int) > b then ((nf r.f1.data.toList).length : Int) else b) else b := rfl
    rw [hst]
    by_cases c1 : matchV r.f1.data.toList p.data.toList = true
    · rw [if_pos c1, if_pos c1, form_f _ (by omega) k (by omega), Option.bind_some, sz]
      by_cases c2 : ((nf r.f1.data.toList).length : Int) > b
      · rw [if_pos c2, if_pos c2, Option.bind_some]; exact ih _
      · rw [if_neg c2, if_neg c2]; exact ih _
    · rw [if_neg c1, if_neg c1]; exact ih _
theorem refall_f (p : ByteArray) (hp : p.size ≤ 100) (l : List S30) (hl : l.length ≤ 1000) (hr : ∀ r ∈ l, r.f1.size ≤ 100) (k : Nat) (hk : 203000 ≤ k) : decorumref09_Allowed.f k l p = some (allowedV l p) := by
  have := refall_l0 p hp l hl hr l.length 0 k (-1) (by omega) (by omega)
  rw [List.drop_zero] at this
  rw [allowedV, ref_fold]
  exact this

theorem few_l0 (l : List S30) (m : Nat) : ∀ (i k : Nat) (acc : List S30), 20 = i + m → acc.length ≤ i → (∀ r ∈ acc, r.f1.size ≤ 100) → m + 1 ≤ k → ∃ l', decorumlaw10_few.l0 k l acc (i : Int) = some l' ∧ (∀ r ∈ l', r.f1.size ≤ 100) ∧ l'.length ≤ 20 := by
  induction m with
  | zero =>
    intro i k acc hi ha hr hk
    obtain ⟨k, rfl⟩ : ∃ k', k = k' + 1 := ⟨k - 1, by omega⟩
    simp only [decorumlaw10_few.l0]
    refine ⟨acc, ?_, hr, by omega⟩
    by_cases h : (i : Int) < (l.length : Int)
    · rw [if_pos h, if_neg (by omega)]
    · rw [if_neg h]
  | succ m ih =>
    intro i k acc hi ha hr hk
    obtain ⟨k, rfl⟩ : ∃ k', k = k' + 1 := ⟨k - 1, by omega⟩
    simp only [decorumlaw10_few.l0]
    by_cases h : (i : Int) < (l.length : Int)
    · obtain ⟨b, e, s⟩ := cut_f (rd_T30 l (i : Int)).f1
      rw [if_pos h, if_pos (by omega), if_pos (by omega), e, Option.bind_some, if_pos (by omega), wrap_in ((i : Int) + 1) (by omega) (by omega), show (i : Int) + 1 = ((i + 1 : Nat) : Int) by omega]
      refine ih (i + 1) k _ (by omega) (by simp; omega) ?_ (by omega)
      intro r hr'
      rcases List.mem_append.mp hr' with h | h
      · exact hr r h
      · obtain rfl := List.mem_singleton.mp h; exact s
    · rw [if_neg h]
      exact ⟨acc, rfl, hr, by omega⟩
theorem few_f (l : List S30) (k : Nat) (hk : 30 ≤ k) : ∃ l', decorumlaw10_few.f k l = some l' ∧ (∀ r ∈ l', r.f1.size ≤ 100) ∧ l'.length ≤ 20 :=
  few_l0 l 20 0 k [] rfl (by simp) (by simp) (by omega)

theorem MatchRules (l : List S30) (a1 : ByteArray) : decorumlaw10_MatchRules.f 300000 l a1 = some true := by
  obtain ⟨l', e, hr, hl⟩ := few_f l 300000 (by omega)
  obtain ⟨b, e1, s1⟩ := cut_f a1
  unfold decorumlaw10_MatchRules.f
  rw [e, Option.bind_some, e1, Option.bind_some, awake_ev _ (by omega), Option.bind_some, if_pos rfl, allowed_f b s1 l' (by omega) hr _ (by omega), Option.bind_some, refall_f b s1 l' (by omega) hr _ (by omega), Option.bind_some]
  simp

theorem allowedV_mem (l l' : List S30) (p : ByteArray) (h : ∀ r, r ∈ l ↔ r ∈ l') : allowedV l p = allowedV l' p := by
  apply Bool.eq_iff_iff.mpr
  unfold allowedV
  rw [fold_ok, fold_ok]
  exact OKr_of_mem _ _ _ h

theorem order_l0 (p : ByteArray) (hp : p.size ≤ 100) (l : List S30) (hl : l.length ≤ 20) (hr : ∀ r ∈ l, r.f1.size ≤ 100) : ∀ (i : Nat) (acc : List S30) (k : Nat), i ≤ l.length → acc ++ (l.take i).reverse = l.reverse → i + 1000 ≤ k →
    decorumlaw10_MatchOrder.l0 k l p acc ((i : Int) - 1) = some true := by
  intro i
  induction i with
  | zero =>
    intro acc k hi he hk
    obtain ⟨k, rfl⟩ : ∃ k', k = k' + 1 := ⟨k - 1, by omega⟩
    simp only [List.take_zero, List.reverse_nil, List.append_nil] at he
    subst he
    have h2 : ∀ r ∈ ([] ++ l) ++ l, r.f1.size ≤ 100 := by intro r h; exact hr r (by simpa using h)
    have h3 : ∀ r ∈ l.reverse, r.f1.size ≤ 100 := by intro r h; exact hr r (by simpa using h)
    simp only [decorumlaw10_MatchOrder.l0]
    rw [if_neg (by omega), Option.bind_some, if_pos (by simp; omega), Option.bind_some, if_pos (by simp; omega), allowed_f p hp l (by omega) hr k (by omega), Option.bind_some, awake_ev k (by omega), Option.bind_some, if_pos rfl,
      allowed_f p hp l.reverse (by simp; omega) h3 k (by simp; omega), Option.bind_some, if_pos (by rw [allowedV_mem l.reverse l p (by simp)]; simp), allowed_f p hp _ (by simp; omega) h2 k (by simp; omega), Option.bind_some,
      if_pos (by rw [allowedV_mem (([] ++ l) ++ l) l p (by simp)]; simp), allowed_f p hp [] (by simp) (by simp) k (by simp; omega), Option.bind_some]
    rfl
  | succ i ih =>
    intro acc k hi he hk
    obtain ⟨k, rfl⟩ : ∃ k', k = k' + 1 := ⟨k - 1, by omega⟩
    have hla : acc.length ≤ 20 := by
      have := congrArg List.length he
      simp at this
      omega
    simp only [decorumlaw10_MatchOrder.l0]
    rw [show ((i + 1 : Nat) : Int) - 1 = (i : Int) by omega, if_pos (by omega), if_pos (by omega), if_pos (by omega), if_pos (by omega), wrap_in ((i : Int) - 1) (by omega) (by omega), rd_at l i (by omega)]
    refine ih _ k (by omega) ?_ (by omega)
    rw [← he, List.take_succ_eq_append_getElem (by omega), List.reverse_append]
    simp
theorem MatchOrder (l : List S30) (a1 : ByteArray) : decorumlaw10_MatchOrder.f 300000 l a1 = some true := by
  obtain ⟨l', e, hr, hl⟩ := few_f l 300000 (by omega)
  obtain ⟨b, e1, s1⟩ := cut_f a1
  unfold decorumlaw10_MatchOrder.f
  rw [e, Option.bind_some, e1, Option.bind_some, wrap_in _ (by omega) (by omega)]
  exact order_l0 b s1 l' hl hr l'.length [] _ (Nat.le_refl _) (by simp) (by omega)
end Go.Proofs.YtioafmnobmgdkaaDoor.Pure
