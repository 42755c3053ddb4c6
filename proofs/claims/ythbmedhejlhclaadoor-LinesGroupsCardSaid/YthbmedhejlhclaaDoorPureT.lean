/- Plain law: the groups are the document's groups; alike tells it. -/
import Derived.Test.YthbmedhejlhclaaDoorGivF
import Derived.Test.YthbmedhejlhclaaDoorPureS
import Derived.Test.YthbmedhejlhclaaDoorQBasex6
namespace Go.Proofs.YthbmedhejlhclaaDoor.Pure
open Go Go.RowKit Go.Proofs.YthbmedhejlhclaaDoor.QBase Go.Proofs.YthbmedhejlhclaaDoor.Given Go.Proofs.YthbmedhejlhclaaDoorW.PrintWords Go.Proofs.YthbmedhejlhclaaDoorW.PrintLast
set_option linter.unusedVariables false
set_option linter.unusedSimpArgs false

def c57 (x : S53) : S57 := ⟨x.f0, x.f1, x.f2⟩
theorem last_c (gs : List S53) : lastR (gs.map c57) = c57 (lastG gs) := by
  unfold lastR lastG
  rw [List.length_map, List.getD_eq_getElem?_getD, List.getD_eq_getElem?_getD, List.getElem?_map]
  cases gs[gs.length - 1]? <;> rfl
theorem set_c (gs : List S53) (x : S53) : setR (gs.map c57) (c57 x) = (setG gs x).map c57 := by
  unfold setR setG
  rw [List.length_map, List.map_set]
theorem set_same (gs : List S53) : setG gs (lastG gs) = gs := by
  unfold setG lastG
  by_cases h : gs = []
  · subst h; rfl
  · have hl : gs.length - 1 < gs.length := by have := List.length_pos_iff.mpr h; omega
    rw [List.getD_eq_getElem?_getD, List.getElem?_eq_getElem hl, Option.getD_some, List.set_getElem_self]
theorem agent_c (gs : List S53) (op : Bool) (nm : ByteArray) : agentR (gs.map c57) (!op) nm = (agentG gs op nm).map c57 := by
  unfold agentR agentG
  have e : (if (!op) = true then gs.map c57 ++ [z57] else gs.map c57) = (if op = true then gs else gs ++ [z53]).map c57 := by
    cases op with
    | true => rfl
    | false => simp; rfl
  rw [e, last_c, ← set_c]
  rfl
theorem step_c (gs : List S53) (op : Bool) (l : S40) : stepR (gs.map c57, !op) (conv l) = ((Given.stepG (gs, op) l).1.map c57, !(Given.stepG (gs, op) l).2) := by
  unfold stepR Given.stepG conv
  simp only
  by_cases hk : (l.f0.toList == sAgent) = true
  · rw [if_pos hk, if_pos hk, agent_c]
    rfl
  rw [if_neg hk, if_neg hk]
  unfold addG
  by_cases h0 : gs = []
  · rw [if_pos (by rw [h0]; rfl), if_pos h0]
  rw [if_neg (by simpa using h0), if_neg h0]
  by_cases hA : (l.f0.toList == sAllow) = true ∨ (l.f0.toList == sDis) = true
  · rw [if_pos hA, if_pos hA, last_c]
    by_cases hv : l.f1.toList.isEmpty = false ∧ (lastG gs).f1.length < 64
    · rw [if_pos hv, if_pos (show _ ∧ (c57 (lastG gs)).f1.length < 64 from hv), ← set_c]
      rfl
    · rw [if_neg hv, if_neg (show ¬ (_ ∧ (c57 (lastG gs)).f1.length < 64) from hv)]
      rfl
  rw [if_neg hA, if_neg hA]
  by_cases hC : (l.f0.toList == sDelay) = true
  · rw [if_pos hC, if_pos hC, last_c]
    obtain ⟨d1, d2, _⟩ := delay_one l.f1.data.toList
    have e1 : (Given.refD l.f1).2 = (delayV l.f1.data.toList).2 := d1
    cases hok : (delayV l.f1.data.toList).2 with
    | false =>
      rw [if_neg (fun h => by rw [e1, hok] at h; cases h.1), if_neg (by decide)]
      rfl
    | true =>
      have e2 : (Given.refD l.f1).1 = (delayV l.f1.data.toList).1 := d2 hok
      rw [e1, e2, hok, if_pos rfl]
      by_cases hgt : (lastG gs).f2 < ((delayV l.f1.data.toList).1 : Int)
      · rw [if_pos ⟨rfl, hgt⟩, show max (lastG gs).f2 ((delayV l.f1.data.toList).1 : Int) = ((delayV l.f1.data.toList).1 : Int) by omega, ← set_c]
        rfl
      · rw [if_neg (fun h => hgt h.2), show max (lastG gs).f2 ((delayV l.f1.data.toList).1 : Int) = (lastG gs).f2 by omega]
        have : setG gs { lastG gs with f2 := (lastG gs).f2 } = gs := set_same gs
        rw [this]
        rfl
  · rw [if_neg hC, if_neg hC]
theorem fold_c : ∀ (X : List S40) (gs : List S53) (op : Bool), ((X.map conv).foldl stepR (gs.map c57, !op)).1 = ((X.foldl Given.stepG (gs, op)).1).map c57
  | [], gs, op => rfl
  | l :: X, gs, op => by
    rw [List.map_cons, List.foldl_cons, List.foldl_cons, step_c]
    exact fold_c X (Given.stepG (gs, op) l).1 (Given.stepG (gs, op) l).2

/-- No group has more than 64 rules. -/
def Few (gs : List S53) : Prop := ∀ x ∈ gs, x.f1.length ≤ 64
theorem last_few {gs : List S53} (h : Few gs) : (lastG gs).f1.length ≤ 64 := by
  unfold lastG
  rw [List.getD_eq_getElem?_getD]
  by_cases hl : gs.length - 1 < gs.length
  · rw [List.getElem?_eq_getElem hl]
    exact h _ (List.getElem_mem hl)
  · rw [List.getElem?_eq_none (by omega)]
    exact Nat.zero_le _
theorem set_few {gs : List S53} (h : Few gs) (x : S53) (hx : x.f1.length ≤ 64) : Few (setG gs x) := by
  intro y hy
  rcases mem_setG hy with rfl | hy
  · exact hx
  · exact h y hy
theorem step_few (gs : List S53) (op : Bool) (l : S40) (h : Few gs) : Few (Given.stepG (gs, op) l).1 := by
  unfold Given.stepG
  simp only
  split
  · unfold agentG
    have h2 : Few (if op = true then gs else gs ++ [z53]) := by
      split
      · exact h
      · intro x hx
        rcases List.mem_append.mp hx with hx | hx
        · exact h x hx
        · obtain rfl := List.mem_singleton.mp hx; exact Nat.zero_le _
    exact set_few h2 _ (last_few h2)
  · unfold addG
    split
    · exact h
    split
    · simp only
      split
      · rename_i hh
        refine set_few h _ ?_
        have := hh.2
        simp
        omega
      · exact h
    split
    · simp only
      split
      · exact set_few h _ (last_few h)
      · exact h
    · exact h
theorem step_inv {i : Nat} {st : List S53 × Bool} (h : InvG i st) (l : S40) : InvG (i + 1) (Given.stepG st l) := by
  unfold Given.stepG
  split
  · exact InvG.agent h l.f1
  · exact InvG.add h l
theorem fold_inv : ∀ (X : List S40) (st : List S53 × Bool) (i : Nat), InvG i st → Few st.1 → InvG (i + X.length) (X.foldl Given.stepG st) ∧ Few (X.foldl Given.stepG st).1
  | [], st, i, h1, h2 => ⟨h1, h2⟩
  | l :: X, st, i, h1, h2 => by
    have := fold_inv X (Given.stepG st l) (i + 1) (step_inv h1 l) (step_few st.1 st.2 l h2)
    rw [List.foldl_cons, List.length_cons, show i + (X.length + 1) = i + 1 + X.length by omega]
    exact this
def groupsV (X : List S40) : List S53 := (X.foldl Given.stepG ([], false)).1
theorem groups_small (X : List S40) (hX : X.length < 1000000) : (groupsV X).length < 1000000 ∧ ∀ x ∈ groupsV X, x.f0.length < 1000000 ∧ x.f1.length < 1000000 := by
  obtain ⟨h1, h2⟩ := fold_inv X ([], false) 0 ⟨Nat.le_refl _, by simp, by simp⟩ (fun x hx => by cases hx)
  have hl := h1.len
  rw [Nat.zero_add] at hl
  refine ⟨by unfold groupsV; omega, fun x hx => ?_⟩
  have h3 := h1.ags x hx
  have h4 := h2 x hx
  rw [Nat.zero_add] at h3
  exact ⟨by omega, by omega⟩
theorem groups_f (X : List S40) (hX : X.length < 1000000) (hv : ∀ l ∈ X, l.f1.size < 4294967281) : lines_Groups.f X = some (groupsV X) := by
  rw [lines_Groups.f, if_pos ⟨hX, hv⟩]
  rfl
theorem refgroups_f (X : List S40) (hX : X.length < 1000000) (hv : ∀ l ∈ X, l.f1.size < 4294967281) : decorumref09_Groups.f (X.map conv) = some ((groupsV X).map c57) := by
  have hc : (X.map conv).length < 1000000 ∧ (∀ l ∈ X.map conv, l.f1.size < 1099511627776) := by
    refine ⟨by rw [List.length_map]; exact hX, fun l hl => ?_⟩
    obtain ⟨x, hx, rfl⟩ := List.mem_map.mp hl
    have := hv x hx
    show x.f1.size < _
    omega
  rw [decorumref09_Groups.f, if_pos hc]
  exact congrArg some (fold_c X [] false)

theorem rd_c (gs : List S53) (i : Nat) : rd_T57 (gs.map c57) (i : Int) = c57 (rd_T53 gs (i : Int)) := by
  unfold rd_T57 rd_T53
  rw [Int.toNat_natCast, List.getD_eq_getElem?_getD, List.getD_eq_getElem?_getD, List.getElem?_map]
  cases gs[i]? <;> rfl
theorem alike_l2 (gs : List S53) (i : Nat) (hi : i < gs.length) (hl : gs.length < 1000000) (hr : (rd_T53 gs (i : Int)).f1.length < 1000000) (K : Nat) (hK : ∀ k, K ≤ k → decorumlaw09_alike.l0 k gs (gs.map c57) ((i + 1 : Nat) : Int) = some true) :
    ∀ (m j k : Nat), (rd_T53 gs (i : Int)).f1.length - j = m → j ≤ (rd_T53 gs (i : Int)).f1.length → K + m + 1 ≤ k → decorumlaw09_alike.l2 k gs (gs.map c57) (i : Int) (j : Int) = some true := by
  intro m
  induction m with
  | zero =>
    intro j k h1 h2 h3
    obtain ⟨k, rfl⟩ : ∃ k', k = k' + 1 := ⟨k - 1, by omega⟩
    have hw := i1 i (by omega)
    rw [decorumlaw09_alike.l2, if_pos (by omega), if_pos (by omega), if_neg (by omega), hw.out]
    exact hK k (by omega)
  | succ m ih =>
    intro j k h1 h2 h3
    obtain ⟨k, rfl⟩ : ∃ k', k = k' + 1 := ⟨k - 1, by omega⟩
    have hw := i1 j (by omega)
    have same : ∀ p : S59, ((!(p.f0 == p.f0) || (!(p.f1.toList == p.f1.toList))) = true) = False := by intro p; simp
    have e : (c57 (rd_T53 gs (i : Int))).f1 = (rd_T53 gs (i : Int)).f1 := rfl
    rw [decorumlaw09_alike.l2, if_pos (by omega), if_pos (by omega), if_pos (by omega), if_pos (by omega), List.length_map, if_pos (by omega), rd_c, e, if_pos (by omega), if_neg (by rw [same]; exact id), hw.out]
    exact ih (j + 1) k (by omega) (by omega) (by omega)
theorem alike_l1 (gs : List S53) (i : Nat) (hi : i < gs.length) (hl : gs.length < 1000000) (hr : (rd_T53 gs (i : Int)).f0.length < 1000000) (K : Nat) (hK : ∀ k, K ≤ k → decorumlaw09_alike.l2 k gs (gs.map c57) (i : Int) 0 = some true) :
    ∀ (m j k : Nat), (rd_T53 gs (i : Int)).f0.length - j = m → j ≤ (rd_T53 gs (i : Int)).f0.length → K + m + 1 ≤ k → decorumlaw09_alike.l1 k gs (gs.map c57) (i : Int) (j : Int) = some true := by
  intro m
  induction m with
  | zero =>
    intro j k h1 h2 h3
    obtain ⟨k, rfl⟩ : ∃ k', k = k' + 1 := ⟨k - 1, by omega⟩
    rw [decorumlaw09_alike.l1, if_pos (by omega), if_pos (by omega), if_neg (by omega)]
    exact hK k (by omega)
  | succ m ih =>
    intro j k h1 h2 h3
    obtain ⟨k, rfl⟩ : ∃ k', k = k' + 1 := ⟨k - 1, by omega⟩
    have hw := i1 j (by omega)
    have e : (c57 (rd_T53 gs (i : Int))).f0 = (rd_T53 gs (i : Int)).f0 := rfl
    rw [decorumlaw09_alike.l1, if_pos (by omega), if_pos (by omega), if_pos (by omega), if_pos (by omega), List.length_map, if_pos (by omega), rd_c, e, if_pos (by omega), if_pos rfl, hw.out]
    exact ih (j + 1) k (by omega) (by omega) (by omega)
theorem alike_l0 (gs : List S53) (hl : gs.length < 1000000) (hs : ∀ x ∈ gs, x.f0.length < 1000000 ∧ x.f1.length < 1000000) : ∀ (m i : Nat), gs.length - i = m → i ≤ gs.length → ∃ K, ∀ k, K ≤ k → decorumlaw09_alike.l0 k gs (gs.map c57) (i : Int) = some true := by
  intro m
  induction m with
  | zero =>
    intro i h1 h2
    refine ⟨1, fun k hk => ?_⟩
    obtain ⟨k, rfl⟩ : ∃ k', k = k' + 1 := ⟨k - 1, by omega⟩
    rw [decorumlaw09_alike.l0, if_neg (by omega)]
  | succ m ih =>
    intro i h1 h2
    have hi : i < gs.length := by omega
    have hrd : rd_T53 gs (i : Int) = gs[i] := by simp [rd_T53, hi]
    obtain ⟨s0, s1⟩ := hs _ (List.getElem_mem hi)
    obtain ⟨K, hK⟩ := ih (i + 1) (by omega) (by omega)
    have a2 := alike_l2 gs i hi hl (by rw [hrd]; exact s1) K hK
    have a1 := alike_l1 gs i hi hl (by rw [hrd]; exact s0) _ (fun k hk => a2 _ 0 k rfl (Nat.zero_le _) hk)
    have a0 := fun k hk => a1 _ 0 k rfl (Nat.zero_le _) hk
    refine ⟨K + ((rd_T53 gs (i : Int)).f1.length - 0) + 1 + ((rd_T53 gs (i : Int)).f0.length - 0) + 1 + 2, fun k hk => ?_⟩
    obtain ⟨k, rfl⟩ : ∃ k', k = k' + 2 := ⟨k - 2, by omega⟩
    have e0 : (c57 (rd_T53 gs (i : Int))).f0 = (rd_T53 gs (i : Int)).f0 := rfl
    have e1 : (c57 (rd_T53 gs (i : Int))).f1 = (rd_T53 gs (i : Int)).f1 := rfl
    have e2 : (c57 (rd_T53 gs (i : Int))).f2 = (rd_T53 gs (i : Int)).f2 := rfl
    rw [decorumlaw09_alike.l0, if_pos (by omega), if_pos (by omega), List.length_map, if_pos (by omega), rd_c, e0, e1, e2, if_pos rfl, if_pos rfl, bne_self_eq_false, decorumlaw09_alike.j1, if_neg (by decide)]
    exact a0 k (by omega)
theorem alike_f (gs : List S53) (hl : gs.length < 1000000) (hs : ∀ x ∈ gs, x.f0.length < 1000000 ∧ x.f1.length < 1000000) : ∃ K, ∀ k, K ≤ k → decorumlaw09_alike.f k gs (gs.map c57) = some true := by
  obtain ⟨K, hK⟩ := alike_l0 gs hl hs _ 0 rfl (Nat.zero_le _)
  refine ⟨K, fun k hk => ?_⟩
  rw [decorumlaw09_alike.f, if_pos (by rw [List.length_map])]
  exact hK k hk
theorem parse_small (l : List UInt8) (hl : l.length ≤ 4096) : (parseV l).length < 1000000 ∧ ∀ x ∈ parseV l, x.f1.size < 4294967281 := by
  unfold parseV
  have h1 := List.length_filterMap_le sayL (spl [] l)
  have h2 := spl_len l []
  refine ⟨by omega, fun x hx => ?_⟩
  obtain ⟨p, hp, he⟩ := List.mem_filterMap.mp hx
  have h3 := spl_in l [] p hp
  simp only [List.length_nil, Nat.zero_add] at h3
  unfold sayL at he
  split at he
  · obtain rfl := Option.some.inj he
    show (mk (sayV p)).size < _
    rw [mk_size]
    unfold sayV
    have a := trimS_len (Lib.cut (Lib.cut p [35]).1 [58]).2.1 [32, 9]
    have b := cut_room (Lib.cut p [35]).1 [58]
    have c := cut_room p [35]
    omega
  · cases he
theorem cut_4096 (a : ByteArray) : (cut4096 a).data.toList.length ≤ 4096 := by
  show (Lib.trimPrefix (a.extract 0 (min a.size 4096)).data.toList [239, 187, 191]).length ≤ 4096
  have h1 : (a.extract 0 (min a.size 4096)).data.toList.length ≤ 4096 := by
    rw [Lib.extract_data, List.length_take]; omega
  unfold Lib.trimPrefix
  split
  · rw [List.length_drop]; omega
  · exact h1
end Go.Proofs.YthbmedhejlhclaaDoor.Pure
