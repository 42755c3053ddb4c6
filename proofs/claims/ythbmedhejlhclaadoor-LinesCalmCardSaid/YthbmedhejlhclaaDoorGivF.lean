/- decorumref09.Groups: what it answers. -/
import Derived.Test.YthbmedhejlhclaaDoorGivR
import Derived.Test.YthbmedhejlhclaaDoorPureD
namespace Go.Proofs.YthbmedhejlhclaaDoor.Given
open Go.RowKit Go.Proofs.YthbmedhejlhclaaDoor.QBase Go.Proofs.YthbmedhejlhclaaDoorW.PrintWords Go.Proofs.YthbmedhejlhclaaDoorW.PrintLast Go.Proofs.YthbmedhejlhclaaDoorW.PrintMore
set_option linter.unusedVariables false
set_option linter.unusedSimpArgs false
attribute [local go_sem] max2_int min2_int max_two min_two max_three min_three max_four min_four

theorem info57 : (Tryd.prog.info? 57).map (fun i => (i.zero, i.size, i.bytes)) = some (some (.agg #[.slice none 0 0, .slice none 0 0, .int .i64 0]), 3, 56) := by kernel_rfl
def lastR (gs : List S57) : S57 := gs.getD (gs.length - 1) z57
def setR (gs : List S57) (x : S57) : List S57 := gs.set (gs.length - 1) x
def agentR (gs : List S57) (told : Bool) (nm : ByteArray) : List S57 :=
  setR (if told then gs ++ [z57] else gs) { lastR (if told then gs ++ [z57] else gs) with f0 := (lastR (if told then gs ++ [z57] else gs)).f0 ++ [⟨(lowL nm.data.toList).toArray⟩] }
def refD (v : ByteArray) : Nat × Bool := Pure.refL v.data.toList 0 0 false 0
def stepR (st : List S57 × Bool) (l : S28) : List S57 × Bool :=
  if (l.f0.toList == sAgent) = true then (agentR st.1 st.2 l.f1, false)
  else if st.1 = [] then st
  else if (l.f0.toList == sAllow) = true ∨ (l.f0.toList == sDis) = true then
    (if l.f1.toList.isEmpty = false ∧ (lastR st.1).f1.length < 64 then setR st.1 { lastR st.1 with f1 := (lastR st.1).f1 ++ [⟨l.f0.toList == sAllow, l.f1⟩] } else st.1, true)
  else if (l.f0.toList == sDelay) = true then
    (if (refD l.f1).2 = true ∧ (lastR st.1).f2 < ((refD l.f1).1 : Int) then setR st.1 { lastR st.1 with f2 := ((refD l.f1).1 : Int) } else st.1, true)
  else st
def decorumref09_Groups.f (l0 : List S28) : Option (List S57) := if l0.length < 1000000 ∧ (∀ l ∈ l0, l.f1.size < 1099511627776) then some (l0.foldl stepR ([], true)).1 else none
theorem delay_any (v : ByteArray) (hv : v.size < 1099511627776) : ∃ k, decorumref09_Delay.f k v = some (((refD v).1 : Int), (refD v).2) :=
  ⟨4 * v.data.toList.length + 1, Pure.refD v hv v.data.toList 0 0 0 false 0 _ rfl (Nat.zero_le _) (by omega) (.inl ⟨by decide, rfl, rfl⟩) (by omega) (Nat.le_refl _)⟩

/-- What stays so from line to line. -/
structure InvR (i : Nat) (st : List S57 × Bool) : Prop where
  len : st.1.length ≤ i
  ags : ∀ x ∈ st.1, x.f0.length ≤ i
  op : st.2 = false → st.1 ≠ []
theorem mem_setR {gs : List S57} {x y : S57} (h : y ∈ setR gs x) : y = x ∨ y ∈ gs := by
  rcases List.mem_or_eq_of_mem_set h with h | h
  · exact .inr h
  · exact .inl h
theorem lastR_f0 {gs : List S57} {i : Nat} (h : ∀ x ∈ gs, x.f0.length ≤ i) : (lastR gs).f0.length ≤ i := by
  unfold lastR
  rw [List.getD_eq_getElem?_getD]
  by_cases hl : gs.length - 1 < gs.length
  · rw [List.getElem?_eq_getElem hl]
    exact h _ (List.getElem_mem hl)
  · rw [List.getElem?_eq_none (by omega)]
    exact Nat.zero_le _
theorem InvR.agent {i : Nat} {st : List S57 × Bool} (h : InvR i st) (nm : ByteArray) : InvR (i + 1) (agentR st.1 st.2 nm, false) := by
  have key : ∀ G : List S57, G ≠ [] → G.length ≤ i + 1 → (∀ x ∈ G, x.f0.length ≤ i) → InvR (i + 1) (setR G { lastR G with f0 := (lastR G).f0 ++ [⟨(lowL nm.data.toList).toArray⟩] }, false) := by
    intro G hG hl ha
    refine ⟨by simp [setR]; exact hl, fun y hy => ?_, fun _ => ?_⟩
    · rcases mem_setR hy with rfl | hy
      · have := lastR_f0 ha; simp; omega
      · have := ha y hy; omega
    · intro e
      have := congrArg List.length e
      simp [setR] at this
      exact hG this
  unfold agentR
  by_cases ho : st.2 = true
  · rw [if_pos ho]
    refine key _ (by simp) (by have := h.len; simp; omega) ?_
    intro x hx
    rcases List.mem_append.mp hx with hx | hx
    · exact h.ags x hx
    · obtain rfl := List.mem_singleton.mp hx; exact Nat.zero_le _
  · rw [if_neg ho]
    exact key _ (h.op (by cases h2 : st.2; rfl; exact absurd h2 ho)) (by have := h.len; omega) h.ags
theorem InvR.next {i : Nat} {st : List S57 × Bool} (h : InvR i st) (l : S28) : InvR (i + 1) (stepR st l) := by
  have h1 := lastR_f0 h.ags
  have set1 : ∀ x : S57, x.f0 = (lastR st.1).f0 → (setR st.1 x).length ≤ i + 1 ∧ ∀ y ∈ setR st.1 x, y.f0.length ≤ i + 1 := by
    intro x hx
    refine ⟨by have := h.len; simp [setR]; omega, fun y hy => ?_⟩
    rcases mem_setR hy with rfl | hy
    · rw [hx]; omega
    · have := h.ags y hy; omega
  have same : st.1.length ≤ i + 1 ∧ ∀ y ∈ st.1, y.f0.length ≤ i + 1 := ⟨by have := h.len; omega, fun y hy => by have := h.ags y hy; omega⟩
  unfold stepR
  split
  · exact h.agent l.f1
  split
  · exact ⟨same.1, same.2, h.op⟩
  split
  · simp only
    split
    · exact ⟨(set1 _ (by rfl)).1, (set1 _ (by rfl)).2, fun h => (by cases h)⟩
    · exact ⟨same.1, same.2, fun h => (by cases h)⟩
  split
  · simp only
    split
    · exact ⟨(set1 _ (by rfl)).1, (set1 _ (by rfl)).2, fun h => (by cases h)⟩
    · exact ⟨same.1, same.2, fun h => (by cases h)⟩
  · exact ⟨same.1, same.2, h.op⟩

set_option maxHeartbeats 8000000 in
set_option maxRecDepth 1000000 in
theorem decorumref09_Groups.calls (A0 : Option Addr) (c0 : Nat) (l0 : List S28) (r : List S57) (w : World) (hr0 : Kd.C k28 w A0 l0.length l0) (hc0 : l0.length ≤ c0) (h : decorumref09_Groups.f l0 = some r) :
    Calls Tryd.prog 17 #[.slice A0 l0.length c0] w fun e w' => ∃ v0_ : Value, e = .returned v0_ ∧ Kd.S k57 57 w' w.heap.size (fun _ => True) v0_ r ∧ Below w.heap.size w w' := by
  unfold decorumref09_Groups.f at h
  split at h
  case isFalse => cases h
  rename_i hc
  obtain ⟨hl, hv⟩ := hc
  have hfin := Aside0.mk (Option.some.inj h)
  have HR0 := Aside0.mk hr0
  have HV := Aside0.mk hv
  clear h hr0 hc0 hv
  go_enter Tryd.func17, Tryd.ntmps17
  go_wp2_with (first | ((with_reducible refine gate_dst (N := 11) rfl ?_); refine Kd.S_lit k57 _ 57 ?hg (N := 11) ?hd (xs := ([] : List S57)) (inner := []) (ok := fun _ => True) (okp := fun _ => True) ?hr ?hp (fun _ hk => hk) trivial (Below.refl _ _) (Nat.le_refl _) (by simp) ?_; (case hd => rfl); (case hg => rfl); (case hr => first | (go_simp; done) | (go_simp; rfl)); (case hp => exact (Reps.none _ _)); intro v3 w1 ho hb hg_ hnew_; have HS := Aside0.mk ho; have HB := Aside0.mk hb; clear hg_ hnew_ ho hb))
  go_loopw [3, 4, 5] (fun v3 v4 v5 wr => ∃ (i : Nat) (gs : List S57) (told : Bool), v5 = .int .i64 i ∧ v4 = .bool told ∧ i ≤ l0.length ∧ Hid (InvR i (gs, told)) ∧ Aside0 (((l0.drop i).foldl stepR (gs, told)).1 = r) ∧ Aside0 (Kd.S k57 57 wr w.heap.size (fun _ => True) v3 gs) ∧ Aside0 (Below w.heap.size w wr)) (fun v3 v4 v5 wr => l0.length - (intOf v5).toNat)
  case atStart => exact ⟨0, [], true, rfl, rfl, by omega, ⟨Nat.le_refl _, by simp, by simp⟩, hfin, HS, HB⟩
  case round =>
    clear HS HB hfin
    obtain ⟨i, gs, told, rfl, rfl, hi, hinv, hF, HS, HB⟩ := hrel
    by_cases hlt : i < l0.length
    · have hlt' : ((i : Int) < (l0.length : Int)) = True := eq_true (by omega)
      obtain ⟨ad, rfl, hx0, hx1⟩ := at_T28 HR0.out (i : Int) (by omega) (by omega)
      have hrd : rd_T28 l0 (i : Int) = l0[i] := by simp [rd_T28, hlt]
      rw [hrd, Int.toNat_natCast] at hx0 hx1
      have hx0 := (HB.out.cell (World.block_lt_of_cell? w _ hx0)).trans hx0
      have hx1 := (HB.out.cell (World.block_lt_of_cell? w _ hx1)).trans hx1
      have hsz : Hid (l0[i].f1.size < 1099511627776) := HV.out _ (List.getElem_mem hlt)
      have hF2 := hF.out
      rw [List.drop_eq_getElem_cons hlt, List.foldl_cons] at hF2
      have hF2 := Aside0.mk hF2
      obtain ⟨l, hl0⟩ : ∃ l, l = l0[i] := ⟨_, rfl⟩
      rw [← hl0] at hx0 hx1 hsz hF2
      have hnext : Hid (InvR (i + 1) (stepR (gs, told) l)) := InvR.next hinv.out l
      obtain ⟨kk, vv⟩ := l
      simp only at hx0 hx1 hsz
      clear hF hrd hl0
      by_cases hk : (kk.toList == sAgent) = true
      · have hk' : (kk.toList == [117, 115, 101, 114, 45, 97, 103, 101, 110, 116]) = true := hk
        have hstep : stepR (gs, told) ⟨kk, vv⟩ = (agentR gs told vv, false) := by simp only [stepR]; exact if_pos hk
        rw [hstep] at hF2 hnext
        have hle : Aside0 (vv.size ≤ 1099511627776 ∧ gs.length < 1000000 ∧ (∀ x ∈ gs, x.f0.length < 1000000) ∧ (told = false → gs ≠ [])) := ⟨⟨by have h1 := hsz.out; omega, by have h1 : gs.length ≤ i := hinv.out.len; omega, fun x hx => by have h1 : x.f0.length ≤ i := hinv.out.ags x hx; omega, hinv.out.op⟩⟩
        clear hinv
        cases told with
        | true =>
          obtain ⟨A3, c3, rfl⟩ := Kd.S_slice HS.out
          go_upto_region 6 with (fail)
          go_region
          go_upto_region 11 with (first
            | ((with_reducible refine gate_builtin (b := .append) (xs := #[.tmp 31, .tmp 33]) rfl ?_); at_builtin; (refine Kd.S_append k57 (w0 := w) w.heap.size rfl (.tmp 31) (.tmp 33) 36 57 (.agg #[.slice none 0 0, .slice none 0 0, .int .i64 0]) 56 rfl Tryd.underlying36 info57 rfl (by decide) (by omega) (.slice A3 gs.length c3) gs z57 [.slice none 0 0, .slice none 0 0, .int .i64 0] (fun _ => True) (fun _ => False) rfl rfl (k57_mkM _ _ _ z57 (Kd.R_nil _ _ _ _ _) (Kd.R_nil _ _ _ _ _)) (fun _ hk => hk.elim) (fun _ _ => trivial) (Kd.S_mono (Kd.S_drew HS.out) (fun _ _ => ⟨trivial, id⟩)) (below_drew1 HB.out) (below_drew1 HB.out).size (by have h1 := hle.out.2.1; omega) ?_); intro v1 w1 ho hb hg hat; obtain ⟨g1, cap1, rfl, hg1, hg1l, cells1, hcells1⟩ := Kd.S_form ho (by simp); simp only [List.length_append, List.length_singleton] at ho; have HS2 := Aside0.mk ho; have HB2 := Aside0.mk hb; clear hat hg hcells1 ho hb))
          have hfin : agentR gs true vv = setR (gs ++ [z57]) { lastR (gs ++ [z57]) with f0 := (lastR (gs ++ [z57])).f0 ++ [⟨(lowL vv.data.toList).toArray⟩] } := rfl
          have hl0' : (lastR (gs ++ [z57])).f0.length < 1000000 := by simp [lastR, z57]
          have hnG : gs.length + 1 = (gs ++ [z57]).length := by simp
          have hgs : 0 < (gs ++ [z57]).length := by simp
          have hll : (gs ++ [z57]).length < 1000001 := by have := hle.out.2.1; simp; omega
          generalize gs ++ [z57] = G at HS2 hfin hl0' hnG hgs hll ⊢
          generalize gs.length + 1 = n at *
          subst hnG
          clear HS HB hx0 hx1
          generalize w1 = w2 at *
          have HL := Aside0.mk (show decorumref09_Lower.f vv = some ⟨(lowL vv.data.toList).toArray⟩ by rw [decorumref09_Lower.f, if_pos hle.out.1])
          obtain ⟨oki, e0, e1, R0, R1, hcA, hcB, hcC, hfr, hne, hH⟩ := last_open57 HS2.out hgs
          have hw1 : wrap64 ((G.length : Int) - 1) = ((G.length - 1 : Nat) : Int) := by simp only [wrap64]; omega
          have hw2 : IntKind.i64.wrap ((G.length : Int) - 1) = ((G.length - 1 : Nat) : Int) := by rw [i64_w]; exact hw1
          have hlt1 : (((G.length - 1 : Nat) : Int) < (G.length : Int)) = True := eq_true (by omega)
          have hadd : (⟨g1, 0, none⟩ : Addr).add ((G.length - 1) * 3) = ⟨g1, (G.length - 1) * 3, none⟩ := by unfold Addr.add; split <;> simp_all
          have HH := Aside0.mk hH
          have HR0' := Aside0.mk R0
          have HR1 := Aside0.mk R1
          clear hH R0 R1 HS2
          go_wp2
          have HH3 := Aside0.mk (Kd.H_drew HH.out)
          have HR03 := Aside0.mk (Kd.R_drew HR0'.out)
          have HR13 := Aside0.mk (Kd.R_drew HR1.out)
          have HB3 := Aside0.mk (below_drew1 HB2.out)
          have hcA3 : w2.drew.cell? ⟨g1, (G.length - 1) * 3, none⟩ = some e0 := hcA
          have hfr3 : w2.drew.frozen? ⟨g1, (G.length - 1) * 3, none⟩ = false := hfr 0
          refine start_ (n := 18) (S := fun w' => w'.cell? ⟨g1, (G.length - 1) * 3, none⟩ = some e0) (ds := [17]) #[false, false, false, false, false, false, false, false, false, false, false, false, false, false, false, false, false, false] (by kernel_rfl) rfl rfl hcA3 (fun hHeld => ?_)
          generalize w2.drew = w3 at HH3 HR03 HR13 HB3 hcA3 hfr3 hHeld ⊢
          clear HH HR0' HR1 hcA hcB hcC hfr HB2
          refine pure_ (i := 0) (N := some 35) (v := ?_) (a' := ?_) #[true, false, false, false, false, false, false, false, false, false, false, false, false, false, false, false, false, false] rfl rfl (by kernel_rfl) (fun _ _ _ h => h) (Or.inl ⟨by rfl, ?_⟩) ?_ ?_
          rotate_left
          · intro w'
            go_simp
            with_reducible rfl
          rotate_left
          · simp only [Act.put, List.setIfInBounds_toArray, List.set_cons_zero, List.set_cons_succ, i64_w, i32_w]
            rfl
          refine pure_ (i := 1) (N := some 36) (v := ?_) (a' := ?_) #[true, true, false, false, false, false, false, false, false, false, false, false, false, false, false, false, false, false] rfl rfl (by kernel_rfl) (fun _ _ _ h => h) (Or.inl ⟨by rfl, ?_⟩) ?_ ?_
          rotate_left
          · intro w'
            go_simp
            with_reducible rfl
          rotate_left
          · simp only [Act.put, List.setIfInBounds_toArray, List.set_cons_zero, List.set_cons_succ, i64_w, i32_w]
            rfl
          refine pure_ (i := 2) (N := some 37) (v := ?_) (a' := ?_) #[true, true, true, false, false, false, false, false, false, false, false, false, false, false, false, false, false, false] rfl rfl (by kernel_rfl) (fun _ _ _ h => h) (Or.inl ⟨by rfl, ?_⟩) ?_ ?_
          rotate_left
          · intro w'
            go_simp
            with_reducible rfl
          rotate_left
          · simp only [Act.put, List.setIfInBounds_toArray, List.set_cons_zero, List.set_cons_succ, i64_w, i32_w]
            rfl
          refine pure_ (i := 3) (N := some 38) (v := ?_) (a' := ?_) #[true, true, true, true, false, false, false, false, false, false, false, false, false, false, false, false, false, false] rfl rfl (by kernel_rfl) (fun _ _ _ h => h) (Or.inl ⟨by rfl, ?_⟩) ?_ ?_
          rotate_left
          · intro w'
            go_simp
            with_reducible rfl
          rotate_left
          · simp only [Act.put, List.setIfInBounds_toArray, List.set_cons_zero, List.set_cons_succ, i64_w, i32_w]
            rfl
          refine pure_ (i := 4) (N := some 39) (v := ?_) (a' := ?_) #[true, true, true, true, true, false, false, false, false, false, false, false, false, false, false, false, false, false] rfl rfl (by kernel_rfl) (fun _ _ _ h => h) (Or.inl ⟨by rfl, ?_⟩) ?_ ?_
          rotate_left
          · intro w'
            go_simp
            with_reducible rfl
          rotate_left
          · simp only [Act.put, List.setIfInBounds_toArray, List.set_cons_zero, List.set_cons_succ, i64_w, i32_w]
            rfl
          refine pure_ (i := 5) (N := some 40) (v := ?_) (a' := ?_) #[true, true, true, true, true, true, false, false, false, false, false, false, false, false, false, false, false, false] rfl rfl (by kernel_rfl) (fun _ _ _ h => h) (Or.inl ⟨by rfl, ?_⟩) ?_ ?_
          rotate_left
          · intro w'
            go_simp
            with_reducible rfl
          rotate_left
          · simp only [Act.put, List.setIfInBounds_toArray, List.set_cons_zero, List.set_cons_succ, i64_w, i32_w]
            rfl
          refine pure_ (i := 6) (N := some 41) (v := ?_) (a' := ?_) #[true, true, true, true, true, true, true, false, false, false, false, false, false, false, false, false, false, false] rfl rfl (by kernel_rfl) (fun _ _ _ h => h) (Or.inl ⟨by rfl, ?_⟩) ?_ ?_
          rotate_left
          · intro w'
            go_simp
            with_reducible rfl
          rotate_left
          · simp only [Act.put, List.setIfInBounds_toArray, List.set_cons_zero, List.set_cons_succ, i64_w, i32_w]
            rfl
          refine pure_ (i := 7) (N := some 42) (v := ?_) (a' := ?_) #[true, true, true, true, true, true, true, true, false, false, false, false, false, false, false, false, false, false] rfl rfl (by kernel_rfl) (fun _ _ _ h => h) (Or.inl ⟨by rfl, ?_⟩) ?_ ?_
          rotate_left
          · intro w'
            go_simp
            with_reducible rfl
          rotate_left
          · simp only [Act.put, List.setIfInBounds_toArray, List.set_cons_zero, List.set_cons_succ, i64_w, i32_w]
            rfl
          refine pure_ (i := 8) (N := some 43) (v := ?_) (a' := ?_) #[true, true, true, true, true, true, true, true, true, false, false, false, false, false, false, false, false, false] rfl rfl (by kernel_rfl) (fun _ _ _ h => h) (Or.inl ⟨by rfl, ?_⟩) ?_ ?_
          rotate_left
          · intro w'
            go_simp
            with_reducible rfl
          rotate_left
          · simp only [Act.put, List.setIfInBounds_toArray, List.set_cons_zero, List.set_cons_succ, i64_w, i32_w]
            rfl
          refine pure_ (i := 9) (N := some 44) (v := ?_) (a' := ?_) #[true, true, true, true, true, true, true, true, true, true, false, false, false, false, false, false, false, false] rfl rfl (by kernel_rfl) (fun _ _ _ h => h) (Or.inl ⟨by rfl, ?_⟩) ?_ ?_
          rotate_left
          · intro w'
            go_simp
            with_reducible rfl
          rotate_left
          · simp only [Act.put, List.setIfInBounds_toArray, List.set_cons_zero, List.set_cons_succ, i64_w, i32_w]
            rfl
          refine pure_ (i := 11) (N := some 46) (v := ?_) (a' := ?_) #[true, true, true, true, true, true, true, true, true, true, false, true, false, false, false, false, false, false] rfl rfl (by kernel_rfl) (fun _ _ _ h => h) (Or.inl ⟨by rfl, ?_⟩) ?_ ?_
          rotate_left
          · intro w'
            go_simp
            with_reducible rfl
          rotate_left
          · simp only [Act.put, List.setIfInBounds_toArray, List.set_cons_zero, List.set_cons_succ, i64_w, i32_w]
            rfl
          refine take_ (i := 10) (N := some 45) (v := ?_) (a' := ?_) #[true, true, true, true, true, true, true, true, true, true, true, true, false, false, false, false, false, false] rfl rfl (by kernel_rfl) (fun _ _ _ h => h) (Or.inl ⟨by rfl, ?_⟩) hHeld ?_ ?_
          rotate_left
          · rintro w' s0
            go_simp
            with_reducible rfl
          rotate_left
          · simp only [Act.put, List.setIfInBounds_toArray, List.set_cons_zero, List.set_cons_succ, i64_w, i32_w]
            rfl
          refine one_ (i := 12) (N := some 47) #[true, true, true, true, true, true, true, true, true, true, true, true, true, false, false, false, false, false] rfl rfl (by kernel_rfl) (by decide) (fun K hK => ?_)
          refine goes_ Tryd.func23 (by kernel_rfl) rfl #[.string vv] (by rfl) rfl rfl (by (try simp only [List.map_toArray, List.map_cons, List.map_nil]); first | done | rfl) ?_
          with_reducible refine (decorumref09_Lower.calls vv _ _ HL.out).mono ?_
          rintro e w4 ⟨rfl, hb4⟩
          refine ⟨_, rfl, ?_⟩
          have HH4 := Aside0.mk (Kd.H_below HH3.out hb4)
          have HR04 := Aside0.mk (Kd.R_below HR03.out hb4)
          have HR14 := Aside0.mk (Kd.R_below HR13.out hb4)
          have HB4 := Aside0.mk (below_step HB3.out hb4)
          have hcA4 := (hb4.cell (World.block_lt_of_cell? _ _ hcA3)).trans hcA3
          have hfr4 : w4.frozen? ⟨g1, (G.length - 1) * 3, none⟩ = false := (World.frozen?_of_block (w := w3) (hb4.block g1 (World.block_lt_of_cell? _ _ hcA3))).trans hfr3
          clear HH3 HR03 HR13 HB3 hcA3 hfr3 hb4
          refine hK.out _ _ hcA4 (fun hHeld => ?_)
          clear hK K
          refine norm_ (a' := ?_) ?_ ?_
          rotate_left
          · show Act.put _ (some 47) _ = _
            simp only [Act.put, List.setIfInBounds_toArray, List.set_cons_zero, List.set_cons_succ, i64_w, i32_w]
            rfl
          refine one_ (i := 13) (N := some 48) #[true, true, true, true, true, true, true, true, true, true, true, true, true, true, false, false, false, false] rfl rfl (by kernel_rfl) (by decide) (fun K hK => ?_)
          refine value_ (w1 := ?_) (v := ?_) (by rfl) rfl ?_ ?_
          rotate_left 2
          · go_simp
            constructor
            · rfl
            · rfl
          refine hK.out _ _ ((World.cell?_alloc_lt _ _ _ (World.block_lt_of_cell? _ _ hcA4)).trans hcA4) (fun hHeld => ?_)
          clear hK K
          refine norm_ (a' := ?_) ?_ ?_
          rotate_left
          · show Act.put _ (some 48) _ = _
            simp only [Act.put, List.setIfInBounds_toArray, List.set_cons_zero, List.set_cons_succ, i64_w, i32_w]
            rfl
          refine one_ (i := 14) (N := some 49) #[true, true, true, true, true, true, true, true, true, true, true, true, true, true, true, false, false, false] rfl rfl (by kernel_rfl) (by decide) (fun K hK => ?_)
          refine Kd.R_append_step Kd.string (w0 := w) w.heap.size (by rfl) (.tmp 45) (.tmp 48) 44 9 (.string ⟨#[]⟩) 16 rfl Tryd.underlying44 info9 rfl (by decide) (by omega) e0 (G.getD (G.length - 1) z57).f0 ⟨(lowL vv.data.toList).toArray⟩ [.string ⟨(lowL vv.data.toList).toArray⟩] (fun k => oki k ∨ True ∧ w4.heap.size ≤ k) (fun _ => False) rfl rfl rfl (fun _ hk => hk.elim) (fun k hk => .inr ⟨trivial, hk⟩) (Kd.R_mono HR04.out (fun _ hk => .inl hk)) HB4.out HB4.out.size (by have := hl0'; simp only [lastR] at this; omega) ?_
          intro v1 w5 ho hb5 hg hat
          have hgne : some g1 ≠ e0.ownBlock := fun e => hne g1 (HR04.out.1 g1 e.symm) rfl
          have HH5 := Aside0.mk (Kd.H_grown (Kd.H_widen HH4.out) hg (fun k hk => .inl (HR04.out.1 k hk)))
          have HR15 := Aside0.mk (Kd.R_mono (ok' := fun k => oki k ∨ True ∧ w4.heap.size ≤ k) (Kd.R_over' HR14.out (Kd.R_typed HR04.out) (by decide) hg) (fun _ hk => .inl hk))
          have hbk := hg.block g1 (World.block_lt_of_cell? _ _ hcA4) hgne
          have hcA5 : w5.cell? ⟨g1, (G.length - 1) * 3, none⟩ = some e0 := (World.cell?_of_block (w := w4) hbk).trans hcA4
          have hfr5 : w5.frozen? ⟨g1, (G.length - 1) * 3, none⟩ = false := (World.frozen?_of_block (w := w4) hbk).trans hfr4
          have hlt4 : Hid (g1 < w4.heap.size) := World.block_lt_of_cell? _ _ hcA4
          have ho5 := Aside0.mk ho
          have hone := (Kd.R_val ho).2
          have hv1 : ∃ A n c, v1 = .slice A n c := by obtain ⟨A, c, e⟩ := Kd.R_slice ho; exact ⟨A, _, c, e⟩
          refine hK.out _ _ hcA5 (fun hHeld => ?_)
          clear hK K
          refine norm_ (a' := ?_) ?_ ?_
          rotate_left
          · show Act.put _ (some 49) _ = _
            simp only [Act.put, List.setIfInBounds_toArray, List.set_cons_zero, List.set_cons_succ, i64_w, i32_w]
            rfl
          clear HH4 HR04 HR14 HB4 hcA4 hfr4 hgne hg hat hbk ho
          obtain ⟨A1, N1, c1, rfl⟩ := hv1
          refine pure_ (i := 15) (N := some 50) (v := ?_) (a' := ?_) #[true, true, true, true, true, true, true, true, true, true, true, true, true, true, true, true, false, false] rfl rfl (by kernel_rfl) (fun _ _ _ h => h) (Or.inl ⟨by rfl, ?_⟩) ?_ ?_
          rotate_left
          · intro w'
            go_simp
            with_reducible rfl
          rotate_left
          · simp only [Act.put, List.setIfInBounds_toArray, List.set_cons_zero, List.set_cons_succ, i64_w, i32_w]
            rfl
          refine pure_ (i := 16) (N := some 51) (v := ?_) (a' := ?_) #[true, true, true, true, true, true, true, true, true, true, true, true, true, true, true, true, true, false] rfl rfl (by kernel_rfl) (fun _ _ _ h => h) (Or.inl ⟨by rfl, ?_⟩) ?_ ?_
          rotate_left
          · intro w'
            go_simp
            with_reducible rfl
          rotate_left
          · simp only [Act.put, List.setIfInBounds_toArray, List.set_cons_zero, List.set_cons_succ, i64_w, i32_w]
            rfl
          refine last_ (i := 17) (N := none) #[true, true, true, true, true, true, true, true, true, true, true, true, true, true, true, true, true, true] rfl rfl (by kernel_rfl) (by decide) (fun K hK => ?_)
          refine skip_ (w1 := ?_) (by rfl) rfl ?_ ?_
          rotate_left
          · go_simp
            rfl
          refine hK.out _ _ ?_
          clear hK K
          refine done_ (by kernel_rfl) ?_
          have hput := last_put57 HH5.out hgs 0 (by omega) _ hone { lastR G with f0 := (lastR G).f0 ++ [⟨(lowL vv.data.toList).toArray⟩] } (k57_mkM _ _ _ _ ho5.out HR15.out) (fun k hk => hk.elim (hne k) (fun h e => by have := hlt4.out; have := h.2; omega))
          rw [Nat.add_zero] at hput
          have HSn : Aside0 (Kd.S k57 57 (w5.setCell ⟨g1, (G.length - 1) * 3, none⟩ (.slice A1 N1 c1)) w.heap.size (fun _ => True) (.slice (some ⟨g1, 0, none⟩) G.length cap1) (agentR gs true vv)) := ⟨by rw [hfin]; exact hput.1⟩
          have HBn := Aside0.mk (hb5.setCell (p := ⟨g1, (G.length - 1) * 3, none⟩) hg1 (.slice A1 N1 c1))
          clear hput hb5 HH5 HR15 ho5 hcA5 hfr5
          go_wp2
          go_roundw
          case rel => exact ⟨i + 1, agentR gs true vv, false, by go_num, rfl, by omega, hnext, hF2, HSn, HBn⟩
          case measure => simp [intOf]; omega
        | false =>
          have hgs : 0 < gs.length := List.length_pos_iff.mpr (hle.out.2.2.2 rfl)
          obtain ⟨g1, cap1, rfl, hg1, hg1l, cells1, hcells1⟩ := Kd.S_form HS.out hgs
          go_upto_region 6 with (fail)
          go_region
          go_upto_region 11 with (fail)
          have HS2 := Aside0.mk (Kd.S_drew HS.out)
          have HB2 := Aside0.mk (below_drew1 HB.out)
          have hfin : agentR gs false vv = setR gs { lastR gs with f0 := (lastR gs).f0 ++ [⟨(lowL vv.data.toList).toArray⟩] } := rfl
          have hl0' : (lastR gs).f0.length < 1000000 := by
            have : lastR gs ∈ gs := by
              unfold lastR
              rw [List.getD_eq_getElem?_getD, List.getElem?_eq_getElem (by omega)]
              exact List.getElem_mem _
            exact hle.out.2.2.1 _ this
          have hll : gs.length < 1000001 := by have := hle.out.2.1; omega
          clear HS HB hx0 hx1 hcells1
          generalize wr.drew = w2 at *
          have HL := Aside0.mk (show decorumref09_Lower.f vv = some ⟨(lowL vv.data.toList).toArray⟩ by rw [decorumref09_Lower.f, if_pos hle.out.1])
          obtain ⟨oki, e0, e1, R0, R1, hcA, hcB, hcC, hfr, hne, hH⟩ := last_open57 HS2.out hgs
          have hw1 : wrap64 ((gs.length : Int) - 1) = ((gs.length - 1 : Nat) : Int) := by simp only [wrap64]; omega
          have hw2 : IntKind.i64.wrap ((gs.length : Int) - 1) = ((gs.length - 1 : Nat) : Int) := by rw [i64_w]; exact hw1
          have hlt1 : (((gs.length - 1 : Nat) : Int) < (gs.length : Int)) = True := eq_true (by omega)
          have hadd : (⟨g1, 0, none⟩ : Addr).add ((gs.length - 1) * 3) = ⟨g1, (gs.length - 1) * 3, none⟩ := by unfold Addr.add; split <;> simp_all
          have HH := Aside0.mk hH
          have HR0' := Aside0.mk R0
          have HR1 := Aside0.mk R1
          clear hH R0 R1 HS2
          go_wp2
          have HH3 := Aside0.mk (Kd.H_drew HH.out)
          have HR03 := Aside0.mk (Kd.R_drew HR0'.out)
          have HR13 := Aside0.mk (Kd.R_drew HR1.out)
          have HB3 := Aside0.mk (below_drew1 HB2.out)
          have hcA3 : w2.drew.cell? ⟨g1, (gs.length - 1) * 3, none⟩ = some e0 := hcA
          have hfr3 : w2.drew.frozen? ⟨g1, (gs.length - 1) * 3, none⟩ = false := hfr 0
          refine start_ (n := 18) (S := fun w' => w'.cell? ⟨g1, (gs.length - 1) * 3, none⟩ = some e0) (ds := [17]) #[false, false, false, false, false, false, false, false, false, false, false, false, false, false, false, false, false, false] (by kernel_rfl) rfl rfl hcA3 (fun hHeld => ?_)
          generalize w2.drew = w3 at HH3 HR03 HR13 HB3 hcA3 hfr3 hHeld ⊢
          clear HH HR0' HR1 hcA hcB hcC hfr HB2
          refine pure_ (i := 0) (N := some 35) (v := ?_) (a' := ?_) #[true, false, false, false, false, false, false, false, false, false, false, false, false, false, false, false, false, false] rfl rfl (by kernel_rfl) (fun _ _ _ h => h) (Or.inl ⟨by rfl, ?_⟩) ?_ ?_
          rotate_left
          · intro w'
            go_simp
            with_reducible rfl
          rotate_left
          · simp only [Act.put, List.setIfInBounds_toArray, List.set_cons_zero, List.set_cons_succ, i64_w, i32_w]
            rfl
          refine pure_ (i := 1) (N := some 36) (v := ?_) (a' := ?_) #[true, true, false, false, false, false, false, false, false, false, false, false, false, false, false, false, false, false] rfl rfl (by kernel_rfl) (fun _ _ _ h => h) (Or.inl ⟨by rfl, ?_⟩) ?_ ?_
          rotate_left
          · intro w'
            go_simp
            with_reducible rfl
          rotate_left
          · simp only [Act.put, List.setIfInBounds_toArray, List.set_cons_zero, List.set_cons_succ, i64_w, i32_w]
            rfl
          refine pure_ (i := 2) (N := some 37) (v := ?_) (a' := ?_) #[true, true, true, false, false, false, false, false, false, false, false, false, false, false, false, false, false, false] rfl rfl (by kernel_rfl) (fun _ _ _ h => h) (Or.inl ⟨by rfl, ?_⟩) ?_ ?_
          rotate_left
          · intro w'
            go_simp
            with_reducible rfl
          rotate_left
          · simp only [Act.put, List.setIfInBounds_toArray, List.set_cons_zero, List.set_cons_succ, i64_w, i32_w]
            rfl
          refine pure_ (i := 3) (N := some 38) (v := ?_) (a' := ?_) #[true, true, true, true, false, false, false, false, false, false, false, false, false, false, false, false, false, false] rfl rfl (by kernel_rfl) (fun _ _ _ h => h) (Or.inl ⟨by rfl, ?_⟩) ?_ ?_
          rotate_left
          · intro w'
            go_simp
            with_reducible rfl
          rotate_left
          · simp only [Act.put, List.setIfInBounds_toArray, List.set_cons_zero, List.set_cons_succ, i64_w, i32_w]
            rfl
          refine pure_ (i := 4) (N := some 39) (v := ?_) (a' := ?_) #[true, true, true, true, true, false, false, false, false, false, false, false, false, false, false, false, false, false] rfl rfl (by kernel_rfl) (fun _ _ _ h => h) (Or.inl ⟨by rfl, ?_⟩) ?_ ?_
          rotate_left
          · intro w'
            go_simp
            with_reducible rfl
          rotate_left
          · simp only [Act.put, List.setIfInBounds_toArray, List.set_cons_zero, List.set_cons_succ, i64_w, i32_w]
            rfl
          refine pure_ (i := 5) (N := some 40) (v := ?_) (a' := ?_) #[true, true, true, true, true, true, false, false, false, false, false, false, false, false, false, false, false, false] rfl rfl (by kernel_rfl) (fun _ _ _ h => h) (Or.inl ⟨by rfl, ?_⟩) ?_ ?_
          rotate_left
          · intro w'
            go_simp
            with_reducible rfl
          rotate_left
          · simp only [Act.put, List.setIfInBounds_toArray, List.set_cons_zero, List.set_cons_succ, i64_w, i32_w]
            rfl
          refine pure_ (i := 6) (N := some 41) (v := ?_) (a' := ?_) #[true, true, true, true, true, true, true, false, false, false, false, false, false, false, false, false, false, false] rfl rfl (by kernel_rfl) (fun _ _ _ h => h) (Or.inl ⟨by rfl, ?_⟩) ?_ ?_
          rotate_left
          · intro w'
            go_simp
            with_reducible rfl
          rotate_left
          · simp only [Act.put, List.setIfInBounds_toArray, List.set_cons_zero, List.set_cons_succ, i64_w, i32_w]
            rfl
          refine pure_ (i := 7) (N := some 42) (v := ?_) (a' := ?_) #[true, true, true, true, true, true, true, true, false, false, false, false, false, false, false, false, false, false] rfl rfl (by kernel_rfl) (fun _ _ _ h => h) (Or.inl ⟨by rfl, ?_⟩) ?_ ?_
          rotate_left
          · intro w'
            go_simp
            with_reducible rfl
          rotate_left
          · simp only [Act.put, List.setIfInBounds_toArray, List.set_cons_zero, List.set_cons_succ, i64_w, i32_w]
            rfl
          refine pure_ (i := 8) (N := some 43) (v := ?_) (a' := ?_) #[true, true, true, true, true, true, true, true, true, false, false, false, false, false, false, false, false, false] rfl rfl (by kernel_rfl) (fun _ _ _ h => h) (Or.inl ⟨by rfl, ?_⟩) ?_ ?_
          rotate_left
          · intro w'
            go_simp
            with_reducible rfl
          rotate_left
          · simp only [Act.put, List.setIfInBounds_toArray, List.set_cons_zero, List.set_cons_succ, i64_w, i32_w]
            rfl
          refine pure_ (i := 9) (N := some 44) (v := ?_) (a' := ?_) #[true, true, true, true, true, true, true, true, true, true, false, false, false, false, false, false, false, false] rfl rfl (by kernel_rfl) (fun _ _ _ h => h) (Or.inl ⟨by rfl, ?_⟩) ?_ ?_
          rotate_left
          · intro w'
            go_simp
            with_reducible rfl
          rotate_left
          · simp only [Act.put, List.setIfInBounds_toArray, List.set_cons_zero, List.set_cons_succ, i64_w, i32_w]
            rfl
          refine pure_ (i := 11) (N := some 46) (v := ?_) (a' := ?_) #[true, true, true, true, true, true, true, true, true, true, false, true, false, false, false, false, false, false] rfl rfl (by kernel_rfl) (fun _ _ _ h => h) (Or.inl ⟨by rfl, ?_⟩) ?_ ?_
          rotate_left
          · intro w'
            go_simp
            with_reducible rfl
          rotate_left
          · simp only [Act.put, List.setIfInBounds_toArray, List.set_cons_zero, List.set_cons_succ, i64_w, i32_w]
            rfl
          refine take_ (i := 10) (N := some 45) (v := ?_) (a' := ?_) #[true, true, true, true, true, true, true, true, true, true, true, true, false, false, false, false, false, false] rfl rfl (by kernel_rfl) (fun _ _ _ h => h) (Or.inl ⟨by rfl, ?_⟩) hHeld ?_ ?_
          rotate_left
          · rintro w' s0
            go_simp
            with_reducible rfl
          rotate_left
          · simp only [Act.put, List.setIfInBounds_toArray, List.set_cons_zero, List.set_cons_succ, i64_w, i32_w]
            rfl
          refine one_ (i := 12) (N := some 47) #[true, true, true, true, true, true, true, true, true, true, true, true, true, false, false, false, false, false] rfl rfl (by kernel_rfl) (by decide) (fun K hK => ?_)
          refine goes_ Tryd.func23 (by kernel_rfl) rfl #[.string vv] (by rfl) rfl rfl (by (try simp only [List.map_toArray, List.map_cons, List.map_nil]); first | done | rfl) ?_
          with_reducible refine (decorumref09_Lower.calls vv _ _ HL.out).mono ?_
          rintro e w4 ⟨rfl, hb4⟩
          refine ⟨_, rfl, ?_⟩
          have HH4 := Aside0.mk (Kd.H_below HH3.out hb4)
          have HR04 := Aside0.mk (Kd.R_below HR03.out hb4)
          have HR14 := Aside0.mk (Kd.R_below HR13.out hb4)
          have HB4 := Aside0.mk (below_step HB3.out hb4)
          have hcA4 := (hb4.cell (World.block_lt_of_cell? _ _ hcA3)).trans hcA3
          have hfr4 : w4.frozen? ⟨g1, (gs.length - 1) * 3, none⟩ = false := (World.frozen?_of_block (w := w3) (hb4.block g1 (World.block_lt_of_cell? _ _ hcA3))).trans hfr3
          clear HH3 HR03 HR13 HB3 hcA3 hfr3 hb4
          refine hK.out _ _ hcA4 (fun hHeld => ?_)
          clear hK K
          refine norm_ (a' := ?_) ?_ ?_
          rotate_left
          · show Act.put _ (some 47) _ = _
            simp only [Act.put, List.setIfInBounds_toArray, List.set_cons_zero, List.set_cons_succ, i64_w, i32_w]
            rfl
          refine one_ (i := 13) (N := some 48) #[true, true, true, true, true, true, true, true, true, true, true, true, true, true, false, false, false, false] rfl rfl (by kernel_rfl) (by decide) (fun K hK => ?_)
          refine value_ (w1 := ?_) (v := ?_) (by rfl) rfl ?_ ?_
          rotate_left 2
          · go_simp
            constructor
            · rfl
            · rfl
          refine hK.out _ _ ((World.cell?_alloc_lt _ _ _ (World.block_lt_of_cell? _ _ hcA4)).trans hcA4) (fun hHeld => ?_)
          clear hK K
          refine norm_ (a' := ?_) ?_ ?_
          rotate_left
          · show Act.put _ (some 48) _ = _
            simp only [Act.put, List.setIfInBounds_toArray, List.set_cons_zero, List.set_cons_succ, i64_w, i32_w]
            rfl
          refine one_ (i := 14) (N := some 49) #[true, true, true, true, true, true, true, true, true, true, true, true, true, true, true, false, false, false] rfl rfl (by kernel_rfl) (by decide) (fun K hK => ?_)
          refine Kd.R_append_step Kd.string (w0 := w) w.heap.size (by rfl) (.tmp 45) (.tmp 48) 44 9 (.string ⟨#[]⟩) 16 rfl Tryd.underlying44 info9 rfl (by decide) (by omega) e0 (gs.getD (gs.length - 1) z57).f0 ⟨(lowL vv.data.toList).toArray⟩ [.string ⟨(lowL vv.data.toList).toArray⟩] (fun k => oki k ∨ True ∧ w4.heap.size ≤ k) (fun _ => False) rfl rfl rfl (fun _ hk => hk.elim) (fun k hk => .inr ⟨trivial, hk⟩) (Kd.R_mono HR04.out (fun _ hk => .inl hk)) HB4.out HB4.out.size (by have := hl0'; simp only [lastR] at this; omega) ?_
          intro v1 w5 ho hb5 hg hat
          have hgne : some g1 ≠ e0.ownBlock := fun e => hne g1 (HR04.out.1 g1 e.symm) rfl
          have HH5 := Aside0.mk (Kd.H_grown (Kd.H_widen HH4.out) hg (fun k hk => .inl (HR04.out.1 k hk)))
          have HR15 := Aside0.mk (Kd.R_mono (ok' := fun k => oki k ∨ True ∧ w4.heap.size ≤ k) (Kd.R_over' HR14.out (Kd.R_typed HR04.out) (by decide) hg) (fun _ hk => .inl hk))
          have hbk := hg.block g1 (World.block_lt_of_cell? _ _ hcA4) hgne
          have hcA5 : w5.cell? ⟨g1, (gs.length - 1) * 3, none⟩ = some e0 := (World.cell?_of_block (w := w4) hbk).trans hcA4
          have hfr5 : w5.frozen? ⟨g1, (gs.length - 1) * 3, none⟩ = false := (World.frozen?_of_block (w := w4) hbk).trans hfr4
          have hlt4 : Hid (g1 < w4.heap.size) := World.block_lt_of_cell? _ _ hcA4
          have ho5 := Aside0.mk ho
          have hone := (Kd.R_val ho).2
          have hv1 : ∃ A n c, v1 = .slice A n c := by obtain ⟨A, c, e⟩ := Kd.R_slice ho; exact ⟨A, _, c, e⟩
          refine hK.out _ _ hcA5 (fun hHeld => ?_)
          clear hK K
          refine norm_ (a' := ?_) ?_ ?_
          rotate_left
          · show Act.put _ (some 49) _ = _
            simp only [Act.put, List.setIfInBounds_toArray, List.set_cons_zero, List.set_cons_succ, i64_w, i32_w]
            rfl
          clear HH4 HR04 HR14 HB4 hcA4 hfr4 hgne hg hat hbk ho
          obtain ⟨A1, N1, c1, rfl⟩ := hv1
          refine pure_ (i := 15) (N := some 50) (v := ?_) (a' := ?_) #[true, true, true, true, true, true, true, true, true, true, true, true, true, true, true, true, false, false] rfl rfl (by kernel_rfl) (fun _ _ _ h => h) (Or.inl ⟨by rfl, ?_⟩) ?_ ?_
          rotate_left
          · intro w'
            go_simp
            with_reducible rfl
          rotate_left
          · simp only [Act.put, List.setIfInBounds_toArray, List.set_cons_zero, List.set_cons_succ, i64_w, i32_w]
            rfl
          refine pure_ (i := 16) (N := some 51) (v := ?_) (a' := ?_) #[true, true, true, true, true, true, true, true, true, true, true, true, true, true, true, true, true, false] rfl rfl (by kernel_rfl) (fun _ _ _ h => h) (Or.inl ⟨by rfl, ?_⟩) ?_ ?_
          rotate_left
          · intro w'
            go_simp
            with_reducible rfl
          rotate_left
          · simp only [Act.put, List.setIfInBounds_toArray, List.set_cons_zero, List.set_cons_succ, i64_w, i32_w]
            rfl
          refine last_ (i := 17) (N := none) #[true, true, true, true, true, true, true, true, true, true, true, true, true, true, true, true, true, true] rfl rfl (by kernel_rfl) (by decide) (fun K hK => ?_)
          refine skip_ (w1 := ?_) (by rfl) rfl ?_ ?_
          rotate_left
          · go_simp
            rfl
          refine hK.out _ _ ?_
          clear hK K
          refine done_ (by kernel_rfl) ?_
          have hput := last_put57 HH5.out hgs 0 (by omega) _ hone { lastR gs with f0 := (lastR gs).f0 ++ [⟨(lowL vv.data.toList).toArray⟩] } (k57_mkM _ _ _ _ ho5.out HR15.out) (fun k hk => hk.elim (hne k) (fun h e => by have := hlt4.out; have := h.2; omega))
          rw [Nat.add_zero] at hput
          have HSn : Aside0 (Kd.S k57 57 (w5.setCell ⟨g1, (gs.length - 1) * 3, none⟩ (.slice A1 N1 c1)) w.heap.size (fun _ => True) (.slice (some ⟨g1, 0, none⟩) gs.length cap1) (agentR gs false vv)) := ⟨by rw [hfin]; exact hput.1⟩
          have HBn := Aside0.mk (hb5.setCell (p := ⟨g1, (gs.length - 1) * 3, none⟩) hg1 (.slice A1 N1 c1))
          clear hput hb5 HH5 HR15 ho5 hcA5 hfr5
          go_wp2
          go_roundw
          case rel => exact ⟨i + 1, agentR gs false vv, false, by go_num, rfl, by omega, hnext, hF2, HSn, HBn⟩
          case measure => simp [intOf]; omega
      · have hk' : (kk.toList == [117, 115, 101, 114, 45, 97, 103, 101, 110, 116]) = false := by cases h : (kk.toList == [117, 115, 101, 114, 45, 97, 103, 101, 110, 116]); rfl; exact absurd h hk
        by_cases hgs0 : gs = []
        · subst hgs0
          have hstep : stepR ([], told) ⟨kk, vv⟩ = ([], told) := by simp only [stepR]; rw [if_neg hk]; rfl
          rw [hstep] at hF2 hnext
          obtain ⟨A3, c3, rfl⟩ := Kd.S_slice HS.out
          clear hinv hk hstep
          simp only [List.length_nil] at HS ⊢
          go_upto_region 6 with (fail)
          go_region
          go_wp2
          go_roundw
          case rel => exact ⟨i + 1, [], told, by go_num, rfl, by omega, hnext, hF2, ⟨Kd.S_drew HS.out⟩, ⟨below_drew1 HB.out⟩⟩
          case measure => simp [intOf]; omega
        have hgs : 0 < gs.length := List.length_pos_iff.mpr hgs0
        have hll : gs.length < 1000000 := by have h1 : gs.length ≤ i := hinv.out.len; omega
        obtain ⟨g1, cap1, rfl, hg1, hg1l, cells1, hcells1⟩ := Kd.S_form HS.out hgs
        have hn0 : ((gs.length : Int) == 0) = false := by simp; exact hgs0
        clear hinv hcells1 hg1l
        go_upto_region 6 with (fail)
        go_region
        have HS2 := Aside0.mk (Kd.S_drew HS.out)
        have HB2 := Aside0.mk (below_drew1 HB.out)
        clear HS HB hx0 hx1
        generalize wr.drew = w2 at HS2 HB2 ⊢
        by_cases hA : (kk.toList == sAllow) = true ∨ (kk.toList == sDis) = true
        · have hAD : ∃ isA : Bool, (kk.toList == sAllow) = isA ∧ ((kk.toList == [97, 108, 108, 111, 119]) = true ∧ isA = true ∨ (kk.toList == [97, 108, 108, 111, 119]) = false ∧ (kk.toList == [100, 105, 115, 97, 108, 108, 111, 119]) = true ∧ isA = false) := by
            cases h1 : (kk.toList == sAllow) with
            | true => exact ⟨true, rfl, .inl ⟨h1, rfl⟩⟩
            | false => exact ⟨false, rfl, .inr ⟨h1, by rcases hA with h | h; rw [h1] at h; cases h; exact h, rfl⟩⟩
          obtain ⟨isA, hisA, hAD⟩ := hAD
          rcases hAD with ⟨hkA, rfl⟩ | ⟨hkA, hkD, rfl⟩
          · have e3 : (kk.toList == [99, 114, 97, 119, 108, 45, 100, 101, 108, 97, 121]) = false := by rw [eq_of_beq hkA]; decide
            have hfin1 : ∀ x, (if vv.toList.isEmpty = false ∧ (lastR gs).f1.length < 64 then setR gs { lastR gs with f1 := (lastR gs).f1 ++ [⟨kk.toList == sAllow, vv⟩] } else gs) = x → stepR (gs, told) ⟨kk, vv⟩ = (x, true) := by intro x hx; simp only [stepR]; rw [if_neg hk, if_neg hgs0, if_pos hA, hx]
            rw [hisA] at hfin1
            clear hA hisA hk
            obtain ⟨oki, e0, e1, R0, R1, hcA, hcB, hcC, hfr, hne, hH⟩ := last_open57 HS2.out hgs
            obtain ⟨A1, c1, he1⟩ := Kd.R_slice R1
            obtain ⟨N1, hN1⟩ : ∃ N, N = (gs.getD (gs.length - 1) z57).f1.length := ⟨_, rfl⟩
            rw [← hN1] at he1
            subst he1
            replace hN1 : Hid (N1 = (gs.getD (gs.length - 1) z57).f1.length) := hN1
            have hw1 : wrap64 ((gs.length : Int) - 1) = ((gs.length - 1 : Nat) : Int) := by simp only [wrap64]; omega
            have hw2 : IntKind.i64.wrap ((gs.length : Int) - 1) = ((gs.length - 1 : Nat) : Int) := by rw [i64_w]; exact hw1
            have hlt1 : (((gs.length - 1 : Nat) : Int) < (gs.length : Int)) = True := eq_true (by clear hw1 hw2; omega)
            have hadd : (⟨g1, 0, none⟩ : Addr).add ((gs.length - 1) * 3) = ⟨g1, (gs.length - 1) * 3, none⟩ := by unfold Addr.add; split <;> simp_all
            by_cases hv : vv.toList.isEmpty = false ∧ N1 < 64
            · obtain ⟨hv1, hv2⟩ := hv
              have hfin := hfin1 _ (if_pos ⟨hv1, by have := hN1.out; show (gs.getD (gs.length - 1) z57).f1.length < 64; clear hw1 hw2; omega⟩)
              rw [hfin] at hF2 hnext
              have hv3 : ((N1 : Int) < 64) = True := eq_true (by clear hw1 hw2; omega)
              have hv4 : (vv.toList = []) = False := eq_false (by intro e; rw [e] at hv1; cases hv1)
              have HH := Aside0.mk hH
              have HR0' := Aside0.mk R0
              have HR1 := Aside0.mk R1
              have hcB0 := Aside0.mk hcB
              have hfr1 := Aside0.mk (hfr 1)
              have hne' := Aside0.mk hne
              clear hH R0 R1 hcA hcC hfr hfin1 hfin hne hn0
              replace hn0 : ((gs.length : Int) == 0) = false := by simp; exact hgs0
              go_wp2_with (first
                | ((with_reducible refine gate_builtin (b := .append) (xs := #[.tmp 106, .tmp 111]) rfl ?_); at_builtin; (refine Kd.R_append k59 (w0 := w) w.heap.size rfl (.tmp 106) (.tmp 111) 51 59 (.agg #[.bool false, .string ⟨#[]⟩]) 24 rfl Tryd.underlying51 info59 rfl (by decide) (by omega) (.slice A1 N1 c1) (gs.getD (gs.length - 1) z57).f1 ⟨true, vv⟩ [.bool true, .string vv] (fun k => oki k ∨ True ∧ w2.heap.size ≤ k) (fun _ => False) rfl rfl (k59_mkM _ _ _ _) (fun _ hk => hk.elim) (fun k hk => .inr ⟨trivial, hk⟩) (Kd.R_mono HR1.out (fun _ hk => .inl hk)) HB2.out HB2.out.size (by have := hN1.out; clear hw1 hw2; omega) ?_); intro v1 w5 ho hb5 hg hat; have hgne : some g1 ≠ (Value.slice A1 N1 c1).ownBlock := fun e => hne'.out g1 (HR1.out.1 g1 e.symm) rfl; have HH5 := Aside0.mk (Kd.H_grown (Kd.H_widen HH.out) hg (fun k hk => .inl (HR1.out.1 k hk))); have HR05 := Aside0.mk (Kd.R_mono (ok' := fun k => oki k ∨ True ∧ w2.heap.size ≤ k) (Kd.R_over' HR0'.out (Kd.R_typed HR1.out) (by decide) hg) (fun _ hk => .inl hk)); have hbk := hg.block g1 (World.block_lt_of_cell? _ _ hcB0.out) hgne; have hfr5 : w5.frozen? ⟨g1, (gs.length - 1) * 3 + 1, none⟩ = false := (World.frozen?_of_block (w := w2) hbk).trans hfr1.out; have hcB5 : w5.cell? ⟨g1, (gs.length - 1) * 3 + 1, none⟩ = some (.slice A1 N1 c1) := (World.cell?_of_block (w := w2) hbk).trans hcB0.out; have hlt4 : Hid (g1 < w2.heap.size) := World.block_lt_of_cell? _ _ hcB0.out; have ho5 := Aside0.mk ho; have hone := Aside0.mk (Kd.R_val ho).2; have HB5 := Aside0.mk hb5; have hv1' : ∃ A n c, v1 = .slice A n c := (by obtain ⟨A, c, e⟩ := Kd.R_slice ho; exact ⟨A, _, c, e⟩); obtain ⟨A2, N2, c2, rfl⟩ := hv1'; clear hcB hg hat hbk ho hb5 hgne))
              have hput := last_put57 HH5.out hgs 1 (by clear hw1 hw2; omega) _ hone.out { lastR gs with f1 := (lastR gs).f1 ++ [⟨true, vv⟩] } (k57_mkM _ _ _ ({ lastR gs with f1 := (lastR gs).f1 ++ [⟨true, vv⟩] } : S57) HR05.out ho5.out) (fun k hk => hk.elim (hne'.out k) (fun h e => by have h1 := hlt4.out; have h2 := h.2; clear hw1 hw2; omega))
              have HSn : Aside0 (Kd.S k57 57 (w5.setCell ⟨g1, (gs.length - 1) * 3 + 1, none⟩ (.slice A2 N2 c2)) w.heap.size (fun _ => True) (.slice (some ⟨g1, 0, none⟩) gs.length cap1) (setR gs { lastR gs with f1 := (lastR gs).f1 ++ [⟨true, vv⟩] })) := ⟨hput.1⟩
              have HBn := Aside0.mk (HB5.out.setCell (p := ⟨g1, (gs.length - 1) * 3 + 1, none⟩) hg1 (.slice A2 N2 c2))
              clear hput
              go_roundw
              case rel => exact ⟨i + 1, _, true, by go_num, rfl, by omega, hnext, hF2, HSn, HBn⟩
              case measure => simp [intOf]; omega
            · have hfin := hfin1 _ (if_neg (fun hh => hv ⟨hh.1, by have h2 : (gs.getD (gs.length - 1) z57).f1.length < 64 := hh.2; have := hN1.out; clear hw1 hw2; omega⟩))
              rw [hfin] at hF2 hnext
              have key : vv.toList.isEmpty = true ∨ (vv.toList.isEmpty = false ∧ ((N1 : Int) < 64) = False) := by cases h : vv.toList.isEmpty; exact .inr ⟨rfl, eq_false (fun h2 => hv ⟨h, by clear hw1 hw2; omega⟩)⟩; exact .inl rfl
              clear hH R0 R1 hcA hcC hfr hfin1 hv hfin
              rcases key with hv1 | ⟨hv1, hv3⟩
              · have hv4 : (vv.toList = []) = True := eq_true (by simpa using hv1)
                go_wp2
                go_roundw
                case rel => exact ⟨i + 1, gs, true, by go_num, rfl, by omega, hnext, hF2, HS2, HB2⟩
                case measure => simp [intOf]; omega
              · have hv4 : (vv.toList = []) = False := eq_false (by intro e; rw [e] at hv1; cases hv1)
                go_wp2
                go_roundw
                case rel => exact ⟨i + 1, gs, true, by go_num, rfl, by omega, hnext, hF2, HS2, HB2⟩
                case measure => simp [intOf]; omega
          · have e3 : (kk.toList == [99, 114, 97, 119, 108, 45, 100, 101, 108, 97, 121]) = false := by rw [eq_of_beq hkD]; decide
            have hfin1 : ∀ x, (if vv.toList.isEmpty = false ∧ (lastR gs).f1.length < 64 then setR gs { lastR gs with f1 := (lastR gs).f1 ++ [⟨kk.toList == sAllow, vv⟩] } else gs) = x → stepR (gs, told) ⟨kk, vv⟩ = (x, true) := by intro x hx; simp only [stepR]; rw [if_neg hk, if_neg hgs0, if_pos hA, hx]
            rw [hisA] at hfin1
            clear hA hisA hk
            obtain ⟨oki, e0, e1, R0, R1, hcA, hcB, hcC, hfr, hne, hH⟩ := last_open57 HS2.out hgs
            obtain ⟨A1, c1, he1⟩ := Kd.R_slice R1
            obtain ⟨N1, hN1⟩ : ∃ N, N = (gs.getD (gs.length - 1) z57).f1.length := ⟨_, rfl⟩
            rw [← hN1] at he1
            subst he1
            replace hN1 : Hid (N1 = (gs.getD (gs.length - 1) z57).f1.length) := hN1
            have hw1 : wrap64 ((gs.length : Int) - 1) = ((gs.length - 1 : Nat) : Int) := by simp only [wrap64]; omega
            have hw2 : IntKind.i64.wrap ((gs.length : Int) - 1) = ((gs.length - 1 : Nat) : Int) := by rw [i64_w]; exact hw1
            have hlt1 : (((gs.length - 1 : Nat) : Int) < (gs.length : Int)) = True := eq_true (by clear hw1 hw2; omega)
            have hadd : (⟨g1, 0, none⟩ : Addr).add ((gs.length - 1) * 3) = ⟨g1, (gs.length - 1) * 3, none⟩ := by unfold Addr.add; split <;> simp_all
            by_cases hv : vv.toList.isEmpty = false ∧ N1 < 64
            · obtain ⟨hv1, hv2⟩ := hv
              have hfin := hfin1 _ (if_pos ⟨hv1, by have := hN1.out; show (gs.getD (gs.length - 1) z57).f1.length < 64; clear hw1 hw2; omega⟩)
              rw [hfin] at hF2 hnext
              have hv3 : ((N1 : Int) < 64) = True := eq_true (by clear hw1 hw2; omega)
              have hv4 : (vv.toList = []) = False := eq_false (by intro e; rw [e] at hv1; cases hv1)
              have HH := Aside0.mk hH
              have HR0' := Aside0.mk R0
              have HR1 := Aside0.mk R1
              have hcB0 := Aside0.mk hcB
              have hfr1 := Aside0.mk (hfr 1)
              have hne' := Aside0.mk hne
              clear hH R0 R1 hcA hcC hfr hfin1 hfin hne hn0
              replace hn0 : ((gs.length : Int) == 0) = false := by simp; exact hgs0
              go_wp2_with (first
                | ((with_reducible refine gate_builtin (b := .append) (xs := #[.tmp 106, .tmp 111]) rfl ?_); at_builtin; (refine Kd.R_append k59 (w0 := w) w.heap.size rfl (.tmp 106) (.tmp 111) 51 59 (.agg #[.bool false, .string ⟨#[]⟩]) 24 rfl Tryd.underlying51 info59 rfl (by decide) (by omega) (.slice A1 N1 c1) (gs.getD (gs.length - 1) z57).f1 ⟨false, vv⟩ [.bool false, .string vv] (fun k => oki k ∨ True ∧ w2.heap.size ≤ k) (fun _ => False) rfl rfl (k59_mkM _ _ _ _) (fun _ hk => hk.elim) (fun k hk => .inr ⟨trivial, hk⟩) (Kd.R_mono HR1.out (fun _ hk => .inl hk)) HB2.out HB2.out.size (by have := hN1.out; clear hw1 hw2; omega) ?_); intro v1 w5 ho hb5 hg hat; have hgne : some g1 ≠ (Value.slice A1 N1 c1).ownBlock := fun e => hne'.out g1 (HR1.out.1 g1 e.symm) rfl; have HH5 := Aside0.mk (Kd.H_grown (Kd.H_widen HH.out) hg (fun k hk => .inl (HR1.out.1 k hk))); have HR05 := Aside0.mk (Kd.R_mono (ok' := fun k => oki k ∨ True ∧ w2.heap.size ≤ k) (Kd.R_over' HR0'.out (Kd.R_typed HR1.out) (by decide) hg) (fun _ hk => .inl hk)); have hbk := hg.block g1 (World.block_lt_of_cell? _ _ hcB0.out) hgne; have hfr5 : w5.frozen? ⟨g1, (gs.length - 1) * 3 + 1, none⟩ = false := (World.frozen?_of_block (w := w2) hbk).trans hfr1.out; have hcB5 : w5.cell? ⟨g1, (gs.length - 1) * 3 + 1, none⟩ = some (.slice A1 N1 c1) := (World.cell?_of_block (w := w2) hbk).trans hcB0.out; have hlt4 : Hid (g1 < w2.heap.size) := World.block_lt_of_cell? _ _ hcB0.out; have ho5 := Aside0.mk ho; have hone := Aside0.mk (Kd.R_val ho).2; have HB5 := Aside0.mk hb5; have hv1' : ∃ A n c, v1 = .slice A n c := (by obtain ⟨A, c, e⟩ := Kd.R_slice ho; exact ⟨A, _, c, e⟩); obtain ⟨A2, N2, c2, rfl⟩ := hv1'; clear hcB hg hat hbk ho hb5 hgne))
              have hput := last_put57 HH5.out hgs 1 (by clear hw1 hw2; omega) _ hone.out { lastR gs with f1 := (lastR gs).f1 ++ [⟨false, vv⟩] } (k57_mkM _ _ _ ({ lastR gs with f1 := (lastR gs).f1 ++ [⟨false, vv⟩] } : S57) HR05.out ho5.out) (fun k hk => hk.elim (hne'.out k) (fun h e => by have h1 := hlt4.out; have h2 := h.2; clear hw1 hw2; omega))
              have HSn : Aside0 (Kd.S k57 57 (w5.setCell ⟨g1, (gs.length - 1) * 3 + 1, none⟩ (.slice A2 N2 c2)) w.heap.size (fun _ => True) (.slice (some ⟨g1, 0, none⟩) gs.length cap1) (setR gs { lastR gs with f1 := (lastR gs).f1 ++ [⟨false, vv⟩] })) := ⟨hput.1⟩
              have HBn := Aside0.mk (HB5.out.setCell (p := ⟨g1, (gs.length - 1) * 3 + 1, none⟩) hg1 (.slice A2 N2 c2))
              clear hput
              go_roundw
              case rel => exact ⟨i + 1, _, true, by go_num, rfl, by omega, hnext, hF2, HSn, HBn⟩
              case measure => simp [intOf]; omega
            · have hfin := hfin1 _ (if_neg (fun hh => hv ⟨hh.1, by have h2 : (gs.getD (gs.length - 1) z57).f1.length < 64 := hh.2; have := hN1.out; clear hw1 hw2; omega⟩))
              rw [hfin] at hF2 hnext
              have key : vv.toList.isEmpty = true ∨ (vv.toList.isEmpty = false ∧ ((N1 : Int) < 64) = False) := by cases h : vv.toList.isEmpty; exact .inr ⟨rfl, eq_false (fun h2 => hv ⟨h, by clear hw1 hw2; omega⟩)⟩; exact .inl rfl
              clear hH R0 R1 hcA hcC hfr hfin1 hv hfin
              rcases key with hv1 | ⟨hv1, hv3⟩
              · have hv4 : (vv.toList = []) = True := eq_true (by simpa using hv1)
                go_wp2
                go_roundw
                case rel => exact ⟨i + 1, gs, true, by go_num, rfl, by omega, hnext, hF2, HS2, HB2⟩
                case measure => simp [intOf]; omega
              · have hv4 : (vv.toList = []) = False := eq_false (by intro e; rw [e] at hv1; cases hv1)
                go_wp2
                go_roundw
                case rel => exact ⟨i + 1, gs, true, by go_num, rfl, by omega, hnext, hF2, HS2, HB2⟩
                case measure => simp [intOf]; omega
        by_cases hC : (kk.toList == sDelay) = true
        · have e1 : (kk.toList == [97, 108, 108, 111, 119]) = false := by cases h : (kk.toList == [97, 108, 108, 111, 119]); rfl; exact absurd (.inl h) hA
          have e2 : (kk.toList == [100, 105, 115, 97, 108, 108, 111, 119]) = false := by cases h : (kk.toList == [100, 105, 115, 97, 108, 108, 111, 119]); rfl; exact absurd (.inr h) hA
          have e3 : (kk.toList == [99, 114, 97, 119, 108, 45, 100, 101, 108, 97, 121]) = true := hC
          have hw1 : wrap64 ((gs.length : Int) - 1) = ((gs.length - 1 : Nat) : Int) := by simp only [wrap64]; omega
          have hw2 : IntKind.i64.wrap ((gs.length : Int) - 1) = ((gs.length - 1 : Nat) : Int) := by rw [i64_w]; exact hw1
          have hlt1 : (((gs.length - 1 : Nat) : Int) < (gs.length : Int)) = True := eq_true (by clear hw1 hw2; omega)
          have hadd : (⟨g1, 0, none⟩ : Addr).add ((gs.length - 1) * 3) = ⟨g1, (gs.length - 1) * 3, none⟩ := by unfold Addr.add; split <;> simp_all
          have hfin1 : ∀ x, (if (refD vv).2 = true ∧ (lastR gs).f2 < ((refD vv).1 : Int) then setR gs { lastR gs with f2 := ((refD vv).1 : Int) } else gs) = x → stepR (gs, told) ⟨kk, vv⟩ = (x, true) := by intro x hx; simp only [stepR]; rw [if_neg hk, if_neg hgs0, if_neg hA, if_pos hC, hx]
          obtain ⟨kd, hkd⟩ := delay_any vv hsz.out
          obtain ⟨m, hm⟩ : ∃ m : Int, m = ((refD vv).1 : Int) := ⟨_, rfl⟩
          obtain ⟨ok, hok⟩ : ∃ b, b = (refD vv).2 := ⟨_, rfl⟩
          rw [← hm, ← hok] at hkd hfin1
          have HD := Aside0.mk hkd
          clear hA hC hk hkd hm hok
          cases ok with
          | false =>
            have hfin := hfin1 _ (if_neg (fun h => by cases h.1))
            rw [hfin] at hF2 hnext
            clear hfin1 hfin
            go_wp2_with (first | ((with_reducible refine gate_callee (f := 14) rfl ?_); refine goesL_ (some 76) rfl rfl Tryd.func14 (by kernel_rfl) rfl #[.string vv] rfl (by (try simp only [List.map_toArray, List.map_cons, List.map_nil]); first | done | rfl) ?_; (with_reducible refine (decorumref09_Delay.calls kd vv m false _ HD.out).mono ?_); rintro e w4 ⟨rfl, ⟨nd, hw4⟩⟩; refine ⟨_, rfl, ?_⟩; have HS4 : Aside0 (Kd.S k57 57 w4 w.heap.size (fun _ => True) (.slice (some ⟨g1, 0, none⟩) gs.length cap1) gs) := ⟨by rw [hw4]; exact Kd.S_drewN HS2.out nd⟩; have HB4 : Aside0 (Below w.heap.size w w4) := ⟨by rw [hw4]; exact pw_below_drewN HB2.out nd⟩; clear hw4 HS2 HB2))
            go_roundw
            case rel => exact ⟨i + 1, gs, true, by go_num, rfl, by omega, hnext, hF2, HS4, HB4⟩
            case measure => simp [intOf]; omega
          | true =>
            go_upto_region 17 with (first | ((with_reducible refine gate_callee (f := 14) rfl ?_); refine goesL_ (some 76) rfl rfl Tryd.func14 (by kernel_rfl) rfl #[.string vv] rfl (by (try simp only [List.map_toArray, List.map_cons, List.map_nil]); first | done | rfl) ?_; (with_reducible refine (decorumref09_Delay.calls kd vv m true _ HD.out).mono ?_); rintro e w4 ⟨rfl, ⟨nd, hw4⟩⟩; refine ⟨_, rfl, ?_⟩; have HS4 : Aside0 (Kd.S k57 57 w4 w.heap.size (fun _ => True) (.slice (some ⟨g1, 0, none⟩) gs.length cap1) gs) := ⟨by rw [hw4]; exact Kd.S_drewN HS2.out nd⟩; have HB4 : Aside0 (Below w.heap.size w w4) := ⟨by rw [hw4]; exact pw_below_drewN HB2.out nd⟩; clear hw4 HS2 HB2))
            obtain ⟨oki, e0, e1', R0, R1, hcA, hcB, hcC, hfr, hne, hH⟩ := last_open57 HS4.out hgs
            have hfr2 := hfr 2
            have HH := Aside0.mk hH
            have HR0' := Aside0.mk R0
            have HR1 := Aside0.mk R1
            have hne' := Aside0.mk hne
            obtain ⟨d0, hd0⟩ : ∃ d, d = (gs.getD (gs.length - 1) z57).f2 := ⟨_, rfl⟩
            rw [← hd0] at hcC
            have hd1 : Hid (d0 = (lastR gs).f2) := hd0
            clear hH R0 R1 hcA hcB hfr hne hd0
            by_cases hgt : d0 < m
            · have hfin := hfin1 _ (if_pos ⟨rfl, by rw [← hd1.out]; exact hgt⟩)
              rw [hfin] at hF2 hnext
              have hgt' : (d0 < m) = True := eq_true hgt
              clear hfin1 hfin hgt
              have HSn : Aside0 (Kd.S k57 57 (w4.setCell ⟨g1, (gs.length - 1) * 3 + 2, none⟩ (.int .i64 m)) w.heap.size (fun _ => True) (.slice (some ⟨g1, 0, none⟩) gs.length cap1) (setR gs { lastR gs with f2 := m })) :=
                ⟨(last_put57 HH.out hgs 2 (by clear hw1 hw2; omega) (.int .i64 m) rfl { lastR gs with f2 := m } (k57_mkM _ _ _ ({ lastR gs with f2 := m } : S57) HR0'.out HR1.out) hne'.out).1⟩
              have HBn := Aside0.mk (HB4.out.setCell (p := ⟨g1, (gs.length - 1) * 3 + 2, none⟩) hg1 (.int .i64 m))
              go_wp2
              go_roundw
              case rel => exact ⟨i + 1, _, true, by go_num, rfl, by omega, hnext, hF2, HSn, HBn⟩
              case measure => simp [intOf]; omega
            · have hfin := hfin1 _ (if_neg (fun h => hgt (by rw [hd1.out]; exact h.2)))
              rw [hfin] at hF2 hnext
              have hgt' : (d0 < m) = False := eq_false hgt
              clear hfin1 hfin hgt
              go_wp2
              go_roundw
              case rel => exact ⟨i + 1, gs, true, by go_num, rfl, by omega, hnext, hF2, HS4, HB4⟩
              case measure => simp [intOf]; omega
        · have e1 : (kk.toList == [97, 108, 108, 111, 119]) = false := by cases h : (kk.toList == [97, 108, 108, 111, 119]); rfl; exact absurd (.inl h) hA
          have e2 : (kk.toList == [100, 105, 115, 97, 108, 108, 111, 119]) = false := by cases h : (kk.toList == [100, 105, 115, 97, 108, 108, 111, 119]); rfl; exact absurd (.inr h) hA
          have e3 : (kk.toList == [99, 114, 97, 119, 108, 45, 100, 101, 108, 97, 121]) = false := by cases h : (kk.toList == [99, 114, 97, 119, 108, 45, 100, 101, 108, 97, 121]); rfl; exact absurd h hC
          have hstep : stepR (gs, told) ⟨kk, vv⟩ = (gs, told) := by simp only [stepR]; rw [if_neg hk, if_neg hgs0, if_neg hA, if_neg hC]
          rw [hstep] at hF2 hnext
          clear hA hC hk hstep
          go_wp2
          go_roundw
          case rel => exact ⟨i + 1, gs, told, by go_num, rfl, by omega, hnext, hF2, HS2, HB2⟩
          case measure => simp [intOf]; omega
    · have hlt' : ((i : Int) < (l0.length : Int)) = False := eq_false (by omega)
      obtain rfl : i = l0.length := by omega
      have hr := hF.out
      rw [List.drop_length, List.foldl_nil] at hr
      simp only at hr
      subst hr
      clear hF
      go_wp2
      go_ret
      exact ⟨_, rfl, HS.out, HB.out⟩
end Go.Proofs.YthbmedhejlhclaaDoor.Given
