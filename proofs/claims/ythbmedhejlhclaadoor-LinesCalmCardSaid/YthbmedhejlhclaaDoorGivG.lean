/- lines' maker: its methods, walked. -/
import Derived.Test.YthbmedhejlhclaaDoorGivN
import Derived.Outline
namespace Go.Proofs.YthbmedhejlhclaaDoor.Given
open Go.RowKit Go.Proofs.YthbmedhejlhclaaDoor.QBase Go.Proofs.YthbmedhejlhclaaDoorW.PrintWords Go.Proofs.YthbmedhejlhclaaDoorW.PrintLast Go.Proofs.YthbmedhejlhclaaDoorW.PrintMore
set_option linter.unusedVariables false
set_option linter.unusedSimpArgs false
attribute [local go_sem] max2_int min2_int max_two min_two max_three min_three max_four min_four

theorem info53 : (Tryd.prog.info? 53).map (fun i => (i.zero, i.size, i.bytes)) = some (some (.agg #[.slice none 0 0, .slice none 0 0, .int .i64 0]), 3, 56) := by kernel_rfl
theorem info9 : (Tryd.prog.info? 9).map (fun i => (i.zero, i.size, i.bytes)) = some (some (.string ⟨#[]⟩), 1, 16) := by kernel_rfl
theorem info59 : (Tryd.prog.info? 59).map (fun i => (i.zero, i.size, i.bytes)) = some (some (.agg #[.bool false, .string ⟨#[]⟩]), 2, 24) := by kernel_rfl

/-- The maker: its box m, its groups, whether agents come still; below W0 all is as it was. -/
structure Mk (W0 : World) (m : Nat) (gs : List S53) (op : Bool) (v : Value) (w : World) : Prop where
  box : w.heap[m]? = some (.cells #[v, .bool op] 62 (0, 0))
  base : W0.heap.size ≤ m
  row : Kd.S k53 53 w W0.heap.size (fun _ => True) v gs
  below : Below W0.heap.size W0 w
/-- Where the row lies: not in the maker's box. -/
theorem Mk.form {W0 w : World} {m : Nat} {gs : List S53} {op : Bool} {v : Value} (h : Mk W0 m gs op v w) (hp : 0 < gs.length) : ∃ g cap, v = .slice (some ⟨g, 0, none⟩) gs.length cap ∧ W0.heap.size ≤ g ∧ g < w.heap.size ∧ g ≠ m := by
  obtain ⟨g, cap, e, h1, h2, cs, h3⟩ := Kd.S_form h.row hp
  refine ⟨g, cap, e, h1, h2, ?_⟩
  rintro rfl
  rw [h.box] at h3
  simp at h3
theorem Mk.shut {W0 w : World} {m : Nat} {gs : List S53} {op : Bool} {v : Value} (h : Mk W0 m gs op v w) (op' : Bool) : Mk W0 m gs op' v (w.setCell ⟨m, 1, none⟩ (.bool op')) :=
  ⟨blk_put h.box 1 _ rfl, h.base, Kd.S_set h.row h.box (by decide) 1 _, below_set h.below h.base⟩
def lastG (gs : List S53) : S53 := gs.getD (gs.length - 1) z53
def setG (gs : List S53) (x : S53) : List S53 := gs.set (gs.length - 1) x
/-- One more whom the last group is for. -/
def agentG (gs : List S53) (op : Bool) (nm : ByteArray) : List S53 :=
  setG (if op then gs else gs ++ [z53]) { lastG (if op then gs else gs ++ [z53]) with f0 := (lastG (if op then gs else gs ++ [z53])).f0 ++ [⟨(lowL nm.data.toList).toArray⟩] }
theorem Mk.step {W0 w w' : World} {m : Nat} {gs : List S53} {op : Bool} {v : Value} (h : Mk W0 m gs op v w) (hb : Below w.heap.size w w') : Mk W0 m gs op v w' :=
  ⟨blk_below h.box hb, h.base, Kd.S_below h.row hb, below_step h.below hb⟩
theorem Mk.len {W0 w : World} {m : Nat} {gs : List S53} {op : Bool} {v : Value} (h : Mk W0 m gs op v w) : ∃ A c, v = .slice A gs.length c := Kd.S_slice h.row
def sAllow : List UInt8 := [97, 108, 108, 111, 119]
def sDis : List UInt8 := [100, 105, 115, 97, 108, 108, 111, 119]
def sDelay : List UInt8 := [99, 114, 97, 119, 108, 45, 100, 101, 108, 97, 121]
/-- What the last group is told. -/
def addG (gs : List S53) (op : Bool) (l : S40) : List S53 × Bool :=
  if gs = [] then (gs, op)
  else if (l.f0.toList == sAllow) = true ∨ (l.f0.toList == sDis) = true then
    (if l.f1.toList.isEmpty = false ∧ (lastG gs).f1.length < 64 then setG gs { lastG gs with f1 := (lastG gs).f1 ++ [⟨l.f0.toList == sAllow, l.f1⟩] } else gs, false)
  else if (l.f0.toList == sDelay) = true then
    (if (delayV l.f1.data.toList).2 = true then setG gs { lastG gs with f2 := max (lastG gs).f2 ((delayV l.f1.data.toList).1 : Int) } else gs, false)
  else (gs, op)

set_option maxHeartbeats 8000000 in
set_option maxRecDepth 1000000 in
theorem agent_calls (W0 w : World) (m : Nat) (gs : List S53) (op : Bool) (v : Value) (nm : ByteArray) (h : Mk W0 m gs op v w) (hn : nm.size ≤ 1099511627776) (hl : gs.length < 1000000) (hl0 : ∀ x ∈ gs, x.f0.length < 1000000) (hop : op = true → gs ≠ []) :
    Calls Tryd.prog 25 #[.pointer (some ⟨m, 0, none⟩), .string nm] w fun e w' => e = .returned (.tuple #[]) ∧ ∃ v', Mk W0 m (agentG gs op nm) true v' w' := by
  have hB := h.base
  have HL := Aside0.mk (show lines_lower.f nm = some ⟨(lowL nm.data.toList).toArray⟩ by rw [lines_lower.f, if_pos hn])
  have HMK := Aside0.mk h
  cases op with
  | false =>
    have hc0 := blk_cell h.box 0
    have hc1 := blk_cell h.box 1
    have hf0 := blk_frozen h.box 0
    have hf1 := blk_frozen h.box 1
    simp only [List.getElem?_toArray, List.getElem?_cons_zero, List.getElem?_cons_succ] at hc0 hc1
    clear h
    go_enter Tryd.func25, Tryd.ntmps25
    go_wp2_with (first
      | ((with_reducible refine gate_builtin (b := .append) (xs := #[.tmp 15, .tmp 17]) rfl ?_); at_builtin; (refine Kd.S_append k53 (w0 := W0) W0.heap.size rfl (.tmp 15) (.tmp 17) 34 53 (.agg #[.slice none 0 0, .slice none 0 0, .int .i64 0]) 56 rfl Tryd.underlying34 info53 rfl (by decide) (by omega) v gs z53 [.slice none 0 0, .slice none 0 0, .int .i64 0] (fun k_ => k_ ≠ m) (fun _ => False) rfl rfl (k53_mkM _ _ _ z53 (Kd.R_nil _ _ _ _ _) (Kd.R_nil _ _ _ _ _)) (fun _ hk => hk.elim) (Kd.freshB HMK.out.box) (Kd.S_mono (Kd.S_types HMK.out.row HMK.out.box (by decide)) (fun _ hk => ⟨hk.2, fun h => h⟩)) HMK.out.below HMK.out.below.size (by omega) ?_); intro v1 w1 ho hb hg hat; have hm1 := blk_grown HMK.out.box hg (Kd.S_away (Kd.S_mono (Kd.S_types HMK.out.row HMK.out.box (by decide)) (fun _ hk => hk.2)) (fun _ hk => hk)); obtain ⟨g1, cap1, rfl, hg1, hg1l, cells1, hcells1⟩ := Kd.S_form ho (by simp); simp only [List.length_append, List.length_singleton] at ho; have hfa := blk_frozen hm1 0; have hfb := blk_frozen hm1 1; have hca := blk_cell hm1 0; have hcb := blk_cell hm1 1; simp only [List.getElem?_toArray, List.getElem?_cons_zero, List.getElem?_cons_succ] at hca hcb; clear hat hg hcells1))
    have hB1 := hg1
    have HMk : Mk W0 m (gs ++ [z53]) true (.slice (some ⟨g1, 0, none⟩) (gs.length + 1) cap1) ((w1.setCell ⟨m, 0, none⟩ (.slice (some ⟨g1, 0, none⟩) (gs.length + 1) cap1)).setCell ⟨m, 1, none⟩ (.bool true)) :=
      ⟨blk_put (blk_put hm1 0 _ rfl) 1 _ rfl, hB, Kd.S_mono (Kd.S_far (p := ⟨m, 1, none⟩) (Kd.S_far (p := ⟨m, 0, none⟩) ho (fun _ hk => hk) _) (fun _ hk => hk) _) (fun _ _ => trivial), below_set (below_set hb hB) hB⟩
    have hg1m : g1 ≠ m := by obtain ⟨g', c', e', _, _, hne'⟩ := HMk.form (by simp); rw [Value.slice.injEq] at e'; have e2 := e'.1; simp at e2; rw [e2]; exact hne'
    have hfin : agentG gs false nm = setG (gs ++ [z53]) { lastG (gs ++ [z53]) with f0 := (lastG (gs ++ [z53])).f0 ++ [⟨(lowL nm.data.toList).toArray⟩] } := rfl
    have hl0' : (lastG (gs ++ [z53])).f0.length < 1000000 := by simp [lastG, z53]
    have hnG : gs.length + 1 = (gs ++ [z53]).length := by simp
    have hgs : 0 < (gs ++ [z53]).length := by simp
    have hll : (gs ++ [z53]).length < 1000001 := by simp; omega
    generalize gs ++ [z53] = G at *
    generalize gs.length + 1 = n at *
    generalize ((w1.setCell ⟨m, 0, none⟩ (.slice (some ⟨g1, 0, none⟩) n cap1)).setCell ⟨m, 1, none⟩ (.bool true)) = w2 at *
    subst hnG
    clear ho hb hm1 hfa hfb hca hcb hc0 hc1 hf0 hf1
    obtain ⟨hm2, _, hS2, hb2⟩ := HMk
    obtain ⟨oki, e0, e1, R0, R1, hcA, hcB, hcC, hfr, hne, hH⟩ := last_open53 hS2 hgs
    have hw1 : wrap64 ((G.length : Int) - 1) = ((G.length - 1 : Nat) : Int) := by simp only [wrap64]; omega
    have hw2 : IntKind.i64.wrap ((G.length : Int) - 1) = ((G.length - 1 : Nat) : Int) := by rw [i64_w]; exact hw1
    have hlt1 : (((G.length - 1 : Nat) : Int) < (G.length : Int)) = True := eq_true (by omega)
    have hc0 := blk_cell hm2 0
    simp only [List.getElem?_toArray, List.getElem?_cons_zero] at hc0
    have hadd : (⟨g1, 0, none⟩ : Addr).add ((G.length - 1) * 3) = ⟨g1, (G.length - 1) * 3, none⟩ := by unfold Addr.add; split <;> simp_all
    have HH := Aside0.mk hH
    have HR0 := Aside0.mk R0
    have HR1 := Aside0.mk R1
    have Hm2 := Aside0.mk hm2
    clear hH R0 R1 hS2 hm2
    go_wp2
    go_region
    go_wp2
    have HH3 := Aside0.mk (Kd.H_drew (Kd.H_drew HH.out))
    have HR03 := Aside0.mk (Kd.R_drew (Kd.R_drew HR0.out))
    have HR13 := Aside0.mk (Kd.R_drew (Kd.R_drew HR1.out))
    have Hm3 := Aside0.mk (show w2.drew.drew.heap[m]? = _ from Hm2.out)
    have HB3 := Aside0.mk (below_drew1 (below_drew1 hb2))
    have hcA3 : w2.drew.drew.cell? ⟨g1, (G.length - 1) * 3, none⟩ = some e0 := hcA
    have hfr3 : w2.drew.drew.frozen? ⟨g1, (G.length - 1) * 3, none⟩ = false := hfr 0
    refine start_ (n := 12) (S := fun w' => w'.cell? ⟨g1, (G.length - 1) * 3, none⟩ = some e0) (ds := [11]) #[false, false, false, false, false, false, false, false, false, false, false, false] (by kernel_rfl) rfl rfl hcA3 (fun hHeld => ?_)
    generalize w2.drew.drew = w3 at HH3 HR03 HR13 Hm3 HB3 hcA3 hfr3 hHeld ⊢
    clear HH HR0 HR1 Hm2 hcA hcB hcC hfr hc0
    refine pure_ (i := 0) (N := some 34) (v := ?_) (a' := ?_) #[true, false, false, false, false, false, false, false, false, false, false, false] rfl rfl (by kernel_rfl) (fun _ _ _ h => h) (Or.inl ⟨by rfl, ?_⟩) ?_ ?_
    rotate_left
    · intro w'
      go_simp
      with_reducible rfl
    rotate_left
    · simp only [Act.put, List.setIfInBounds_toArray, List.set_cons_zero, List.set_cons_succ, i64_w, i32_w]
      rfl
    refine pure_ (i := 1) (N := some 35) (v := ?_) (a' := ?_) #[true, true, false, false, false, false, false, false, false, false, false, false] rfl rfl (by kernel_rfl) (fun _ _ _ h => h) (Or.inl ⟨by rfl, ?_⟩) ?_ ?_
    rotate_left
    · intro w'
      go_simp
      with_reducible rfl
    rotate_left
    · simp only [Act.put, List.setIfInBounds_toArray, List.set_cons_zero, List.set_cons_succ, i64_w, i32_w]
      rfl
    refine pure_ (i := 2) (N := some 36) (v := ?_) (a' := ?_) #[true, true, true, false, false, false, false, false, false, false, false, false] rfl rfl (by kernel_rfl) (fun _ _ _ h => h) (Or.inl ⟨by rfl, ?_⟩) ?_ ?_
    rotate_left
    · intro w'
      go_simp
      with_reducible rfl
    rotate_left
    · simp only [Act.put, List.setIfInBounds_toArray, List.set_cons_zero, List.set_cons_succ, i64_w, i32_w]
      rfl
    refine pure_ (i := 3) (N := some 37) (v := ?_) (a' := ?_) #[true, true, true, true, false, false, false, false, false, false, false, false] rfl rfl (by kernel_rfl) (fun _ _ _ h => h) (Or.inl ⟨by rfl, ?_⟩) ?_ ?_
    rotate_left
    · intro w'
      go_simp
      with_reducible rfl
    rotate_left
    · simp only [Act.put, List.setIfInBounds_toArray, List.set_cons_zero, List.set_cons_succ, i64_w, i32_w]
      rfl
    refine pure_ (i := 5) (N := some 39) (v := ?_) (a' := ?_) #[true, true, true, true, false, true, false, false, false, false, false, false] rfl rfl (by kernel_rfl) (fun _ _ _ h => h) (Or.inl ⟨by rfl, ?_⟩) ?_ ?_
    rotate_left
    · intro w'
      go_simp
      with_reducible rfl
    rotate_left
    · simp only [Act.put, List.setIfInBounds_toArray, List.set_cons_zero, List.set_cons_succ, i64_w, i32_w]
      rfl
    refine take_ (i := 4) (N := some 38) (v := ?_) (a' := ?_) #[true, true, true, true, true, true, false, false, false, false, false, false] rfl rfl (by kernel_rfl) (fun _ _ _ h => h) (Or.inl ⟨by rfl, ?_⟩) hHeld ?_ ?_
    rotate_left
    · rintro w' s0
      go_simp
      with_reducible rfl
    rotate_left
    · simp only [Act.put, List.setIfInBounds_toArray, List.set_cons_zero, List.set_cons_succ, i64_w, i32_w]
      rfl
    refine one_ (i := 6) (N := some 40) #[true, true, true, true, true, true, true, false, false, false, false, false] rfl rfl (by kernel_rfl) (by decide) (fun K hK => ?_)
    refine goes_ Tryd.func28 (by kernel_rfl) rfl #[.string nm] (by rfl) rfl rfl (by (try simp only [List.map_toArray, List.map_cons, List.map_nil]); first | done | rfl) ?_
    with_reducible refine (lines_lower.calls nm _ _ HL.out).mono ?_
    rintro e w4 ⟨rfl, hb4⟩
    refine ⟨_, rfl, ?_⟩
    have HH4 := Aside0.mk (Kd.H_below HH3.out hb4)
    have HR04 := Aside0.mk (Kd.R_below HR03.out hb4)
    have HR14 := Aside0.mk (Kd.R_below HR13.out hb4)
    have Hm4 := Aside0.mk (blk_below Hm3.out hb4)
    have HB4 := Aside0.mk (below_step HB3.out hb4)
    have hcA4 := (hb4.cell (World.block_lt_of_cell? _ _ hcA3)).trans hcA3
    have hfr4 : w4.frozen? ⟨g1, (G.length - 1) * 3, none⟩ = false := (World.frozen?_of_block (w := w3) (hb4.block g1 (World.block_lt_of_cell? _ _ hcA3))).trans hfr3
    clear HH3 HR03 HR13 Hm3 HB3 hcA3 hfr3 hb4
    refine hK.out _ _ hcA4 (fun hHeld => ?_)
    clear hK K
    refine norm_ (a' := ?_) ?_ ?_
    rotate_left
    · show Act.put _ (some 40) _ = _
      simp only [Act.put, List.setIfInBounds_toArray, List.set_cons_zero, List.set_cons_succ, i64_w, i32_w]
      rfl
    refine one_ (i := 7) (N := some 41) #[true, true, true, true, true, true, true, true, false, false, false, false] rfl rfl (by kernel_rfl) (by decide) (fun K hK => ?_)
    refine value_ (w1 := ?_) (v := ?_) (by rfl) rfl ?_ ?_
    rotate_left 2
    · go_simp
      constructor
      · rfl
      · rfl
    refine hK.out _ _ ((World.cell?_alloc_lt _ _ _ (World.block_lt_of_cell? _ _ hcA4)).trans hcA4) (fun hHeld => ?_)
    clear hK K
    refine norm_ (a' := ?_) ?_ ?_
    rotate_left
    · show Act.put _ (some 41) _ = _
      simp only [Act.put, List.setIfInBounds_toArray, List.set_cons_zero, List.set_cons_succ, i64_w, i32_w]
      rfl
    refine one_ (i := 8) (N := some 42) #[true, true, true, true, true, true, true, true, true, false, false, false] rfl rfl (by kernel_rfl) (by decide) (fun K hK => ?_)
    refine Kd.R_append_step Kd.string (w0 := W0) W0.heap.size (by rfl) (.tmp 38) (.tmp 41) 44 9 (.string ⟨#[]⟩) 16 rfl Tryd.underlying44 info9 rfl (by decide) (by omega) e0 (G.getD (G.length - 1) z53).f0 ⟨(lowL nm.data.toList).toArray⟩ [.string ⟨(lowL nm.data.toList).toArray⟩] (fun k => oki k ∨ True ∧ w4.heap.size ≤ k) (fun _ => False) rfl rfl rfl (fun _ hk => hk.elim) (fun k hk => .inr ⟨trivial, hk⟩) (Kd.R_mono HR04.out (fun _ hk => .inl hk)) HB4.out HB4.out.size (by have := hl0'; simp only [lastG] at this; omega) ?_
    intro v1 w5 ho hb5 hg hat
    have hgne : some g1 ≠ e0.ownBlock := fun e => hne g1 (HR04.out.1 g1 e.symm) rfl
    have HH5 := Aside0.mk (Kd.H_grown (Kd.H_widen HH4.out) hg (fun k hk => .inl (HR04.out.1 k hk)))
    have HR15 := Aside0.mk (Kd.R_mono (ok' := fun k => oki k ∨ True ∧ w4.heap.size ≤ k) (Kd.R_over' HR14.out (Kd.R_typed HR04.out) (by decide) hg) (fun _ hk => .inl hk))
    have Hm5 := Aside0.mk (blk_grown Hm4.out hg (Kd.R_ne HR04.out Hm4.out (by decide)))
    have hbk := hg.block g1 (World.block_lt_of_cell? _ _ hcA4) hgne
    have hcA5 : w5.cell? ⟨g1, (G.length - 1) * 3, none⟩ = some e0 := (World.cell?_of_block (w := w4) hbk).trans hcA4
    have hfr5 : w5.frozen? ⟨g1, (G.length - 1) * 3, none⟩ = false := (World.frozen?_of_block (w := w4) hbk).trans hfr4
    have hlt4 : Hid (g1 < w4.heap.size) := World.block_lt_of_cell? _ _ hcA4
    have ho5 := Aside0.mk ho
    have hone := (Kd.R_val ho).2
    have hv1 : ∃ A n c, v1 = .slice A n c := by obtain ⟨A, c, e⟩ := Kd.R_slice ho; exact ⟨A, _, c, e⟩
    refine hK.out _ _ hcA5 (fun hHeld => ?_)
    clear hK K
    refine norm_ (a' := ?_) ?_ ?_
    rotate_left
    · show Act.put _ (some 42) _ = _
      simp only [Act.put, List.setIfInBounds_toArray, List.set_cons_zero, List.set_cons_succ, i64_w, i32_w]
      rfl
    clear HH4 HR04 HR14 Hm4 HB4 hcA4 hfr4 hgne hg hat hbk ho
    obtain ⟨A1, N1, c1, rfl⟩ := hv1
    refine pure_ (i := 9) (N := some 43) (v := ?_) (a' := ?_) #[true, true, true, true, true, true, true, true, true, true, false, false] rfl rfl (by kernel_rfl) (fun _ _ _ h => h) (Or.inl ⟨by rfl, ?_⟩) ?_ ?_
    rotate_left
    · intro w'
      go_simp
      with_reducible rfl
    rotate_left
    · simp only [Act.put, List.setIfInBounds_toArray, List.set_cons_zero, List.set_cons_succ, i64_w, i32_w]
      rfl
    refine pure_ (i := 10) (N := some 44) (v := ?_) (a' := ?_) #[true, true, true, true, true, true, true, true, true, true, true, false] rfl rfl (by kernel_rfl) (fun _ _ _ h => h) (Or.inl ⟨by rfl, ?_⟩) ?_ ?_
    rotate_left
    · intro w'
      go_simp
      with_reducible rfl
    rotate_left
    · simp only [Act.put, List.setIfInBounds_toArray, List.set_cons_zero, List.set_cons_succ, i64_w, i32_w]
      rfl
    refine last_ (i := 11) (N := none) #[true, true, true, true, true, true, true, true, true, true, true, true] rfl rfl (by kernel_rfl) (by decide) (fun K hK => ?_)
    refine skip_ (w1 := ?_) (by rfl) rfl ?_ ?_
    rotate_left
    · go_simp
      rfl
    refine hK.out _ _ ?_
    clear hK K
    refine done_ (by kernel_rfl) ?_
    go_wp2
    go_end0
    have hput := last_put53 HH5.out hgs 0 (by omega) _ hone { lastG G with f0 := (lastG G).f0 ++ [⟨(lowL nm.data.toList).toArray⟩] } (k53_mkM _ _ _ _ ho5.out HR15.out) (fun k hk => hk.elim (hne k) (fun h e => by have := hlt4.out; have := h.2; omega))
    rw [hfin]
    rw [Nat.add_zero] at hput
    exact ⟨rfl, _, ⟨blk_far Hm5.out (Ne.symm hg1m) _, hB, hput.1, hb5.setCell (hB1) _⟩⟩
  | true =>
    have hgs : 0 < gs.length := List.length_pos_iff.mpr (hop rfl)
    obtain ⟨g1, cap1, rfl, hg1, _, hg1m⟩ := h.form hgs
    have hB1 := hg1
    have hc1 := blk_cell h.box 1
    simp only [List.getElem?_toArray, List.getElem?_cons_zero, List.getElem?_cons_succ] at hc1
    have HMk := h
    clear h
    have hfin : agentG gs true nm = setG gs { lastG gs with f0 := (lastG gs).f0 ++ [⟨(lowL nm.data.toList).toArray⟩] } := rfl
    have hl0' : (lastG gs).f0.length < 1000000 := by
      have : lastG gs ∈ gs := by
        unfold lastG
        rw [List.getD_eq_getElem?_getD, List.getElem?_eq_getElem (by omega)]
        exact List.getElem_mem _
      exact hl0 _ this
    have hll : gs.length < 1000001 := by omega
    go_enter Tryd.func25, Tryd.ntmps25
    go_upto_region 2 with (fail)
    clear hc1
    obtain ⟨hm2, _, hS2, hb2⟩ := HMk
    obtain ⟨oki, e0, e1, R0, R1, hcA, hcB, hcC, hfr, hne, hH⟩ := last_open53 hS2 hgs
    have hw1 : wrap64 ((gs.length : Int) - 1) = ((gs.length - 1 : Nat) : Int) := by simp only [wrap64]; omega
    have hw2 : IntKind.i64.wrap ((gs.length : Int) - 1) = ((gs.length - 1 : Nat) : Int) := by rw [i64_w]; exact hw1
    have hlt1 : (((gs.length - 1 : Nat) : Int) < (gs.length : Int)) = True := eq_true (by omega)
    have hc0 := blk_cell hm2 0
    simp only [List.getElem?_toArray, List.getElem?_cons_zero] at hc0
    have hadd : (⟨g1, 0, none⟩ : Addr).add ((gs.length - 1) * 3) = ⟨g1, (gs.length - 1) * 3, none⟩ := by unfold Addr.add; split <;> simp_all
    have HH := Aside0.mk hH
    have HR0 := Aside0.mk R0
    have HR1 := Aside0.mk R1
    have Hm2 := Aside0.mk hm2
    clear hH R0 R1 hS2 hm2
    go_wp2
    go_region
    go_wp2
    have HH3 := Aside0.mk (Kd.H_drew (Kd.H_drew HH.out))
    have HR03 := Aside0.mk (Kd.R_drew (Kd.R_drew HR0.out))
    have HR13 := Aside0.mk (Kd.R_drew (Kd.R_drew HR1.out))
    have Hm3 := Aside0.mk (show w.drew.drew.heap[m]? = _ from Hm2.out)
    have HB3 := Aside0.mk (below_drew1 (below_drew1 hb2))
    have hcA3 : w.drew.drew.cell? ⟨g1, (gs.length - 1) * 3, none⟩ = some e0 := hcA
    have hfr3 : w.drew.drew.frozen? ⟨g1, (gs.length - 1) * 3, none⟩ = false := hfr 0
    refine start_ (n := 12) (S := fun w' => w'.cell? ⟨g1, (gs.length - 1) * 3, none⟩ = some e0) (ds := [11]) #[false, false, false, false, false, false, false, false, false, false, false, false] (by kernel_rfl) rfl rfl hcA3 (fun hHeld => ?_)
    generalize w.drew.drew = w3 at HH3 HR03 HR13 Hm3 HB3 hcA3 hfr3 hHeld ⊢
    clear HH HR0 HR1 Hm2 hcA hcB hcC hfr hc0
    refine pure_ (i := 0) (N := some 34) (v := ?_) (a' := ?_) #[true, false, false, false, false, false, false, false, false, false, false, false] rfl rfl (by kernel_rfl) (fun _ _ _ h => h) (Or.inl ⟨by rfl, ?_⟩) ?_ ?_
    rotate_left
    · intro w'
      go_simp
      with_reducible rfl
    rotate_left
    · simp only [Act.put, List.setIfInBounds_toArray, List.set_cons_zero, List.set_cons_succ, i64_w, i32_w]
      rfl
    refine pure_ (i := 1) (N := some 35) (v := ?_) (a' := ?_) #[true, true, false, false, false, false, false, false, false, false, false, false] rfl rfl (by kernel_rfl) (fun _ _ _ h => h) (Or.inl ⟨by rfl, ?_⟩) ?_ ?_
    rotate_left
    · intro w'
      go_simp
      with_reducible rfl
    rotate_left
    · simp only [Act.put, List.setIfInBounds_toArray, List.set_cons_zero, List.set_cons_succ, i64_w, i32_w]
      rfl
    refine pure_ (i := 2) (N := some 36) (v := ?_) (a' := ?_) #[true, true, true, false, false, false, false, false, false, false, false, false] rfl rfl (by kernel_rfl) (fun _ _ _ h => h) (Or.inl ⟨by rfl, ?_⟩) ?_ ?_
    rotate_left
    · intro w'
      go_simp
      with_reducible rfl
    rotate_left
    · simp only [Act.put, List.setIfInBounds_toArray, List.set_cons_zero, List.set_cons_succ, i64_w, i32_w]
      rfl
    refine pure_ (i := 3) (N := some 37) (v := ?_) (a' := ?_) #[true, true, true, true, false, false, false, false, false, false, false, false] rfl rfl (by kernel_rfl) (fun _ _ _ h => h) (Or.inl ⟨by rfl, ?_⟩) ?_ ?_
    rotate_left
    · intro w'
      go_simp
      with_reducible rfl
    rotate_left
    · simp only [Act.put, List.setIfInBounds_toArray, List.set_cons_zero, List.set_cons_succ, i64_w, i32_w]
      rfl
    refine pure_ (i := 5) (N := some 39) (v := ?_) (a' := ?_) #[true, true, true, true, false, true, false, false, false, false, false, false] rfl rfl (by kernel_rfl) (fun _ _ _ h => h) (Or.inl ⟨by rfl, ?_⟩) ?_ ?_
    rotate_left
    · intro w'
      go_simp
      with_reducible rfl
    rotate_left
    · simp only [Act.put, List.setIfInBounds_toArray, List.set_cons_zero, List.set_cons_succ, i64_w, i32_w]
      rfl
    refine take_ (i := 4) (N := some 38) (v := ?_) (a' := ?_) #[true, true, true, true, true, true, false, false, false, false, false, false] rfl rfl (by kernel_rfl) (fun _ _ _ h => h) (Or.inl ⟨by rfl, ?_⟩) hHeld ?_ ?_
    rotate_left
    · rintro w' s0
      go_simp
      with_reducible rfl
    rotate_left
    · simp only [Act.put, List.setIfInBounds_toArray, List.set_cons_zero, List.set_cons_succ, i64_w, i32_w]
      rfl
    refine one_ (i := 6) (N := some 40) #[true, true, true, true, true, true, true, false, false, false, false, false] rfl rfl (by kernel_rfl) (by decide) (fun K hK => ?_)
    refine goes_ Tryd.func28 (by kernel_rfl) rfl #[.string nm] (by rfl) rfl rfl (by (try simp only [List.map_toArray, List.map_cons, List.map_nil]); first | done | rfl) ?_
    with_reducible refine (lines_lower.calls nm _ _ HL.out).mono ?_
    rintro e w4 ⟨rfl, hb4⟩
    refine ⟨_, rfl, ?_⟩
    have HH4 := Aside0.mk (Kd.H_below HH3.out hb4)
    have HR04 := Aside0.mk (Kd.R_below HR03.out hb4)
    have HR14 := Aside0.mk (Kd.R_below HR13.out hb4)
    have Hm4 := Aside0.mk (blk_below Hm3.out hb4)
    have HB4 := Aside0.mk (below_step HB3.out hb4)
    have hcA4 := (hb4.cell (World.block_lt_of_cell? _ _ hcA3)).trans hcA3
    have hfr4 : w4.frozen? ⟨g1, (gs.length - 1) * 3, none⟩ = false := (World.frozen?_of_block (w := w3) (hb4.block g1 (World.block_lt_of_cell? _ _ hcA3))).trans hfr3
    clear HH3 HR03 HR13 Hm3 HB3 hcA3 hfr3 hb4
    refine hK.out _ _ hcA4 (fun hHeld => ?_)
    clear hK K
    refine norm_ (a' := ?_) ?_ ?_
    rotate_left
    · show Act.put _ (some 40) _ = _
      simp only [Act.put, List.setIfInBounds_toArray, List.set_cons_zero, List.set_cons_succ, i64_w, i32_w]
      rfl
    refine one_ (i := 7) (N := some 41) #[true, true, true, true, true, true, true, true, false, false, false, false] rfl rfl (by kernel_rfl) (by decide) (fun K hK => ?_)
    refine value_ (w1 := ?_) (v := ?_) (by rfl) rfl ?_ ?_
    rotate_left 2
    · go_simp
      constructor
      · rfl
      · rfl
    refine hK.out _ _ ((World.cell?_alloc_lt _ _ _ (World.block_lt_of_cell? _ _ hcA4)).trans hcA4) (fun hHeld => ?_)
    clear hK K
    refine norm_ (a' := ?_) ?_ ?_
    rotate_left
    · show Act.put _ (some 41) _ = _
      simp only [Act.put, List.setIfInBounds_toArray, List.set_cons_zero, List.set_cons_succ, i64_w, i32_w]
      rfl
    refine one_ (i := 8) (N := some 42) #[true, true, true, true, true, true, true, true, true, false, false, false] rfl rfl (by kernel_rfl) (by decide) (fun K hK => ?_)
    refine Kd.R_append_step Kd.string (w0 := W0) W0.heap.size (by rfl) (.tmp 38) (.tmp 41) 44 9 (.string ⟨#[]⟩) 16 rfl Tryd.underlying44 info9 rfl (by decide) (by omega) e0 (gs.getD (gs.length - 1) z53).f0 ⟨(lowL nm.data.toList).toArray⟩ [.string ⟨(lowL nm.data.toList).toArray⟩] (fun k => oki k ∨ True ∧ w4.heap.size ≤ k) (fun _ => False) rfl rfl rfl (fun _ hk => hk.elim) (fun k hk => .inr ⟨trivial, hk⟩) (Kd.R_mono HR04.out (fun _ hk => .inl hk)) HB4.out HB4.out.size (by have := hl0'; simp only [lastG] at this; omega) ?_
    intro v1 w5 ho hb5 hg hat
    have hgne : some g1 ≠ e0.ownBlock := fun e => hne g1 (HR04.out.1 g1 e.symm) rfl
    have HH5 := Aside0.mk (Kd.H_grown (Kd.H_widen HH4.out) hg (fun k hk => .inl (HR04.out.1 k hk)))
    have HR15 := Aside0.mk (Kd.R_mono (ok' := fun k => oki k ∨ True ∧ w4.heap.size ≤ k) (Kd.R_over' HR14.out (Kd.R_typed HR04.out) (by decide) hg) (fun _ hk => .inl hk))
    have Hm5 := Aside0.mk (blk_grown Hm4.out hg (Kd.R_ne HR04.out Hm4.out (by decide)))
    have hbk := hg.block g1 (World.block_lt_of_cell? _ _ hcA4) hgne
    have hcA5 : w5.cell? ⟨g1, (gs.length - 1) * 3, none⟩ = some e0 := (World.cell?_of_block (w := w4) hbk).trans hcA4
    have hfr5 : w5.frozen? ⟨g1, (gs.length - 1) * 3, none⟩ = false := (World.frozen?_of_block (w := w4) hbk).trans hfr4
    have hlt4 : Hid (g1 < w4.heap.size) := World.block_lt_of_cell? _ _ hcA4
    have ho5 := Aside0.mk ho
    have hone := (Kd.R_val ho).2
    have hv1 : ∃ A n c, v1 = .slice A n c := by obtain ⟨A, c, e⟩ := Kd.R_slice ho; exact ⟨A, _, c, e⟩
    refine hK.out _ _ hcA5 (fun hHeld => ?_)
    clear hK K
    refine norm_ (a' := ?_) ?_ ?_
    rotate_left
    · show Act.put _ (some 42) _ = _
      simp only [Act.put, List.setIfInBounds_toArray, List.set_cons_zero, List.set_cons_succ, i64_w, i32_w]
      rfl
    clear HH4 HR04 HR14 Hm4 HB4 hcA4 hfr4 hgne hg hat hbk ho
    obtain ⟨A1, N1, c1, rfl⟩ := hv1
    refine pure_ (i := 9) (N := some 43) (v := ?_) (a' := ?_) #[true, true, true, true, true, true, true, true, true, true, false, false] rfl rfl (by kernel_rfl) (fun _ _ _ h => h) (Or.inl ⟨by rfl, ?_⟩) ?_ ?_
    rotate_left
    · intro w'
      go_simp
      with_reducible rfl
    rotate_left
    · simp only [Act.put, List.setIfInBounds_toArray, List.set_cons_zero, List.set_cons_succ, i64_w, i32_w]
      rfl
    refine pure_ (i := 10) (N := some 44) (v := ?_) (a' := ?_) #[true, true, true, true, true, true, true, true, true, true, true, false] rfl rfl (by kernel_rfl) (fun _ _ _ h => h) (Or.inl ⟨by rfl, ?_⟩) ?_ ?_
    rotate_left
    · intro w'
      go_simp
      with_reducible rfl
    rotate_left
    · simp only [Act.put, List.setIfInBounds_toArray, List.set_cons_zero, List.set_cons_succ, i64_w, i32_w]
      rfl
    refine last_ (i := 11) (N := none) #[true, true, true, true, true, true, true, true, true, true, true, true] rfl rfl (by kernel_rfl) (by decide) (fun K hK => ?_)
    refine skip_ (w1 := ?_) (by rfl) rfl ?_ ?_
    rotate_left
    · go_simp
      rfl
    refine hK.out _ _ ?_
    clear hK K
    refine done_ (by kernel_rfl) ?_
    go_wp2
    go_end0
    have hput := last_put53 HH5.out hgs 0 (by omega) _ hone { lastG gs with f0 := (lastG gs).f0 ++ [⟨(lowL nm.data.toList).toArray⟩] } (k53_mkM _ _ _ _ ho5.out HR15.out) (fun k hk => hk.elim (hne k) (fun h e => by have := hlt4.out; have := h.2; omega))
    rw [hfin]
    rw [Nat.add_zero] at hput
    exact ⟨rfl, _, ⟨blk_far Hm5.out (Ne.symm hg1m) _, hB, hput.1, hb5.setCell (hB1) _⟩⟩

set_option maxHeartbeats 8000000 in
set_option maxRecDepth 1000000 in
theorem add_calls (W0 w : World) (m : Nat) (gs : List S53) (op : Bool) (v : Value) (l : S40) (h : Mk W0 m gs op v w) (hn : l.f1.size < 4294967281) (hl : gs.length < 1000000) (hS_ : Shp W0) :
    Calls Tryd.prog 26 #[.pointer (some ⟨m, 0, none⟩), .agg #[.string l.f0, .string l.f1]] w fun e w' => e = .returned (.tuple #[]) ∧ Mk W0 m (addG gs op l).1 (addG gs op l).2 v w' := by
  obtain ⟨kk, vv⟩ := l
  have hB := h.base
  have HSH := Aside0.mk hS_
  clear hS_
  have HM0 := Aside0.mk h
  by_cases hgs0 : gs = []
  · subst hgs0
    obtain ⟨A, c, rfl⟩ := h.len
    simp only [List.length_nil] at *
    clear h
    go_enter Tryd.func26, Tryd.ntmps26
    go_wp2_with (first | ((with_reducible refine gate_dst (N := 3) rfl ?_); refine box_event ?hg (N := 3) ?hd (cs := #[.string kk, .string vv]) (t := 40) ?hr ?_; (case hd => rfl); (case hg => rfl); (case hr => first | (go_simp; done) | (go_simp; rfl)); intro b3 hb3 w1 hbox hb; have HMK := Aside0.mk (HM0.out.step hb); have hc0 := blk_cell HMK.out.box 0; have hc1 := blk_cell HMK.out.box 1; have hf0 := blk_frozen HMK.out.box 0; have hf1 := blk_frozen HMK.out.box 1; simp only [List.getElem?_toArray, List.getElem?_cons_zero, List.getElem?_cons_succ] at hc0 hc1; have hk0 := blk_cell hbox 0; have hk1 := blk_cell hbox 1; simp only [List.getElem?_toArray, List.getElem?_cons_zero, List.getElem?_cons_succ] at hk0 hk1; have Hk := Aside0.mk hbox; clear hbox hb))
    refine bodyPost_ret (results_none rfl _ _ _) rfl ?_
    exact ⟨rfl, by simpa [addG] using HMK.out⟩
  have hgs : 0 < gs.length := List.length_pos_iff.mpr hgs0
  obtain ⟨g1, cap1, rfl, hg1, hg1l, hg1m⟩ := h.form hgs
  have hbm : w.heap.size ≠ m := by have := blk_lt h.box; omega
  have hbg : w.heap.size ≠ g1 := by omega
  clear h
  have hw1 : wrap64 ((gs.length : Int) - 1) = ((gs.length - 1 : Nat) : Int) := by simp only [wrap64]; omega
  have hw2 : IntKind.i64.wrap ((gs.length : Int) - 1) = ((gs.length - 1 : Nat) : Int) := by rw [i64_w]; exact hw1
  have hlt1 : (((gs.length - 1 : Nat) : Int) < (gs.length : Int)) = True := eq_true (by omega)
  have hadd : (⟨g1, 0, none⟩ : Addr).add ((gs.length - 1) * 3) = ⟨g1, (gs.length - 1) * 3, none⟩ := by unfold Addr.add; split <;> simp_all
  have hn0 : ((gs.length : Int) == 0) = false := by simp; exact hgs0
  go_enter Tryd.func26, Tryd.ntmps26
  go_upto_region 2 with (first | ((with_reducible refine gate_dst (N := 3) rfl ?_); refine box_event ?hg (N := 3) ?hd (cs := #[.string kk, .string vv]) (t := 40) ?hr ?_; (case hd => rfl); (case hg => rfl); (case hr => first | (go_simp; done) | (go_simp; rfl)); intro b3 hb3 w1 hbox hb; have HMK := Aside0.mk (HM0.out.step hb); have hc0 := blk_cell HMK.out.box 0; have hc1 := blk_cell HMK.out.box 1; have hf0 := blk_frozen HMK.out.box 0; have hf1 := blk_frozen HMK.out.box 1; simp only [List.getElem?_toArray, List.getElem?_cons_zero, List.getElem?_cons_succ] at hc0 hc1; have hk0 := blk_cell hbox 0; have hk1 := blk_cell hbox 1; simp only [List.getElem?_toArray, List.getElem?_cons_zero, List.getElem?_cons_succ] at hk0 hk1; have Hk := Aside0.mk hbox; clear hbox hb))
  go_wp2
  go_region
  have HMK2 : Aside0 (Mk W0 m gs op (.slice (some ⟨g1, 0, none⟩) gs.length cap1) w1.drew) := ⟨HMK.out.step (below_drew1 (Below.refl _ _))⟩
  have Hk2 : Aside0 (w1.drew.heap[w.heap.size]? = some (.cells #[.string kk, .string vv] 40 (0, 0))) := ⟨by rw [← hb3]; exact Hk.out⟩
  generalize w1.drew = w2 at HMK2 Hk2 ⊢
  clear hc0 hc1 hf0 hf1 hk0 hk1 HMK Hk
  have hc0 := blk_cell HMK2.out.box 0
  have hc1 := blk_cell HMK2.out.box 1
  have hf0 := blk_frozen HMK2.out.box 0
  have hf1 := blk_frozen HMK2.out.box 1
  have hk0 := blk_cell Hk2.out 0
  have hk1 := blk_cell Hk2.out 1
  simp only [List.getElem?_toArray, List.getElem?_cons_zero, List.getElem?_cons_succ] at hc0 hc1 hk0 hk1
  clear hb3
  try clear b3
  by_cases hA : (kk.toList == sAllow) = true ∨ (kk.toList == sDis) = true
  · have hAD : ∃ isA : Bool, (kk.toList == sAllow) = isA ∧ ((kk.toList == [97, 108, 108, 111, 119]) = true ∧ isA = true ∨ (kk.toList == [97, 108, 108, 111, 119]) = false ∧ (kk.toList == [100, 105, 115, 97, 108, 108, 111, 119]) = true ∧ isA = false) := by
      cases h1 : (kk.toList == sAllow) with
      | true => exact ⟨true, rfl, .inl ⟨h1, rfl⟩⟩
      | false => exact ⟨false, rfl, .inr ⟨h1, by rcases hA with h | h; rw [h1] at h; cases h; exact h, rfl⟩⟩
    obtain ⟨isA, hisA, hAD⟩ := hAD
    rcases hAD with ⟨hk, rfl⟩ | ⟨hk, hk', rfl⟩
    · have hfin1 : ∀ x, (if vv.toList.isEmpty = false ∧ (lastG gs).f1.length < 64 then setG gs { lastG gs with f1 := (lastG gs).f1 ++ [⟨kk.toList == sAllow, vv⟩] } else gs) = x → addG gs op ⟨kk, vv⟩ = (x, false) := by intro x hx; simp only [addG]; rw [if_neg hgs0, if_pos hA, hx]
      rw [hisA] at hfin1
      clear hA hisA
      go_upto_region 7 with (fail)
      have HM3 := Aside0.mk (HMK2.out.shut false)
      have Hk3 := Aside0.mk (blk_far Hk2.out (p := ⟨m, 1, none⟩) hbm (.bool false))
      generalize (w2.setCell ⟨m, 1, none⟩ (.bool false)) = w3 at HM3 Hk3 ⊢
      clear hc0 hc1 hf0 hf1 hk0 hk1 HMK2 Hk2
      have hk0 := blk_cell Hk3.out 0
      have hk1 := blk_cell Hk3.out 1
      simp only [List.getElem?_toArray, List.getElem?_cons_zero, List.getElem?_cons_succ] at hk0 hk1
      obtain ⟨oki, e0, e1, R0, R1, hcA, hcB, hcC, hfr, hne, hH⟩ := last_open53 HM3.out.row hgs
      obtain ⟨A1, c1, he1⟩ := Kd.R_slice R1
      obtain ⟨N1, hN1⟩ : ∃ N, N = (gs.getD (gs.length - 1) z53).f1.length := ⟨_, rfl⟩
      rw [← hN1] at he1
      subst he1
      replace hN1 : Hid (N1 = (gs.getD (gs.length - 1) z53).f1.length) := hN1
      by_cases hv : vv.toList.isEmpty = false ∧ N1 < 64
      · obtain ⟨hv1, hv2⟩ := hv
        have hfin := hfin1 _ (if_pos ⟨hv1, by have := hN1.out; show (gs.getD (gs.length - 1) z53).f1.length < 64; omega⟩)
        have hv3 : ((N1 : Int) < 64) = True := eq_true (by omega)
        have hv4 : (vv.toList = []) = False := eq_false (by intro e; rw [e] at hv1; cases hv1)
        have HH := Aside0.mk hH
        have HR0 := Aside0.mk R0
        have HR1 := Aside0.mk R1
        have hB2 := HM3.out.below
        have hcB0 := hcB
        have hfr1 := hfr 1
        clear hH R0 R1 hcA hcC hfr hfin1
        go_wp2
        have HH3 := Aside0.mk (Kd.H_drew HH.out)
        have HR03 := Aside0.mk (Kd.R_drew HR0.out)
        have HR13 := Aside0.mk (Kd.R_drew HR1.out)
        have HM4 := Aside0.mk (HM3.out.step (below_drew1 (Below.refl _ _)))
        have hcB3 : w3.drew.cell? ⟨g1, (gs.length - 1) * 3 + 1, none⟩ = some (.slice A1 N1 c1) := hcB
        have hfr3 : w3.drew.frozen? ⟨g1, (gs.length - 1) * 3 + 1, none⟩ = false := hfr1
        have hk03 : w3.drew.cell? ⟨w.heap.size, 0, none⟩ = some (.string kk) := hk0
        have hk13 : w3.drew.cell? ⟨w.heap.size, 1, none⟩ = some (.string vv) := hk1
        have Hk4 : Aside0 (w3.drew.heap[w.heap.size]? = some (.cells #[.string kk, .string vv] 40 (0, 0))) := ⟨Hk3.out⟩
        refine start_ (n := 16) (S := fun w' => w'.cell? ⟨g1, (gs.length - 1) * 3 + 1, none⟩ = some (.slice A1 N1 c1) ∧ w'.cell? ⟨w.heap.size, 0, none⟩ = some (.string kk) ∧ w'.cell? ⟨w.heap.size, 1, none⟩ = some (.string vv)) (ds := [15]) #[false, false, false, false, false, false, false, false, false, false, false, false, false, false, false, false] (by kernel_rfl) rfl rfl ⟨hcB3, hk03, hk13⟩ (fun hHeld => ?_)
        generalize w3.drew = w4 at HH3 HR03 HR13 HM4 Hk4 hcB3 hfr3 hk03 hk13 hHeld ⊢
        clear HH HR0 HR1 hcB hcB0 hfr1 hk0 hk1 HM3 Hk3
        refine pure_ (i := 0) (N := some 43) (v := ?_) (a' := ?_) #[true, false, false, false, false, false, false, false, false, false, false, false, false, false, false, false] rfl rfl (by kernel_rfl) (fun _ _ _ h => h) (Or.inl ⟨by rfl, ?_⟩) ?_ ?_
        rotate_left
        · intro w'
          go_simp
          with_reducible rfl
        rotate_left
        · simp only [Act.put, List.setIfInBounds_toArray, List.set_cons_zero, List.set_cons_succ, i64_w, i32_w]
          rfl
        refine pure_ (i := 1) (N := some 44) (v := ?_) (a' := ?_) #[true, true, false, false, false, false, false, false, false, false, false, false, false, false, false, false] rfl rfl (by kernel_rfl) (fun _ _ _ h => h) (Or.inl ⟨by rfl, ?_⟩) ?_ ?_
        rotate_left
        · intro w'
          go_simp
          with_reducible rfl
        rotate_left
        · simp only [Act.put, List.setIfInBounds_toArray, List.set_cons_zero, List.set_cons_succ, i64_w, i32_w]
          rfl
        refine pure_ (i := 2) (N := some 45) (v := ?_) (a' := ?_) #[true, true, true, false, false, false, false, false, false, false, false, false, false, false, false, false] rfl rfl (by kernel_rfl) (fun _ _ _ h => h) (Or.inl ⟨by rfl, ?_⟩) ?_ ?_
        rotate_left
        · intro w'
          go_simp
          with_reducible rfl
        rotate_left
        · simp only [Act.put, List.setIfInBounds_toArray, List.set_cons_zero, List.set_cons_succ, i64_w, i32_w]
          rfl
        refine pure_ (i := 3) (N := some 46) (v := ?_) (a' := ?_) #[true, true, true, true, false, false, false, false, false, false, false, false, false, false, false, false] rfl rfl (by kernel_rfl) (fun _ _ _ h => h) (Or.inl ⟨by rfl, ?_⟩) ?_ ?_
        rotate_left
        · intro w'
          go_simp
          with_reducible rfl
        rotate_left
        · simp only [Act.put, List.setIfInBounds_toArray, List.set_cons_zero, List.set_cons_succ, i64_w, i32_w]
          rfl
        refine pure_ (i := 5) (N := some 48) (v := ?_) (a' := ?_) #[true, true, true, true, false, true, false, false, false, false, false, false, false, false, false, false] rfl rfl (by kernel_rfl) (fun _ _ _ h => h) (Or.inl ⟨by rfl, ?_⟩) ?_ ?_
        rotate_left
        · intro w'
          go_simp
          with_reducible rfl
        rotate_left
        · simp only [Act.put, List.setIfInBounds_toArray, List.set_cons_zero, List.set_cons_succ, i64_w, i32_w]
          rfl
        refine pure_ (i := 8) (N := some 51) (v := ?_) (a' := ?_) #[true, true, true, true, false, true, false, false, true, false, false, false, false, false, false, false] rfl rfl (by kernel_rfl) (fun _ _ _ h => h) (Or.inl ⟨by rfl, ?_⟩) ?_ ?_
        rotate_left
        · intro w'
          go_simp
          with_reducible rfl
        rotate_left
        · simp only [Act.put, List.setIfInBounds_toArray, List.set_cons_zero, List.set_cons_succ, i64_w, i32_w]
          rfl
        refine take_ (i := 4) (N := some 47) (v := ?_) (a' := ?_) #[true, true, true, true, true, true, false, false, true, false, false, false, false, false, false, false] rfl rfl (by kernel_rfl) (fun _ _ _ h => h) (Or.inl ⟨by rfl, ?_⟩) hHeld ?_ ?_
        rotate_left
        · rintro w' ⟨s0, s1, s2⟩
          go_simp
          with_reducible rfl
        rotate_left
        · simp only [Act.put, List.setIfInBounds_toArray, List.set_cons_zero, List.set_cons_succ, i64_w, i32_w]
          rfl
        refine take_ (i := 6) (N := some 49) (v := ?_) (a' := ?_) #[true, true, true, true, true, true, true, false, true, false, false, false, false, false, false, false] rfl rfl (by kernel_rfl) (fun _ _ _ h => h) (Or.inl ⟨by rfl, ?_⟩) hHeld ?_ ?_
        rotate_left
        · rintro w' ⟨s0, s1, s2⟩
          go_simp
          with_reducible rfl
        rotate_left
        · simp only [Act.put, List.setIfInBounds_toArray, List.set_cons_zero, List.set_cons_succ, i64_w, i32_w]
          rfl
        refine take_ (i := 9) (N := some 52) (v := ?_) (a' := ?_) #[true, true, true, true, true, true, true, false, true, true, false, false, false, false, false, false] rfl rfl (by kernel_rfl) (fun _ _ _ h => h) (Or.inl ⟨by rfl, ?_⟩) hHeld ?_ ?_
        rotate_left
        · rintro w' ⟨s0, s1, s2⟩
          go_simp
          with_reducible rfl
        rotate_left
        · simp only [Act.put, List.setIfInBounds_toArray, List.set_cons_zero, List.set_cons_succ, i64_w, i32_w]
          rfl
        refine pure_ (i := 7) (N := some 50) (v := ?_) (a' := ?_) #[true, true, true, true, true, true, true, true, true, true, false, false, false, false, false, false] rfl rfl (by kernel_rfl) (fun _ _ _ h => h) (Or.inl ⟨by rfl, ?_⟩) ?_ ?_
        rotate_left
        · intro w'
          go_simp
          with_reducible rfl
        rotate_left
        · simp only [Act.put, List.setIfInBounds_toArray, List.set_cons_zero, List.set_cons_succ, i64_w, i32_w]
          rfl
        refine pure_ (i := 10) (N := some 53) (v := ?_) (a' := ?_) #[true, true, true, true, true, true, true, true, true, true, true, false, false, false, false, false] rfl rfl (by kernel_rfl) (fun _ _ _ h => h) (Or.inl ⟨by rfl, ?_⟩) ?_ ?_
        rotate_left
        · intro w'
          go_simp
          with_reducible rfl
        rotate_left
        · simp only [Act.put, List.setIfInBounds_toArray, List.set_cons_zero, List.set_cons_succ, i64_w, i32_w]
          rfl
        refine one_ (i := 11) (N := some 54) #[true, true, true, true, true, true, true, true, true, true, true, true, false, false, false, false] rfl rfl (by kernel_rfl) (by decide) (fun K hK => ?_)
        refine value_ (w1 := ?_) (v := ?_) (by rfl) rfl ?_ ?_
        rotate_left 2
        · go_simp
          constructor
          · rfl
          · rfl
        refine hK.out _ _ ⟨(World.cell?_alloc_lt _ _ _ (World.block_lt_of_cell? _ _ hcB3)).trans hcB3, (World.cell?_alloc_lt _ _ _ (World.block_lt_of_cell? _ _ hk03)).trans hk03, (World.cell?_alloc_lt _ _ _ (World.block_lt_of_cell? _ _ hk13)).trans hk13⟩ (fun hHeld => ?_)
        clear hK K
        refine norm_ (a' := ?_) ?_ ?_
        rotate_left
        · show Act.put _ (some 54) _ = _
          simp only [Act.put, List.setIfInBounds_toArray, List.set_cons_zero, List.set_cons_succ, i64_w, i32_w]
          rfl
        refine one_ (i := 12) (N := some 55) #[true, true, true, true, true, true, true, true, true, true, true, true, true, false, false, false] rfl rfl (by kernel_rfl) (by decide) (fun K hK => ?_)
        refine Kd.R_append_step k59 (w0 := W0) W0.heap.size (by rfl) (.tmp 47) (.tmp 54) 51 59 (.agg #[.bool false, .string ⟨#[]⟩]) 24 rfl Tryd.underlying51 info59 rfl (by decide) (by omega) (.slice A1 N1 c1) (gs.getD (gs.length - 1) z53).f1 ⟨true, vv⟩ [.bool true, .string vv] (fun k => oki k ∨ True ∧ w4.heap.size ≤ k) (fun _ => False) rfl rfl (k59_mkM _ _ _ _) (fun _ hk => hk.elim) (fun k hk => .inr ⟨trivial, hk⟩) (Kd.R_mono HR13.out (fun _ hk => .inl hk)) HM4.out.below HM4.out.below.size (by have := hN1.out; omega) ?_
        intro v1 w5 ho hb5 hg hat
        have hgne : some g1 ≠ (Value.slice A1 N1 c1).ownBlock := fun e => hne g1 (HR13.out.1 g1 e.symm) rfl
        have HH5 := Aside0.mk (Kd.H_grown (Kd.H_widen HH3.out) hg (fun k hk => .inl (HR13.out.1 k hk)))
        have HR05 := Aside0.mk (Kd.R_mono (ok' := fun k => oki k ∨ True ∧ w4.heap.size ≤ k) (Kd.R_over' HR03.out (Kd.R_typed HR13.out) (by decide) hg) (fun _ hk => .inl hk))
        have Hm5 := Aside0.mk (blk_grown HM4.out.box hg (Kd.R_ne HR13.out HM4.out.box (by decide)))
        have hbk := hg.block g1 (World.block_lt_of_cell? _ _ hcB3) hgne
        have hbk3 := hg.block w.heap.size (World.block_lt_of_cell? _ _ hk03) (Kd.R_ne HR13.out Hk4.out (by decide))
        have hcB5 : w5.cell? ⟨g1, (gs.length - 1) * 3 + 1, none⟩ = some (.slice A1 N1 c1) := (World.cell?_of_block (w := w4) hbk).trans hcB3
        have hfr5 : w5.frozen? ⟨g1, (gs.length - 1) * 3 + 1, none⟩ = false := (World.frozen?_of_block (w := w4) hbk).trans hfr3
        have hk05 : w5.cell? ⟨w.heap.size, 0, none⟩ = some (.string kk) := (World.cell?_of_block (w := w4) hbk3).trans hk03
        have hk15 : w5.cell? ⟨w.heap.size, 1, none⟩ = some (.string vv) := (World.cell?_of_block (w := w4) hbk3).trans hk13
        have hlt4 : Hid (g1 < w4.heap.size) := World.block_lt_of_cell? _ _ hcB3
        have ho5 := Aside0.mk ho
        have hone := (Kd.R_val ho).2
        have hv1 : ∃ A n c, v1 = .slice A n c := by obtain ⟨A, c, e⟩ := Kd.R_slice ho; exact ⟨A, _, c, e⟩
        refine hK.out _ _ ⟨hcB5, hk05, hk15⟩ (fun hHeld => ?_)
        clear hK K
        refine norm_ (a' := ?_) ?_ ?_
        rotate_left
        · show Act.put _ (some 55) _ = _
          simp only [Act.put, List.setIfInBounds_toArray, List.set_cons_zero, List.set_cons_succ, i64_w, i32_w]
          rfl
        clear HH3 HR03 HR13 HM4 hcB3 hfr3 hgne hg hat hbk hbk3 ho hk03 hk13
        obtain ⟨A2, N2, c2, rfl⟩ := hv1
        refine pure_ (i := 13) (N := some 56) (v := ?_) (a' := ?_) #[true, true, true, true, true, true, true, true, true, true, true, true, true, true, false, false] rfl rfl (by kernel_rfl) (fun _ _ _ h => h) (Or.inl ⟨by rfl, ?_⟩) ?_ ?_
        rotate_left
        · intro w'
          go_simp
          with_reducible rfl
        rotate_left
        · simp only [Act.put, List.setIfInBounds_toArray, List.set_cons_zero, List.set_cons_succ, i64_w, i32_w]
          rfl
        refine pure_ (i := 14) (N := some 57) (v := ?_) (a' := ?_) #[true, true, true, true, true, true, true, true, true, true, true, true, true, true, true, false] rfl rfl (by kernel_rfl) (fun _ _ _ h => h) (Or.inl ⟨by rfl, ?_⟩) ?_ ?_
        rotate_left
        · intro w'
          go_simp
          with_reducible rfl
        rotate_left
        · simp only [Act.put, List.setIfInBounds_toArray, List.set_cons_zero, List.set_cons_succ, i64_w, i32_w]
          rfl
        refine last_ (i := 15) (N := none) #[true, true, true, true, true, true, true, true, true, true, true, true, true, true, true, true] rfl rfl (by kernel_rfl) (by decide) (fun K hK => ?_)
        refine skip_ (w1 := ?_) (by rfl) rfl ?_ ?_
        rotate_left
        · go_simp
          rfl
        refine hK.out _ _ ?_
        clear hK K
        refine done_ (by kernel_rfl) ?_
        go_wp2
        go_end0
        have hput := last_put53 HH5.out hgs 1 (by omega) _ hone { lastG gs with f1 := (lastG gs).f1 ++ [⟨true, vv⟩] } (k53_mkM _ _ _ ({ lastG gs with f1 := (lastG gs).f1 ++ [⟨true, vv⟩] } : S53) HR05.out ho5.out) (fun k hk => hk.elim (hne k) (fun h e => by have := hlt4.out; have := h.2; omega))
        rw [hfin]
        exact ⟨rfl, ⟨blk_far Hm5.out (Ne.symm hg1m) _, hB, hput.1, hb5.setCell hg1 _⟩⟩
      · have hfin := hfin1 _ (if_neg (fun hh => hv ⟨hh.1, by have h2 : (gs.getD (gs.length - 1) z53).f1.length < 64 := hh.2; have := hN1.out; omega⟩))
        have key : vv.toList.isEmpty = true ∨ (vv.toList.isEmpty = false ∧ ((N1 : Int) < 64) = False) := by cases h : vv.toList.isEmpty; exact .inr ⟨rfl, eq_false (fun h2 => hv ⟨h, by omega⟩)⟩; exact .inl rfl
        clear hH R0 R1 hcA hcC hfr hfin1 hv
        rcases key with hv1 | ⟨hv1, hv3⟩
        · have hv4 : (vv.toList = []) = True := eq_true (by simpa using hv1)
          go_wp2
          go_end0
          rw [hfin]
          exact ⟨rfl, HM3.out⟩
        · have hv4 : (vv.toList = []) = False := eq_false (by intro e; rw [e] at hv1; cases hv1)
          go_wp2
          go_end0
          rw [hfin]
          exact ⟨rfl, HM3.out⟩
    · have hfin1 : ∀ x, (if vv.toList.isEmpty = false ∧ (lastG gs).f1.length < 64 then setG gs { lastG gs with f1 := (lastG gs).f1 ++ [⟨kk.toList == sAllow, vv⟩] } else gs) = x → addG gs op ⟨kk, vv⟩ = (x, false) := by intro x hx; simp only [addG]; rw [if_neg hgs0, if_pos hA, hx]
      rw [hisA] at hfin1
      clear hA hisA
      go_upto_region 7 with (fail)
      have HM3 := Aside0.mk (HMK2.out.shut false)
      have Hk3 := Aside0.mk (blk_far Hk2.out (p := ⟨m, 1, none⟩) hbm (.bool false))
      generalize (w2.setCell ⟨m, 1, none⟩ (.bool false)) = w3 at HM3 Hk3 ⊢
      clear hc0 hc1 hf0 hf1 hk0 hk1 HMK2 Hk2
      have hk0 := blk_cell Hk3.out 0
      have hk1 := blk_cell Hk3.out 1
      simp only [List.getElem?_toArray, List.getElem?_cons_zero, List.getElem?_cons_succ] at hk0 hk1
      obtain ⟨oki, e0, e1, R0, R1, hcA, hcB, hcC, hfr, hne, hH⟩ := last_open53 HM3.out.row hgs
      obtain ⟨A1, c1, he1⟩ := Kd.R_slice R1
      obtain ⟨N1, hN1⟩ : ∃ N, N = (gs.getD (gs.length - 1) z53).f1.length := ⟨_, rfl⟩
      rw [← hN1] at he1
      subst he1
      replace hN1 : Hid (N1 = (gs.getD (gs.length - 1) z53).f1.length) := hN1
      by_cases hv : vv.toList.isEmpty = false ∧ N1 < 64
      · obtain ⟨hv1, hv2⟩ := hv
        have hfin := hfin1 _ (if_pos ⟨hv1, by have := hN1.out; show (gs.getD (gs.length - 1) z53).f1.length < 64; omega⟩)
        have hv3 : ((N1 : Int) < 64) = True := eq_true (by omega)
        have hv4 : (vv.toList = []) = False := eq_false (by intro e; rw [e] at hv1; cases hv1)
        have HH := Aside0.mk hH
        have HR0 := Aside0.mk R0
        have HR1 := Aside0.mk R1
        have hB2 := HM3.out.below
        have hcB0 := hcB
        have hfr1 := hfr 1
        clear hH R0 R1 hcA hcC hfr hfin1
        go_wp2
        have HH3 := Aside0.mk (Kd.H_drew HH.out)
        have HR03 := Aside0.mk (Kd.R_drew HR0.out)
        have HR13 := Aside0.mk (Kd.R_drew HR1.out)
        have HM4 := Aside0.mk (HM3.out.step (below_drew1 (Below.refl _ _)))
        have hcB3 : w3.drew.cell? ⟨g1, (gs.length - 1) * 3 + 1, none⟩ = some (.slice A1 N1 c1) := hcB
        have hfr3 : w3.drew.frozen? ⟨g1, (gs.length - 1) * 3 + 1, none⟩ = false := hfr1
        have hk03 : w3.drew.cell? ⟨w.heap.size, 0, none⟩ = some (.string kk) := hk0
        have hk13 : w3.drew.cell? ⟨w.heap.size, 1, none⟩ = some (.string vv) := hk1
        have Hk4 : Aside0 (w3.drew.heap[w.heap.size]? = some (.cells #[.string kk, .string vv] 40 (0, 0))) := ⟨Hk3.out⟩
        refine start_ (n := 16) (S := fun w' => w'.cell? ⟨g1, (gs.length - 1) * 3 + 1, none⟩ = some (.slice A1 N1 c1) ∧ w'.cell? ⟨w.heap.size, 0, none⟩ = some (.string kk) ∧ w'.cell? ⟨w.heap.size, 1, none⟩ = some (.string vv)) (ds := [15]) #[false, false, false, false, false, false, false, false, false, false, false, false, false, false, false, false] (by kernel_rfl) rfl rfl ⟨hcB3, hk03, hk13⟩ (fun hHeld => ?_)
        generalize w3.drew = w4 at HH3 HR03 HR13 HM4 Hk4 hcB3 hfr3 hk03 hk13 hHeld ⊢
        clear HH HR0 HR1 hcB hcB0 hfr1 hk0 hk1 HM3 Hk3
        refine pure_ (i := 0) (N := some 43) (v := ?_) (a' := ?_) #[true, false, false, false, false, false, false, false, false, false, false, false, false, false, false, false] rfl rfl (by kernel_rfl) (fun _ _ _ h => h) (Or.inl ⟨by rfl, ?_⟩) ?_ ?_
        rotate_left
        · intro w'
          go_simp
          with_reducible rfl
        rotate_left
        · simp only [Act.put, List.setIfInBounds_toArray, List.set_cons_zero, List.set_cons_succ, i64_w, i32_w]
          rfl
        refine pure_ (i := 1) (N := some 44) (v := ?_) (a' := ?_) #[true, true, false, false, false, false, false, false, false, false, false, false, false, false, false, false] rfl rfl (by kernel_rfl) (fun _ _ _ h => h) (Or.inl ⟨by rfl, ?_⟩) ?_ ?_
        rotate_left
        · intro w'
          go_simp
          with_reducible rfl
        rotate_left
        · simp only [Act.put, List.setIfInBounds_toArray, List.set_cons_zero, List.set_cons_succ, i64_w, i32_w]
          rfl
        refine pure_ (i := 2) (N := some 45) (v := ?_) (a' := ?_) #[true, true, true, false, false, false, false, false, false, false, false, false, false, false, false, false] rfl rfl (by kernel_rfl) (fun _ _ _ h => h) (Or.inl ⟨by rfl, ?_⟩) ?_ ?_
        rotate_left
        · intro w'
          go_simp
          with_reducible rfl
        rotate_left
        · simp only [Act.put, List.setIfInBounds_toArray, List.set_cons_zero, List.set_cons_succ, i64_w, i32_w]
          rfl
        refine pure_ (i := 3) (N := some 46) (v := ?_) (a' := ?_) #[true, true, true, true, false, false, false, false, false, false, false, false, false, false, false, false] rfl rfl (by kernel_rfl) (fun _ _ _ h => h) (Or.inl ⟨by rfl, ?_⟩) ?_ ?_
        rotate_left
        · intro w'
          go_simp
          with_reducible rfl
        rotate_left
        · simp only [Act.put, List.setIfInBounds_toArray, List.set_cons_zero, List.set_cons_succ, i64_w, i32_w]
          rfl
        refine pure_ (i := 5) (N := some 48) (v := ?_) (a' := ?_) #[true, true, true, true, false, true, false, false, false, false, false, false, false, false, false, false] rfl rfl (by kernel_rfl) (fun _ _ _ h => h) (Or.inl ⟨by rfl, ?_⟩) ?_ ?_
        rotate_left
        · intro w'
          go_simp
          with_reducible rfl
        rotate_left
        · simp only [Act.put, List.setIfInBounds_toArray, List.set_cons_zero, List.set_cons_succ, i64_w, i32_w]
          rfl
        refine pure_ (i := 8) (N := some 51) (v := ?_) (a' := ?_) #[true, true, true, true, false, true, false, false, true, false, false, false, false, false, false, false] rfl rfl (by kernel_rfl) (fun _ _ _ h => h) (Or.inl ⟨by rfl, ?_⟩) ?_ ?_
        rotate_left
        · intro w'
          go_simp
          with_reducible rfl
        rotate_left
        · simp only [Act.put, List.setIfInBounds_toArray, List.set_cons_zero, List.set_cons_succ, i64_w, i32_w]
          rfl
        refine take_ (i := 4) (N := some 47) (v := ?_) (a' := ?_) #[true, true, true, true, true, true, false, false, true, false, false, false, false, false, false, false] rfl rfl (by kernel_rfl) (fun _ _ _ h => h) (Or.inl ⟨by rfl, ?_⟩) hHeld ?_ ?_
        rotate_left
        · rintro w' ⟨s0, s1, s2⟩
          go_simp
          with_reducible rfl
        rotate_left
        · simp only [Act.put, List.setIfInBounds_toArray, List.set_cons_zero, List.set_cons_succ, i64_w, i32_w]
          rfl
        refine take_ (i := 6) (N := some 49) (v := ?_) (a' := ?_) #[true, true, true, true, true, true, true, false, true, false, false, false, false, false, false, false] rfl rfl (by kernel_rfl) (fun _ _ _ h => h) (Or.inl ⟨by rfl, ?_⟩) hHeld ?_ ?_
        rotate_left
        · rintro w' ⟨s0, s1, s2⟩
          go_simp
          with_reducible rfl
        rotate_left
        · simp only [Act.put, List.setIfInBounds_toArray, List.set_cons_zero, List.set_cons_succ, i64_w, i32_w]
          rfl
        refine take_ (i := 9) (N := some 52) (v := ?_) (a' := ?_) #[true, true, true, true, true, true, true, false, true, true, false, false, false, false, false, false] rfl rfl (by kernel_rfl) (fun _ _ _ h => h) (Or.inl ⟨by rfl, ?_⟩) hHeld ?_ ?_
        rotate_left
        · rintro w' ⟨s0, s1, s2⟩
          go_simp
          with_reducible rfl
        rotate_left
        · simp only [Act.put, List.setIfInBounds_toArray, List.set_cons_zero, List.set_cons_succ, i64_w, i32_w]
          rfl
        refine pure_ (i := 7) (N := some 50) (v := ?_) (a' := ?_) #[true, true, true, true, true, true, true, true, true, true, false, false, false, false, false, false] rfl rfl (by kernel_rfl) (fun _ _ _ h => h) (Or.inl ⟨by rfl, ?_⟩) ?_ ?_
        rotate_left
        · intro w'
          go_simp
          with_reducible rfl
        rotate_left
        · simp only [Act.put, List.setIfInBounds_toArray, List.set_cons_zero, List.set_cons_succ, i64_w, i32_w]
          rfl
        refine pure_ (i := 10) (N := some 53) (v := ?_) (a' := ?_) #[true, true, true, true, true, true, true, true, true, true, true, false, false, false, false, false] rfl rfl (by kernel_rfl) (fun _ _ _ h => h) (Or.inl ⟨by rfl, ?_⟩) ?_ ?_
        rotate_left
        · intro w'
          go_simp
          with_reducible rfl
        rotate_left
        · simp only [Act.put, List.setIfInBounds_toArray, List.set_cons_zero, List.set_cons_succ, i64_w, i32_w]
          rfl
        refine one_ (i := 11) (N := some 54) #[true, true, true, true, true, true, true, true, true, true, true, true, false, false, false, false] rfl rfl (by kernel_rfl) (by decide) (fun K hK => ?_)
        refine value_ (w1 := ?_) (v := ?_) (by rfl) rfl ?_ ?_
        rotate_left 2
        · go_simp
          constructor
          · rfl
          · rfl
        refine hK.out _ _ ⟨(World.cell?_alloc_lt _ _ _ (World.block_lt_of_cell? _ _ hcB3)).trans hcB3, (World.cell?_alloc_lt _ _ _ (World.block_lt_of_cell? _ _ hk03)).trans hk03, (World.cell?_alloc_lt _ _ _ (World.block_lt_of_cell? _ _ hk13)).trans hk13⟩ (fun hHeld => ?_)
        clear hK K
        refine norm_ (a' := ?_) ?_ ?_
        rotate_left
        · show Act.put _ (some 54) _ = _
          simp only [Act.put, List.setIfInBounds_toArray, List.set_cons_zero, List.set_cons_succ, i64_w, i32_w]
          rfl
        refine one_ (i := 12) (N := some 55) #[true, true, true, true, true, true, true, true, true, true, true, true, true, false, false, false] rfl rfl (by kernel_rfl) (by decide) (fun K hK => ?_)
        refine Kd.R_append_step k59 (w0 := W0) W0.heap.size (by rfl) (.tmp 47) (.tmp 54) 51 59 (.agg #[.bool false, .string ⟨#[]⟩]) 24 rfl Tryd.underlying51 info59 rfl (by decide) (by omega) (.slice A1 N1 c1) (gs.getD (gs.length - 1) z53).f1 ⟨false, vv⟩ [.bool false, .string vv] (fun k => oki k ∨ True ∧ w4.heap.size ≤ k) (fun _ => False) rfl rfl (k59_mkM _ _ _ _) (fun _ hk => hk.elim) (fun k hk => .inr ⟨trivial, hk⟩) (Kd.R_mono HR13.out (fun _ hk => .inl hk)) HM4.out.below HM4.out.below.size (by have := hN1.out; omega) ?_
        intro v1 w5 ho hb5 hg hat
        have hgne : some g1 ≠ (Value.slice A1 N1 c1).ownBlock := fun e => hne g1 (HR13.out.1 g1 e.symm) rfl
        have HH5 := Aside0.mk (Kd.H_grown (Kd.H_widen HH3.out) hg (fun k hk => .inl (HR13.out.1 k hk)))
        have HR05 := Aside0.mk (Kd.R_mono (ok' := fun k => oki k ∨ True ∧ w4.heap.size ≤ k) (Kd.R_over' HR03.out (Kd.R_typed HR13.out) (by decide) hg) (fun _ hk => .inl hk))
        have Hm5 := Aside0.mk (blk_grown HM4.out.box hg (Kd.R_ne HR13.out HM4.out.box (by decide)))
        have hbk := hg.block g1 (World.block_lt_of_cell? _ _ hcB3) hgne
        have hbk3 := hg.block w.heap.size (World.block_lt_of_cell? _ _ hk03) (Kd.R_ne HR13.out Hk4.out (by decide))
        have hcB5 : w5.cell? ⟨g1, (gs.length - 1) * 3 + 1, none⟩ = some (.slice A1 N1 c1) := (World.cell?_of_block (w := w4) hbk).trans hcB3
        have hfr5 : w5.frozen? ⟨g1, (gs.length - 1) * 3 + 1, none⟩ = false := (World.frozen?_of_block (w := w4) hbk).trans hfr3
        have hk05 : w5.cell? ⟨w.heap.size, 0, none⟩ = some (.string kk) := (World.cell?_of_block (w := w4) hbk3).trans hk03
        have hk15 : w5.cell? ⟨w.heap.size, 1, none⟩ = some (.string vv) := (World.cell?_of_block (w := w4) hbk3).trans hk13
        have hlt4 : Hid (g1 < w4.heap.size) := World.block_lt_of_cell? _ _ hcB3
        have ho5 := Aside0.mk ho
        have hone := (Kd.R_val ho).2
        have hv1 : ∃ A n c, v1 = .slice A n c := by obtain ⟨A, c, e⟩ := Kd.R_slice ho; exact ⟨A, _, c, e⟩
        refine hK.out _ _ ⟨hcB5, hk05, hk15⟩ (fun hHeld => ?_)
        clear hK K
        refine norm_ (a' := ?_) ?_ ?_
        rotate_left
        · show Act.put _ (some 55) _ = _
          simp only [Act.put, List.setIfInBounds_toArray, List.set_cons_zero, List.set_cons_succ, i64_w, i32_w]
          rfl
        clear HH3 HR03 HR13 HM4 hcB3 hfr3 hgne hg hat hbk hbk3 ho hk03 hk13
        obtain ⟨A2, N2, c2, rfl⟩ := hv1
        refine pure_ (i := 13) (N := some 56) (v := ?_) (a' := ?_) #[true, true, true, true, true, true, true, true, true, true, true, true, true, true, false, false] rfl rfl (by kernel_rfl) (fun _ _ _ h => h) (Or.inl ⟨by rfl, ?_⟩) ?_ ?_
        rotate_left
        · intro w'
          go_simp
          with_reducible rfl
        rotate_left
        · simp only [Act.put, List.setIfInBounds_toArray, List.set_cons_zero, List.set_cons_succ, i64_w, i32_w]
          rfl
        refine pure_ (i := 14) (N := some 57) (v := ?_) (a' := ?_) #[true, true, true, true, true, true, true, true, true, true, true, true, true, true, true, false] rfl rfl (by kernel_rfl) (fun _ _ _ h => h) (Or.inl ⟨by rfl, ?_⟩) ?_ ?_
        rotate_left
        · intro w'
          go_simp
          with_reducible rfl
        rotate_left
        · simp only [Act.put, List.setIfInBounds_toArray, List.set_cons_zero, List.set_cons_succ, i64_w, i32_w]
          rfl
        refine last_ (i := 15) (N := none) #[true, true, true, true, true, true, true, true, true, true, true, true, true, true, true, true] rfl rfl (by kernel_rfl) (by decide) (fun K hK => ?_)
        refine skip_ (w1 := ?_) (by rfl) rfl ?_ ?_
        rotate_left
        · go_simp
          rfl
        refine hK.out _ _ ?_
        clear hK K
        refine done_ (by kernel_rfl) ?_
        go_wp2
        go_end0
        have hput := last_put53 HH5.out hgs 1 (by omega) _ hone { lastG gs with f1 := (lastG gs).f1 ++ [⟨false, vv⟩] } (k53_mkM _ _ _ ({ lastG gs with f1 := (lastG gs).f1 ++ [⟨false, vv⟩] } : S53) HR05.out ho5.out) (fun k hk => hk.elim (hne k) (fun h e => by have := hlt4.out; have := h.2; omega))
        rw [hfin]
        exact ⟨rfl, ⟨blk_far Hm5.out (Ne.symm hg1m) _, hB, hput.1, hb5.setCell hg1 _⟩⟩
      · have hfin := hfin1 _ (if_neg (fun hh => hv ⟨hh.1, by have h2 : (gs.getD (gs.length - 1) z53).f1.length < 64 := hh.2; have := hN1.out; omega⟩))
        have key : vv.toList.isEmpty = true ∨ (vv.toList.isEmpty = false ∧ ((N1 : Int) < 64) = False) := by cases h : vv.toList.isEmpty; exact .inr ⟨rfl, eq_false (fun h2 => hv ⟨h, by omega⟩)⟩; exact .inl rfl
        clear hH R0 R1 hcA hcC hfr hfin1 hv
        rcases key with hv1 | ⟨hv1, hv3⟩
        · have hv4 : (vv.toList = []) = True := eq_true (by simpa using hv1)
          go_wp2
          go_end0
          rw [hfin]
          exact ⟨rfl, HM3.out⟩
        · have hv4 : (vv.toList = []) = False := eq_false (by intro e; rw [e] at hv1; cases hv1)
          go_wp2
          go_end0
          rw [hfin]
          exact ⟨rfl, HM3.out⟩
  by_cases hC : (kk.toList == sDelay) = true
  · have e1 : (kk.toList == [97, 108, 108, 111, 119]) = false := by cases h : (kk.toList == [97, 108, 108, 111, 119]); rfl; exact absurd (.inl h) hA
    have e2 : (kk.toList == [100, 105, 115, 97, 108, 108, 111, 119]) = false := by cases h : (kk.toList == [100, 105, 115, 97, 108, 108, 111, 119]); rfl; exact absurd (.inr h) hA
    have e3 : (kk.toList == [99, 114, 97, 119, 108, 45, 100, 101, 108, 97, 121]) = true := hC
    have hfin1 : ∀ x, (if (delayV vv.data.toList).2 = true then setG gs { lastG gs with f2 := max (lastG gs).f2 ((delayV vv.data.toList).1 : Int) } else gs) = x → addG gs op ⟨kk, vv⟩ = (x, false) := by intro x hx; simp only [addG]; rw [if_neg hgs0, if_neg hA, if_pos hC, hx]
    clear hA hC
    go_upto_region 11 with (fail)
    have HM3 := Aside0.mk (HMK2.out.shut false)
    have Hk3 := Aside0.mk (blk_far Hk2.out (p := ⟨m, 1, none⟩) hbm (.bool false))
    generalize (w2.setCell ⟨m, 1, none⟩ (.bool false)) = w3 at HM3 Hk3 ⊢
    clear hc0 hc1 hf0 hf1 hk0 hk1 HMK2 Hk2
    have hk1 := blk_cell Hk3.out 1
    simp only [List.getElem?_toArray, List.getElem?_cons_zero, List.getElem?_cons_succ] at hk1
    have HSh := Aside0.mk (Shp.below HSH.out HM3.out.below)
    have HD := Aside0.mk (show lines_Delay.f vv = some (((delayV vv.data.toList).1 : Int), (delayV vv.data.toList).2) by rw [lines_Delay.f, if_pos hn])
    cases hok : (delayV vv.data.toList).2 with
    | true =>
      rw [hok] at HD hfin1
      have hfin := hfin1 _ (if_pos rfl)
      clear hfin1 hok
      generalize (delayV vv.data.toList).1 = n at HD hfin
      go_upto_region 13 with (first | ((with_reducible refine gate_callee (f := 13) rfl ?_); refine goesL_ (some 66) rfl rfl Tryd.func13 (by kernel_rfl) rfl #[.string vv] rfl (by (try simp only [List.map_toArray, List.map_cons, List.map_nil]); first | done | rfl) ?_; (with_reducible refine (lines_Delay.calls vv (n : Int) true _ HD.out HSh.out).mono ?_); rintro e w4 ⟨rfl, hb4⟩; refine ⟨_, rfl, ?_⟩; have HM4 := Aside0.mk (HM3.out.step hb4); clear hb4))
      obtain ⟨oki, e0, e1', R0, R1, hcA, hcB, hcC, hfr, hne, hH⟩ := last_open53 HM4.out.row hgs
      have hfr2 := hfr 2
      have HH := Aside0.mk hH
      have HR0 := Aside0.mk R0
      have HR1 := Aside0.mk R1
      clear hH R0 R1 hcA hcB hfr hk1 Hk3 HM3
      have hput : ∀ u : Int, u = max (lastG gs).f2 (n : Int) → Kd.S k53 53 (w4.setCell ⟨g1, (gs.length - 1) * 3 + 2, none⟩ (.int .i64 u)) W0.heap.size (fun _ => True) (.slice (some ⟨g1, 0, none⟩) gs.length cap1) (setG gs { lastG gs with f2 := max (lastG gs).f2 (n : Int) }) := by
        intro u hu
        subst hu
        exact (last_put53 HH.out hgs 2 (by omega) (.int .i64 (max (lastG gs).f2 (n : Int))) rfl { lastG gs with f2 := max (lastG gs).f2 (n : Int) } (k53_mkM _ _ _ ({ lastG gs with f2 := max (lastG gs).f2 (n : Int) } : S53) HR0.out HR1.out) hne).1
      have hput := Aside0.mk hput
      go_wp2
      all_goals go_end0
      all_goals try rw [hfin]
      all_goals
        refine ⟨rfl, ⟨blk_far HM4.out.box (Ne.symm hg1m) _, hB, hput.out _ ?_, HM4.out.below.setCell hg1 _⟩⟩
        show _ = max (gs.getD (gs.length - 1) z53).f2 _
        rw [List.getD_eq_getElem?_getD]
        omega
    | false =>
      rw [hok] at HD hfin1
      have hfin := hfin1 _ (if_neg (by decide))
      clear hfin1 hok
      generalize (delayV vv.data.toList).1 = n at HD
      go_wp2_with (first | ((with_reducible refine gate_callee (f := 13) rfl ?_); refine goesL_ (some 66) rfl rfl Tryd.func13 (by kernel_rfl) rfl #[.string vv] rfl (by (try simp only [List.map_toArray, List.map_cons, List.map_nil]); first | done | rfl) ?_; (with_reducible refine (lines_Delay.calls vv (n : Int) false _ HD.out HSh.out).mono ?_); rintro e w4 ⟨rfl, hb4⟩; refine ⟨_, rfl, ?_⟩; have HM4 := Aside0.mk (HM3.out.step hb4); clear hb4))
      go_end0
      try rw [hfin]
      exact ⟨rfl, HM4.out⟩
  · have e1 : (kk.toList == [97, 108, 108, 111, 119]) = false := by cases h : (kk.toList == [97, 108, 108, 111, 119]); rfl; exact absurd (.inl h) hA
    have e2 : (kk.toList == [100, 105, 115, 97, 108, 108, 111, 119]) = false := by cases h : (kk.toList == [100, 105, 115, 97, 108, 108, 111, 119]); rfl; exact absurd (.inr h) hA
    have e3 : (kk.toList == [99, 114, 97, 119, 108, 45, 100, 101, 108, 97, 121]) = false := by cases h : (kk.toList == [99, 114, 97, 119, 108, 45, 100, 101, 108, 97, 121]); rfl; exact absurd h hC
    have hfin : addG gs op ⟨kk, vv⟩ = (gs, op) := by simp only [addG]; rw [if_neg hgs0, if_neg hA, if_neg hC]
    clear hA hC
    go_wp2
    go_end0
    rw [hfin]
    exact ⟨rfl, HMK2.out⟩
end Go.Proofs.YthbmedhejlhclaaDoor.Given
