/- robotsReads_holds: a part of its proof (the texts GivG, OfB, GivR, QBasex5, PureD without what this claim does not lean on). -/
import Derived.Outline
import Derived.Test.YtdnaddignhjihaaDoorZR2
namespace Go.Proofs.YtdnaddignhjihaaDoor.Given
open Go.RowKit Go.Proofs.YtdnaddignhjihaaDoor.QBase Go.Proofs.YtdnaddignhjihaaDoorW.PrintWords Go.Proofs.YtdnaddignhjihaaDoorW.PrintLast Go.Proofs.YtdnaddignhjihaaDoorW.PrintMore
set_option linter.unusedVariables false
set_option linter.unusedSimpArgs false
attribute [local go_sem] max2_int min2_int max_two min_two max_three min_three max_four min_four
theorem info86 : (Tryd.prog.info? 86).map (fun i => (i.zero, i.size, i.bytes)) = some (some (.agg #[.slice none 0 0, .slice none 0 0, .int .i64 0]), 3, 56) := by kernel_rfl
theorem info9 : (Tryd.prog.info? 9).map (fun i => (i.zero, i.size, i.bytes)) = some (some (.string ⟨#[]⟩), 1, 16) := by kernel_rfl
theorem info30 : (Tryd.prog.info? 30).map (fun i => (i.zero, i.size, i.bytes)) = some (some (.agg #[.bool false, .string ⟨#[]⟩]), 2, 24) := by kernel_rfl

/-- The maker: its box m, its groups, whether agents come still; below W0 all is as it was. -/
structure Mk (W0 : World) (m : Nat) (gs : List S86) (op : Bool) (v : Value) (w : World) : Prop where
  box : w.heap[m]? = some (.cells #[v, .bool op] 67 (0, 0))
  base : W0.heap.size ≤ m
  row : Kd.S k86 86 w W0.heap.size (fun _ => True) v gs
  below : Below W0.heap.size W0 w
/-- Where the row lies: not in the maker's box. -/
theorem Mk.form {W0 w : World} {m : Nat} {gs : List S86} {op : Bool} {v : Value} (h : Mk W0 m gs op v w) (hp : 0 < gs.length) : ∃ g cap, v = .slice (some ⟨g, 0, none⟩) gs.length cap ∧ W0.heap.size ≤ g ∧ g < w.heap.size ∧ g ≠ m := by
  obtain ⟨g, cap, e, h1, h2, cs, h3⟩ := Kd.S_form h.row hp
  refine ⟨g, cap, e, h1, h2, ?_⟩
  rintro rfl
  rw [h.box] at h3
  simp at h3
theorem Mk.shut {W0 w : World} {m : Nat} {gs : List S86} {op : Bool} {v : Value} (h : Mk W0 m gs op v w) (op' : Bool) : Mk W0 m gs op' v (w.setCell ⟨m, 1, none⟩ (.bool op')) :=
  ⟨blk_put h.box 1 _ rfl, h.base, Kd.S_set h.row h.box (by decide) 1 _, below_set h.below h.base⟩
def lastG (gs : List S86) : S86 := gs.getD (gs.length - 1) z86
def setG (gs : List S86) (x : S86) : List S86 := gs.set (gs.length - 1) x
/-- One more whom the last group is for. -/
def agentG (gs : List S86) (op : Bool) (nm : ByteArray) : List S86 :=
  setG (if op then gs else gs ++ [z86]) { lastG (if op then gs else gs ++ [z86]) with f0 := (lastG (if op then gs else gs ++ [z86])).f0 ++ [⟨(lowL nm.data.toList).toArray⟩] }
theorem Mk.step {W0 w w' : World} {m : Nat} {gs : List S86} {op : Bool} {v : Value} (h : Mk W0 m gs op v w) (hb : Below w.heap.size w w') : Mk W0 m gs op v w' :=
  ⟨blk_below h.box hb, h.base, Kd.S_below h.row hb, below_step h.below hb⟩
theorem Mk.len {W0 w : World} {m : Nat} {gs : List S86} {op : Bool} {v : Value} (h : Mk W0 m gs op v w) : ∃ A c, v = .slice A gs.length c := Kd.S_slice h.row
def sAllow : List UInt8 := [97, 108, 108, 111, 119]
def sDis : List UInt8 := [100, 105, 115, 97, 108, 108, 111, 119]
def sDelay : List UInt8 := [99, 114, 97, 119, 108, 45, 100, 101, 108, 97, 121]
/-- What the last group is told. -/
def addG (gs : List S86) (op : Bool) (l : S35) : List S86 × Bool :=
  if gs = [] then (gs, op)
  else if (l.f0.toList == sAllow) = true ∨ (l.f0.toList == sDis) = true then
    (if l.f1.toList.isEmpty = false ∧ (lastG gs).f1.length < 64 then setG gs { lastG gs with f1 := (lastG gs).f1 ++ [⟨l.f0.toList == sAllow, l.f1⟩] } else gs, false)
  else if (l.f0.toList == sDelay) = true then
    (if (delayV l.f1.data.toList).2 = true then setG gs { lastG gs with f2 := max (lastG gs).f2 ((delayV l.f1.data.toList).1 : Int) } else gs, false)
  else (gs, op)

set_option maxHeartbeats 8000000 in
set_option maxRecDepth 1000000 in
theorem agent_calls (W0 w : World) (m : Nat) (gs : List S86) (op : Bool) (v : Value) (nm : ByteArray) (h : Mk W0 m gs op v w) (hn : nm.size ≤ 140737488351232) (hl : gs.length < 1000000) (hl0 : ∀ x ∈ gs, x.f0.length < 1000000) (hop : op = true → gs ≠ []) :
    Calls Tryd.prog 31 #[.pointer (some ⟨m, 0, none⟩), .string nm] w fun e w' => e = .returned (.tuple #[]) ∧ ∃ v', Mk W0 m (agentG gs op nm) true v' w' := by
  have hB := h.base
  have HL := Aside0.mk (show lines_lower.f nm = some ⟨(lowL nm.data.toList).toArray⟩ by rw [lines_lower.f, if_pos hn])
  have HMK := Aside0.mk h
  cases op with
  | false =>
    have hc0 := blk_cell h.box 0
    have hc1 := blk_cell h.box 1
    have hf0 := blk_frozen h.box 0
    have hf1 := blk_frozen h.box 1
    simp only [List.getElem?_toArray, List.getElem?_cons_zero, List.getElem?_cons_succ] at hc0 hc1
    clear h
    go_enter Tryd.func31, Tryd.ntmps31
    go_wp2_with (first
      | ((with_reducible refine gate_builtin (b := .append) (xs := #[.tmp 15, .tmp 17]) rfl ?_); at_builtin; (refine Kd.S_append k86 (w0 := W0) W0.heap.size rfl (.tmp 15) (.tmp 17) 40 86 (.agg #[.slice none 0 0, .slice none 0 0, .int .i64 0]) 56 rfl Tryd.underlying40 info86 rfl (by decide) (by omega) v gs z86 [.slice none 0 0, .slice none 0 0, .int .i64 0] (fun k_ => k_ ≠ m) (fun _ => False) rfl rfl (k86_mkM _ _ _ z86 (Kd.R_nil _ _ _ _ _) (Kd.R_nil _ _ _ _ _)) (fun _ hk => hk.elim) (Kd.freshB HMK.out.box) (Kd.S_mono (Kd.S_types HMK.out.row HMK.out.box (by decide)) (fun _ hk => ⟨hk.2, fun h => h⟩)) HMK.out.below HMK.out.below.size (by omega) ?_); intro v1 w1 ho hb hg hat; have hm1 := blk_grown HMK.out.box hg (Kd.S_away (Kd.S_mono (Kd.S_types HMK.out.row HMK.out.box (by decide)) (fun _ hk => hk.2)) (fun _ hk => hk)); obtain ⟨g1, cap1, rfl, hg1, hg1l, cells1, hcells1⟩ := Kd.S_form ho (by simp); simp only [List.length_append, List.length_singleton] at ho; have hfa := blk_frozen hm1 0; have hfb := blk_frozen hm1 1; have hca := blk_cell hm1 0; have hcb := blk_cell hm1 1; simp only [List.getElem?_toArray, List.getElem?_cons_zero, List.getElem?_cons_succ] at hca hcb; clear hat hg hcells1))
    have hB1 := hg1
    have HMk : Mk W0 m (gs ++ [z86]) true (.slice (some ⟨g1, 0, none⟩) (gs.length + 1) cap1) ((w1.setCell ⟨m, 0, none⟩ (.slice (some ⟨g1, 0, none⟩) (gs.length + 1) cap1)).setCell ⟨m, 1, none⟩ (.bool true)) :=
      ⟨blk_put (blk_put hm1 0 _ rfl) 1 _ rfl, hB, Kd.S_mono (Kd.S_far (p := ⟨m, 1, none⟩) (Kd.S_far (p := ⟨m, 0, none⟩) ho (fun _ hk => hk) _) (fun _ hk => hk) _) (fun _ _ => trivial), below_set (below_set hb hB) hB⟩
    have hg1m : g1 ≠ m := by obtain ⟨g', c', e', _, _, hne'⟩ := HMk.form (by simp); rw [Value.slice.injEq] at e'; have e2 := e'.1; simp at e2; rw [e2]; exact hne'
    have hfin : agentG gs false nm = setG (gs ++ [z86]) { lastG (gs ++ [z86]) with f0 := (lastG (gs ++ [z86])).f0 ++ [⟨(lowL nm.data.toList).toArray⟩] } := rfl
    have hl0' : (lastG (gs ++ [z86])).f0.length < 1000000 := by simp [lastG, z86]
    have hnG : gs.length + 1 = (gs ++ [z86]).length := by simp
    have hgs : 0 < (gs ++ [z86]).length := by simp
    have hll : (gs ++ [z86]).length < 1000001 := by simp; omega
    generalize gs ++ [z86] = G at *
    generalize gs.length + 1 = n at *
    generalize ((w1.setCell ⟨m, 0, none⟩ (.slice (some ⟨g1, 0, none⟩) n cap1)).setCell ⟨m, 1, none⟩ (.bool true)) = w2 at *
    subst hnG
    clear ho hb hm1 hfa hfb hca hcb hc0 hc1 hf0 hf1
    obtain ⟨hm2, _, hS2, hb2⟩ := HMk
    obtain ⟨oki, e0, e1, R0, R1, hcA, hcB, hcC, hfr, hne, hH⟩ := last_open86 hS2 hgs
    have hw1 : wrap64 ((G.length : Int) - 1) = ((G.length - 1 : Nat) : Int) := by simp only [wrap64]; omega
    have hw2 : IntKind.i64.wrap ((G.length : Int) - 1) = ((G.length - 1 : Nat) : Int) := by rw [i64_w]; exact hw1
    have hlt1 : (((G.length - 1 : Nat) : Int) < (G.length : Int)) = True := eq_true (by omega)
    have hc0 := blk_cell hm2 0
    simp only [List.getElem?_toArray, List.getElem?_cons_zero] at hc0
    have hadd : (⟨g1, 0, none⟩ : Addr).add ((G.length - 1) * 3) = ⟨g1, (G.length - 1) * 3, none⟩ := by unfold Addr.add; split <;> simp_all
    have HH := Aside0.mk hH
    have HR0 := Aside0.mk R0
    have HR1 := Aside0.mk R1
    have Hm2 := Aside0.mk hm2
    clear hH R0 R1 hS2 hm2
    go_wp2
    go_region
    go_wp2
    have HH3 := Aside0.mk (Kd.H_drew (Kd.H_drew HH.out))
    have HR03 := Aside0.mk (Kd.R_drew (Kd.R_drew HR0.out))
    have HR13 := Aside0.mk (Kd.R_drew (Kd.R_drew HR1.out))
    have Hm3 := Aside0.mk (show w2.drew.drew.heap[m]? = _ from Hm2.out)
    have HB3 := Aside0.mk (below_drew1 (below_drew1 hb2))
    have hcA3 : w2.drew.drew.cell? ⟨g1, (G.length - 1) * 3, none⟩ = some e0 := hcA
    have hfr3 : w2.drew.drew.frozen? ⟨g1, (G.length - 1) * 3, none⟩ = false := hfr 0
    refine start_ (n := 12) (S := fun w' => w'.cell? ⟨g1, (G.length - 1) * 3, none⟩ = some e0) (ds := [11]) #[false, false, false, false, false, false, false, false, false, false, false, false] (by kernel_rfl) rfl rfl hcA3 (fun hHeld => ?_)
    generalize w2.drew.drew = w3 at HH3 HR03 HR13 Hm3 HB3 hcA3 hfr3 hHeld ⊢
    clear HH HR0 HR1 Hm2 hcA hcB hcC hfr hc0
    refine pure_ (i := 0) (N := some 34) (v := ?_) (a' := ?_) #[true, false, false, false, false, false, false, false, false, false, false, false] rfl rfl (by kernel_rfl) (fun _ _ _ h => h) (Or.inl ⟨by rfl, ?_⟩) ?_ ?_
    rotate_left
    · intro w'
      go_simp
      with_reducible rfl
    rotate_left
    · simp only [Act.put, List.setIfInBounds_toArray, List.set_cons_zero, List.set_cons_succ, i64_w, i32_w]
      rfl
    refine pure_ (i := 1) (N := some 35) (v := ?_) (a' := ?_) #[true, true, false, false, false, false, false, false, false, false, false, false] rfl rfl (by kernel_rfl) (fun _ _ _ h => h) (Or.inl ⟨by rfl, ?_⟩) ?_ ?_
    rotate_left
    · intro w'
      go_simp
      with_reducible rfl
    rotate_left
    · simp only [Act.put, List.setIfInBounds_toArray, List.set_cons_zero, List.set_cons_succ, i64_w, i32_w]
      rfl
    refine pure_ (i := 2) (N := some 36) (v := ?_) (a' := ?_) #[true, true, true, false, false, false, false, false, false, false, false, false] rfl rfl (by kernel_rfl) (fun _ _ _ h => h) (Or.inl ⟨by rfl, ?_⟩) ?_ ?_
    rotate_left
    · intro w'
      go_simp
      with_reducible rfl
    rotate_left
    · simp only [Act.put, List.setIfInBounds_toArray, List.set_cons_zero, List.set_cons_succ, i64_w, i32_w]
      rfl
    refine pure_ (i := 3) (N := some 37) (v := ?_) (a' := ?_) #[true, true, true, true, false, false, false, false, false, false, false, false] rfl rfl (by kernel_rfl) (fun _ _ _ h => h) (Or.inl ⟨by rfl, ?_⟩) ?_ ?_
    rotate_left
    · intro w'
      go_simp
      with_reducible rfl
    rotate_left
    · simp only [Act.put, List.setIfInBounds_toArray, List.set_cons_zero, List.set_cons_succ, i64_w, i32_w]
      rfl
    refine pure_ (i := 5) (N := some 39) (v := ?_) (a' := ?_) #[true, true, true, true, false, true, false, false, false, false, false, false] rfl rfl (by kernel_rfl) (fun _ _ _ h => h) (Or.inl ⟨by rfl, ?_⟩) ?_ ?_
    rotate_left
    · intro w'
      go_simp
      with_reducible rfl
    rotate_left
    · simp only [Act.put, List.setIfInBounds_toArray, List.set_cons_zero, List.set_cons_succ, i64_w, i32_w]
      rfl
    refine take_ (i := 4) (N := some 38) (v := ?_) (a' := ?_) #[true, true, true, true, true, true, false, false, false, false, false, false] rfl rfl (by kernel_rfl) (fun _ _ _ h => h) (Or.inl ⟨by rfl, ?_⟩) hHeld ?_ ?_
    rotate_left
    · rintro w' s0
      go_simp
      with_reducible rfl
    rotate_left
    · simp only [Act.put, List.setIfInBounds_toArray, List.set_cons_zero, List.set_cons_succ, i64_w, i32_w]
      rfl
    refine one_ (i := 6) (N := some 40) #[true, true, true, true, true, true, true, false, false, false, false, false] rfl rfl (by kernel_rfl) (by decide) (fun K hK => ?_)
    refine goes_ Tryd.func41 (by kernel_rfl) rfl #[.string nm] (by rfl) rfl rfl (by (try simp only [List.map_toArray, List.map_cons, List.map_nil]); first | done | rfl) ?_
    with_reducible refine (lines_lower.calls nm _ _ HL.out).mono ?_
    rintro e w4 ⟨rfl, hb4⟩
    refine ⟨_, rfl, ?_⟩
    have HH4 := Aside0.mk (Kd.H_below HH3.out hb4)
    have HR04 := Aside0.mk (Kd.R_below HR03.out hb4)
    have HR14 := Aside0.mk (Kd.R_below HR13.out hb4)
    have Hm4 := Aside0.mk (blk_below Hm3.out hb4)
    have HB4 := Aside0.mk (below_step HB3.out hb4)
    have hcA4 := (hb4.cell (World.block_lt_of_cell? _ _ hcA3)).trans hcA3
    have hfr4 : w4.frozen? ⟨g1, (G.length - 1) * 3, none⟩ = false := (World.frozen?_of_block (w := w3) (hb4.block g1 (World.block_lt_of_cell? _ _ hcA3))).trans hfr3
    clear HH3 HR03 HR13 Hm3 HB3 hcA3 hfr3 hb4
    refine hK.out _ _ hcA4 (fun hHeld => ?_)
    clear hK K
    refine norm_ (a' := ?_) ?_ ?_
    rotate_left
    · show Act.put _ (some 40) _ = _
      simp only [Act.put, List.setIfInBounds_toArray, List.set_cons_zero, List.set_cons_succ, i64_w, i32_w]
      rfl
    refine one_ (i := 7) (N := some 41) #[true, true, true, true, true, true, true, true, false, false, false, false] rfl rfl (by kernel_rfl) (by decide) (fun K hK => ?_)
    refine value_ (w1 := ?_) (v := ?_) (by rfl) rfl ?_ ?_
    rotate_left 2
    · go_simp
      constructor
      · rfl
      · rfl
    refine hK.out _ _ ((World.cell?_alloc_lt _ _ _ (World.block_lt_of_cell? _ _ hcA4)).trans hcA4) (fun hHeld => ?_)
    clear hK K
    refine norm_ (a' := ?_) ?_ ?_
    rotate_left
    · show Act.put _ (some 41) _ = _
      simp only [Act.put, List.setIfInBounds_toArray, List.set_cons_zero, List.set_cons_succ, i64_w, i32_w]
      rfl
    refine one_ (i := 8) (N := some 42) #[true, true, true, true, true, true, true, true, true, false, false, false] rfl rfl (by kernel_rfl) (by decide) (fun K hK => ?_)
    refine Kd.R_append_step Kd.string (w0 := W0) W0.heap.size (by rfl) (.tmp 38) (.tmp 41) 49 9 (.string ⟨#[]⟩) 16 rfl Tryd.underlying49 info9 rfl (by decide) (by omega) e0 (G.getD (G.length - 1) z86).f0 ⟨(lowL nm.data.toList).toArray⟩ [.string ⟨(lowL nm.data.toList).toArray⟩] (fun k => oki k ∨ True ∧ w4.heap.size ≤ k) (fun _ => False) rfl rfl rfl (fun _ hk => hk.elim) (fun k hk => .inr ⟨trivial, hk⟩) (Kd.R_mono HR04.out (fun _ hk => .inl hk)) HB4.out HB4.out.size (by have := hl0'; simp only [lastG] at this; omega) ?_
    intro v1 w5 ho hb5 hg hat
    have hgne : some g1 ≠ e0.ownBlock := fun e => hne g1 (HR04.out.1 g1 e.symm) rfl
    have HH5 := Aside0.mk (Kd.H_grown (Kd.H_widen HH4.out) hg (fun k hk => .inl (HR04.out.1 k hk)))
    have HR15 := Aside0.mk (Kd.R_mono (ok' := fun k => oki k ∨ True ∧ w4.heap.size ≤ k) (Kd.R_over' HR14.out (Kd.R_typed HR04.out) (by decide) hg) (fun _ hk => .inl hk))
    have Hm5 := Aside0.mk (blk_grown Hm4.out hg (Kd.R_ne HR04.out Hm4.out (by decide)))
    have hbk := hg.block g1 (World.block_lt_of_cell? _ _ hcA4) hgne
    have hcA5 : w5.cell? ⟨g1, (G.length - 1) * 3, none⟩ = some e0 := (World.cell?_of_block (w := w4) hbk).trans hcA4
    have hfr5 : w5.frozen? ⟨g1, (G.length - 1) * 3, none⟩ = false := (World.frozen?_of_block (w := w4) hbk).trans hfr4
    have hlt4 : Hid (g1 < w4.heap.size) := World.block_lt_of_cell? _ _ hcA4
    have ho5 := Aside0.mk ho
    have hone := (Kd.R_val ho).2
    have hv1 : ∃ A n c, v1 = .slice A n c := by obtain ⟨A, c, e⟩ := Kd.R_slice ho; exact ⟨A, _, c, e⟩
    refine hK.out _ _ hcA5 (fun hHeld => ?_)
    clear hK K
    refine norm_ (a' := ?_) ?_ ?_
    rotate_left
    · show Act.put _ (some 42) _ = _
      simp only [Act.put, List.setIfInBounds_toArray, List.set_cons_zero, List.set_cons_succ, i64_w, i32_w]
      rfl
    clear HH4 HR04 HR14 Hm4 HB4 hcA4 hfr4 hgne hg hat hbk ho
    obtain ⟨A1, N1, c1, rfl⟩ := hv1
    refine pure_ (i := 9) (N := some 43) (v := ?_) (a' := ?_) #[true, true, true, true, true, true, true, true, true, true, false, false] rfl rfl (by kernel_rfl) (fun _ _ _ h => h) (Or.inl ⟨by rfl, ?_⟩) ?_ ?_
    rotate_left
    · intro w'
      go_simp
      with_reducible rfl
    rotate_left
    · simp only [Act.put, List.setIfInBounds_toArray, List.set_cons_zero, List.set_cons_succ, i64_w, i32_w]
      rfl
    refine pure_ (i := 10) (N := some 44) (v := ?_) (a' := ?_) #[true, true, true, true, true, true, true, true, true, true, true, false] rfl rfl (by kernel_rfl) (fun _ _ _ h => h) (Or.inl ⟨by rfl, ?_⟩) ?_ ?_
    rotate_left
    · intro w'
      go_simp
      with_reducible rfl
    rotate_left
    · simp only [Act.put, List.setIfInBounds_toArray, List.set_cons_zero, List.set_cons_succ, i64_w, i32_w]
      rfl
    refine last_ (i := 11) (N := none) #[true, true, true, true, true, true, true, true, true, true, true, true] rfl rfl (by kernel_rfl) (by decide) (fun K hK => ?_)
    refine skip_ (w1 := ?_) (by rfl) rfl ?_ ?_
    rotate_left
    · go_simp
      rfl
    refine hK.out _ _ ?_
    clear hK K
    refine done_ (by kernel_rfl) ?_
    go_wp2
    go_end0
    have hput := last_put86 HH5.out hgs 0 (by omega) _ hone { lastG G with f0 := (lastG G).f0 ++ [⟨(lowL nm.data.toList).toArray⟩] } (k86_mkM _ _ _ _ ho5.out HR15.out) (fun k hk => hk.elim (hne k) (fun h e => by have := hlt4.out; have := h.2; omega))
    rw [hfin]
    rw [Nat.add_zero] at hput
    exact ⟨rfl, _, ⟨blk_far Hm5.out (Ne.symm hg1m) _, hB, hput.1, hb5.setCell (hB1) _⟩⟩
  | true =>
    have hgs : 0 < gs.length := List.length_pos_iff.mpr (hop rfl)
    obtain ⟨g1, cap1, rfl, hg1, _, hg1m⟩ := h.form hgs
    have hB1 := hg1
    have hc1 := blk_cell h.box 1
    simp only [List.getElem?_toArray, List.getElem?_cons_zero, List.getElem?_cons_succ] at hc1
    have HMk := h
    clear h
    have hfin : agentG gs true nm = setG gs { lastG gs with f0 := (lastG gs).f0 ++ [⟨(lowL nm.data.toList).toArray⟩] } := rfl
    have hl0' : (lastG gs).f0.length < 1000000 := by
      have : lastG gs ∈ gs := by
        unfold lastG
        rw [List.getD_eq_getElem?_getD, List.getElem?_eq_getElem (by omega)]
        exact List.getElem_mem _
      exact hl0 _ this
    have hll : gs.length < 1000001 := by omega
    go_enter Tryd.func31, Tryd.ntmps31
    go_upto_region 2 with (fail)
    clear hc1
    obtain ⟨hm2, _, hS2, hb2⟩ := HMk
    obtain ⟨oki, e0, e1, R0, R1, hcA, hcB, hcC, hfr, hne, hH⟩ := last_open86 hS2 hgs
    have hw1 : wrap64 ((gs.length : Int) - 1) = ((gs.length - 1 : Nat) : Int) := by simp only [wrap64]; omega
    have hw2 : IntKind.i64.wrap ((gs.length : Int) - 1) = ((gs.length - 1 : Nat) : Int) := by rw [i64_w]; exact hw1
    have hlt1 : (((gs.length - 1 : Nat) : Int) < (gs.length : Int)) = True := eq_true (by omega)
    have hc0 := blk_cell hm2 0
    simp only [List.getElem?_toArray, List.getElem?_cons_zero] at hc0
    have hadd : (⟨g1, 0, none⟩ : Addr).add ((gs.length - 1) * 3) = ⟨g1, (gs.length - 1) * 3, none⟩ := by unfold Addr.add; split <;> simp_all
    have HH := Aside0.mk hH
    have HR0 := Aside0.mk R0
    have HR1 := Aside0.mk R1
    have Hm2 := Aside0.mk hm2
    clear hH R0 R1 hS2 hm2
    go_wp2
    go_region
    go_wp2
    have HH3 := Aside0.mk (Kd.H_drew (Kd.H_drew HH.out))
    have HR03 := Aside0.mk (Kd.R_drew (Kd.R_drew HR0.out))
    have HR13 := Aside0.mk (Kd.R_drew (Kd.R_drew HR1.out))
    have Hm3 := Aside0.mk (show w.drew.drew.heap[m]? = _ from Hm2.out)
    have HB3 := Aside0.mk (below_drew1 (below_drew1 hb2))
    have hcA3 : w.drew.drew.cell? ⟨g1, (gs.length - 1) * 3, none⟩ = some e0 := hcA
    have hfr3 : w.drew.drew.frozen? ⟨g1, (gs.length - 1) * 3, none⟩ = false := hfr 0
    refine start_ (n := 12) (S := fun w' => w'.cell? ⟨g1, (gs.length - 1) * 3, none⟩ = some e0) (ds := [11]) #[false, false, false, false, false, false, false, false, false, false, false, false] (by kernel_rfl) rfl rfl hcA3 (fun hHeld => ?_)
    generalize w.drew.drew = w3 at HH3 HR03 HR13 Hm3 HB3 hcA3 hfr3 hHeld ⊢
    clear HH HR0 HR1 Hm2 hcA hcB hcC hfr hc0
    refine pure_ (i := 0) (N := some 34) (v := ?_) (a' := ?_) #[true, false, false, false, false, false, false, false, false, false, false, false] rfl rfl (by kernel_rfl) (fun _ _ _ h => h) (Or.inl ⟨by rfl, ?_⟩) ?_ ?_
    rotate_left
    · intro w'
      go_simp
      with_reducible rfl
    rotate_left
    · simp only [Act.put, List.setIfInBounds_toArray, List.set_cons_zero, List.set_cons_succ, i64_w, i32_w]
      rfl
    refine pure_ (i := 1) (N := some 35) (v := ?_) (a' := ?_) #[true, true, false, false, false, false, false, false, false, false, false, false] rfl rfl (by kernel_rfl) (fun _ _ _ h => h) (Or.inl ⟨by rfl, ?_⟩) ?_ ?_
    rotate_left
    · intro w'
      go_simp
      with_reducible rfl
    rotate_left
    · simp only [Act.put, List.setIfInBounds_toArray, List.set_cons_zero, List.set_cons_succ, i64_w, i32_w]
      rfl
    refine pure_ (i := 2) (N := some 36) (v := ?_) (a' := ?_) #[true, true, true, false, false, false, false, false, false, false, false, false] rfl rfl (by kernel_rfl) (fun _ _ _ h => h) (Or.inl ⟨by rfl, ?_⟩) ?_ ?_
    rotate_left
    · intro w'
      go_simp
      with_reducible rfl
    rotate_left
    · simp only [Act.put, List.setIfInBounds_toArray, List.set_cons_zero, List.set_cons_succ, i64_w, i32_w]
      rfl
    refine pure_ (i := 3) (N := some 37) (v := ?_) (a' := ?_) #[true, true, true, true, false, false, false, false, false, false, false, false] rfl rfl (by kernel_rfl) (fun _ _ _ h => h) (Or.inl ⟨by rfl, ?_⟩) ?_ ?_
    rotate_left
    · intro w'
      go_simp
      with_reducible rfl
    rotate_left
    · simp only [Act.put, List.setIfInBounds_toArray, List.set_cons_zero, List.set_cons_succ, i64_w, i32_w]
      rfl
    refine pure_ (i := 5) (N := some 39) (v := ?_) (a' := ?_) #[true, true, true, true, false, true, false, false, false, false, false, false] rfl rfl (by kernel_rfl) (fun _ _ _ h => h) (Or.inl ⟨by rfl, ?_⟩) ?_ ?_
    rotate_left
    · intro w'
      go_simp
      with_reducible rfl
    rotate_left
    · simp only [Act.put, List.setIfInBounds_toArray, List.set_cons_zero, List.set_cons_succ, i64_w, i32_w]
      rfl
    refine take_ (i := 4) (N := some 38) (v := ?_) (a' := ?_) #[true, true, true, true, true, true, false, false, false, false, false, false] rfl rfl (by kernel_rfl) (fun _ _ _ h => h) (Or.inl ⟨by rfl, ?_⟩) hHeld ?_ ?_
    rotate_left
    · rintro w' s0
      go_simp
      with_reducible rfl
    rotate_left
    · simp only [Act.put, List.setIfInBounds_toArray, List.set_cons_zero, List.set_cons_succ, i64_w, i32_w]
      rfl
    refine one_ (i := 6) (N := some 40) #[true, true, true, true, true, true, true, false, false, false, false, false] rfl rfl (by kernel_rfl) (by decide) (fun K hK => ?_)
    refine goes_ Tryd.func41 (by kernel_rfl) rfl #[.string nm] (by rfl) rfl rfl (by (try simp only [List.map_toArray, List.map_cons, List.map_nil]); first | done | rfl) ?_
    with_reducible refine (lines_lower.calls nm _ _ HL.out).mono ?_
    rintro e w4 ⟨rfl, hb4⟩
    refine ⟨_, rfl, ?_⟩
    have HH4 := Aside0.mk (Kd.H_below HH3.out hb4)
    have HR04 := Aside0.mk (Kd.R_below HR03.out hb4)
    have HR14 := Aside0.mk (Kd.R_below HR13.out hb4)
    have Hm4 := Aside0.mk (blk_below Hm3.out hb4)
    have HB4 := Aside0.mk (below_step HB3.out hb4)
    have hcA4 := (hb4.cell (World.block_lt_of_cell? _ _ hcA3)).trans hcA3
    have hfr4 : w4.frozen? ⟨g1, (gs.length - 1) * 3, none⟩ = false := (World.frozen?_of_block (w := w3) (hb4.block g1 (World.block_lt_of_cell? _ _ hcA3))).trans hfr3
    clear HH3 HR03 HR13 Hm3 HB3 hcA3 hfr3 hb4
    refine hK.out _ _ hcA4 (fun hHeld => ?_)
    clear hK K
    refine norm_ (a' := ?_) ?_ ?_
    rotate_left
    · show Act.put _ (some 40) _ = _
      simp only [Act.put, List.setIfInBounds_toArray, List.set_cons_zero, List.set_cons_succ, i64_w, i32_w]
      rfl
    refine one_ (i := 7) (N := some 41) #[true, true, true, true, true, true, true, true, false, false, false, false] rfl rfl (by kernel_rfl) (by decide) (fun K hK => ?_)
    refine value_ (w1 := ?_) (v := ?_) (by rfl) rfl ?_ ?_
    rotate_left 2
    · go_simp
      constructor
      · rfl
      · rfl
    refine hK.out _ _ ((World.cell?_alloc_lt _ _ _ (World.block_lt_of_cell? _ _ hcA4)).trans hcA4) (fun hHeld => ?_)
    clear hK K
    refine norm_ (a' := ?_) ?_ ?_
    rotate_left
    · show Act.put _ (some 41) _ = _
      simp only [Act.put, List.setIfInBounds_toArray, List.set_cons_zero, List.set_cons_succ, i64_w, i32_w]
      rfl
    refine one_ (i := 8) (N := some 42) #[true, true, true, true, true, true, true, true, true, false, false, false] rfl rfl (by kernel_rfl) (by decide) (fun K hK => ?_)
    refine Kd.R_append_step Kd.string (w0 := W0) W0.heap.size (by rfl) (.tmp 38) (.tmp 41) 49 9 (.string ⟨#[]⟩) 16 rfl Tryd.underlying49 info9 rfl (by decide) (by omega) e0 (gs.getD (gs.length - 1) z86).f0 ⟨(lowL nm.data.toList).toArray⟩ [.string ⟨(lowL nm.data.toList).toArray⟩] (fun k => oki k ∨ True ∧ w4.heap.size ≤ k) (fun _ => False) rfl rfl rfl (fun _ hk => hk.elim) (fun k hk => .inr ⟨trivial, hk⟩) (Kd.R_mono HR04.out (fun _ hk => .inl hk)) HB4.out HB4.out.size (by have := hl0'; simp only [lastG] at this; omega) ?_
    intro v1 w5 ho hb5 hg hat
    have hgne : some g1 ≠ e0.ownBlock := fun e => hne g1 (HR04.out.1 g1 e.symm) rfl
    have HH5 := Aside0.mk (Kd.H_grown (Kd.H_widen HH4.out) hg (fun k hk => .inl (HR04.out.1 k hk)))
    have HR15 := Aside0.mk (Kd.R_mono (ok' := fun k => oki k ∨ True ∧ w4.heap.size ≤ k) (Kd.R_over' HR14.out (Kd.R_typed HR04.out) (by decide) hg) (fun _ hk => .inl hk))
    have Hm5 := Aside0.mk (blk_grown Hm4.out hg (Kd.R_ne HR04.out Hm4.out (by decide)))
    have hbk := hg.block g1 (World.block_lt_of_cell? _ _ hcA4) hgne
    have hcA5 : w5.cell? ⟨g1, (gs.length - 1) * 3, none⟩ = some e0 := (World.cell?_of_block (w := w4) hbk).trans hcA4
    have hfr5 : w5.frozen? ⟨g1, (gs.length - 1) * 3, none⟩ = false := (World.frozen?_of_block (w := w4) hbk).trans hfr4
    have hlt4 : Hid (g1 < w4.heap.size) := World.block_lt_of_cell? _ _ hcA4
    have ho5 := Aside0.mk ho
    have hone := (Kd.R_val ho).2
    have hv1 : ∃ A n c, v1 = .slice A n c := by obtain ⟨A, c, e⟩ := Kd.R_slice ho; exact ⟨A, _, c, e⟩
    refine hK.out _ _ hcA5 (fun hHeld => ?_)
    clear hK K
    refine norm_ (a' := ?_) ?_ ?_
    rotate_left
    · show Act.put _ (some 42) _ = _
      simp only [Act.put, List.setIfInBounds_toArray, List.set_cons_zero, List.set_cons_succ, i64_w, i32_w]
      rfl
    clear HH4 HR04 HR14 Hm4 HB4 hcA4 hfr4 hgne hg hat hbk ho
    obtain ⟨A1, N1, c1, rfl⟩ := hv1
    refine pure_ (i := 9) (N := some 43) (v := ?_) (a' := ?_) #[true, true, true, true, true, true, true, true, true, true, false, false] rfl rfl (by kernel_rfl) (fun _ _ _ h => h) (Or.inl ⟨by rfl, ?_⟩) ?_ ?_
    rotate_left
    · intro w'
      go_simp
      with_reducible rfl
    rotate_left
    · simp only [Act.put, List.setIfInBounds_toArray, List.set_cons_zero, List.set_cons_succ, i64_w, i32_w]
      rfl
    refine pure_ (i := 10) (N := some 44) (v := ?_) (a' := ?_) #[true, true, true, true, true, true, true, true, true, true, true, false] rfl rfl (by kernel_rfl) (fun _ _ _ h => h) (Or.inl ⟨by rfl, ?_⟩) ?_ ?_
    rotate_left
    · intro w'
      go_simp
      with_reducible rfl
    rotate_left
    · simp only [Act.put, List.setIfInBounds_toArray, List.set_cons_zero, List.set_cons_succ, i64_w, i32_w]
      rfl
    refine last_ (i := 11) (N := none) #[true, true, true, true, true, true, true, true, true, true, true, true] rfl rfl (by kernel_rfl) (by decide) (fun K hK => ?_)
    refine skip_ (w1 := ?_) (by rfl) rfl ?_ ?_
    rotate_left
    · go_simp
      rfl
    refine hK.out _ _ ?_
    clear hK K
    refine done_ (by kernel_rfl) ?_
    go_wp2
    go_end0
    have hput := last_put86 HH5.out hgs 0 (by omega) _ hone { lastG gs with f0 := (lastG gs).f0 ++ [⟨(lowL nm.data.toList).toArray⟩] } (k86_mkM _ _ _ _ ho5.out HR15.out) (fun k hk => hk.elim (hne k) (fun h e => by have := hlt4.out; have := h.2; omega))
    rw [hfin]
    rw [Nat.add_zero] at hput
    exact ⟨rfl, _, ⟨blk_far Hm5.out (Ne.symm hg1m) _, hB, hput.1, hb5.setCell (hB1) _⟩⟩

set_option maxHeartbeats 8000000 in
set_option maxRecDepth 1000000 in
theorem add_calls (W0 w : World) (m : Nat) (gs : List S86) (op : Bool) (v : Value) (l : S35) (h : Mk W0 m gs op v w) (hn : l.f1.size < 4294967281) (hl : gs.length < 1000000) (hS_ : Shp W0) :
    Calls Tryd.prog 32 #[.pointer (some ⟨m, 0, none⟩), .agg #[.string l.f0, .string l.f1]] w fun e w' => e = .returned (.tuple #[]) ∧ Mk W0 m (addG gs op l).1 (addG gs op l).2 v w' := by
  obtain ⟨kk, vv⟩ := l
  have hB := h.base
  have HSH := Aside0.mk hS_
  clear hS_
  have HM0 := Aside0.mk h
  by_cases hgs0 : gs = []
  · subst hgs0
    obtain ⟨A, c, rfl⟩ := h.len
    simp only [List.length_nil] at *
    clear h
    go_enter Tryd.func32, Tryd.ntmps32
    go_wp2_with (first | ((with_reducible refine gate_dst (N := 3) rfl ?_); refine box_event ?hg (N := 3) ?hd (cs := #[.string kk, .string vv]) (t := 35) ?hr ?_; (case hd => rfl); (case hg => rfl); (case hr => first | (go_simp; done) | (go_simp; rfl)); intro b3 hb3 w1 hbox hb; have HMK := Aside0.mk (HM0.out.step hb); have hc0 := blk_cell HMK.out.box 0; have hc1 := blk_cell HMK.out.box 1; have hf0 := blk_frozen HMK.out.box 0; have hf1 := blk_frozen HMK.out.box 1; simp only [List.getElem?_toArray, List.getElem?_cons_zero, List.getElem?_cons_succ] at hc0 hc1; have hk0 := blk_cell hbox 0; have hk1 := blk_cell hbox 1; simp only [List.getElem?_toArray, List.getElem?_cons_zero, List.getElem?_cons_succ] at hk0 hk1; have Hk := Aside0.mk hbox; clear hbox hb))
    refine bodyPost_ret (results_none rfl _ _ _) rfl ?_
    exact ⟨rfl, by simpa [addG] using HMK.out⟩
  have hgs : 0 < gs.length := List.length_pos_iff.mpr hgs0
  obtain ⟨g1, cap1, rfl, hg1, hg1l, hg1m⟩ := h.form hgs
  have hbm : w.heap.size ≠ m := by have := blk_lt h.box; omega
  have hbg : w.heap.size ≠ g1 := by omega
  clear h
  have hw1 : wrap64 ((gs.length : Int) - 1) = ((gs.length - 1 : Nat) : Int) := by simp only [wrap64]; omega
  have hw2 : IntKind.i64.wrap ((gs.length : Int) - 1) = ((gs.length - 1 : Nat) : Int) := by rw [i64_w]; exact hw1
  have hlt1 : (((gs.length - 1 : Nat) : Int) < (gs.length : Int)) = True := eq_true (by omega)
  have hadd : (⟨g1, 0, none⟩ : Addr).add ((gs.length - 1) * 3) = ⟨g1, (gs.length - 1) * 3, none⟩ := by unfold Addr.add; split <;> simp_all
  have hn0 : ((gs.length : Int) == 0) = false := by simp; exact hgs0
  go_enter Tryd.func32, Tryd.ntmps32
  go_upto_region 2 with (first | ((with_reducible refine gate_dst (N := 3) rfl ?_); refine box_event ?hg (N := 3) ?hd (cs := #[.string kk, .string vv]) (t := 35) ?hr ?_; (case hd => rfl); (case hg => rfl); (case hr => first | (go_simp; done) | (go_simp; rfl)); intro b3 hb3 w1 hbox hb; have HMK := Aside0.mk (HM0.out.step hb); have hc0 := blk_cell HMK.out.box 0; have hc1 := blk_cell HMK.out.box 1; have hf0 := blk_frozen HMK.out.box 0; have hf1 := blk_frozen HMK.out.box 1; simp only [List.getElem?_toArray, List.getElem?_cons_zero, List.getElem?_cons_succ] at hc0 hc1; have hk0 := blk_cell hbox 0; have hk1 := blk_cell hbox 1; simp only [List.getElem?_toArray, List.getElem?_cons_zero, List.getElem?_cons_succ] at hk0 hk1; have Hk := Aside0.mk hbox; clear hbox hb))
  go_wp2
  go_region
  have HMK2 : Aside0 (Mk W0 m gs op (.slice (some ⟨g1, 0, none⟩) gs.length cap1) w1.drew) := ⟨HMK.out.step (below_drew1 (Below.refl _ _))⟩
  have Hk2 : Aside0 (w1.drew.heap[w.heap.size]? = some (.cells #[.string kk, .string vv] 35 (0, 0))) := ⟨by rw [← hb3]; exact Hk.out⟩
  generalize w1.drew = w2 at HMK2 Hk2 ⊢
  clear hc0 hc1 hf0 hf1 hk0 hk1 HMK Hk
  have hc0 := blk_cell HMK2.out.box 0
  have hc1 := blk_cell HMK2.out.box 1
  have hf0 := blk_frozen HMK2.out.box 0
  have hf1 := blk_frozen HMK2.out.box 1
  have hk0 := blk_cell Hk2.out 0
  have hk1 := blk_cell Hk2.out 1
  simp only [List.getElem?_toArray, List.getElem?_cons_zero, List.getElem?_cons_succ] at hc0 hc1 hk0 hk1
  clear hb3
  try clear b3
  by_cases hA : (kk.toList == sAllow) = true ∨ (kk.toList == sDis) = true
  · have hAD : ∃ isA : Bool, (kk.toList == sAllow) = isA ∧ ((kk.toList == [97, 108, 108, 111, 119]) = true ∧ isA = true ∨ (kk.toList == [97, 108, 108, 111, 119]) = false ∧ (kk.toList == [100, 105, 115, 97, 108, 108, 111, 119]) = true ∧ isA = false) := by
      cases h1 : (kk.toList == sAllow) with
      | true => exact ⟨true, rfl, .inl ⟨h1, rfl⟩⟩
      | false => exact ⟨false, rfl, .inr ⟨h1, by rcases hA with h | h; rw [h1] at h; cases h; exact h, rfl⟩⟩
    obtain ⟨isA, hisA, hAD⟩ := hAD
    rcases hAD with ⟨hk, rfl⟩ | ⟨hk, hk', rfl⟩
    · have hfin1 : ∀ x, (if vv.toList.isEmpty = false ∧ (lastG gs).f1.length < 64 then setG gs { lastG gs with f1 := (lastG gs).f1 ++ [⟨kk.toList == sAllow, vv⟩] } else gs) = x → addG gs op ⟨kk, vv⟩ = (x, false) := by intro x hx; simp only [addG]; rw [if_neg hgs0, if_pos hA, hx]
      rw [hisA] at hfin1
      clear hA hisA
      go_upto_region 7 with (fail)
      have HM3 := Aside0.mk (HMK2.out.shut false)
      have Hk3 := Aside0.mk (blk_far Hk2.out (p := ⟨m, 1, none⟩) hbm (.bool false))
      generalize (w2.setCell ⟨m, 1, none⟩ (.bool false)) = w3 at HM3 Hk3 ⊢
      clear hc0 hc1 hf0 hf1 hk0 hk1 HMK2 Hk2
      have hk0 := blk_cell Hk3.out 0
      have hk1 := blk_cell Hk3.out 1
      simp only [List.getElem?_toArray, List.getElem?_cons_zero, List.getElem?_cons_succ] at hk0 hk1
      obtain ⟨oki, e0, e1, R0, R1, hcA, hcB, hcC, hfr, hne, hH⟩ := last_open86 HM3.out.row hgs
      obtain ⟨A1, c1, he1⟩ := Kd.R_slice R1
      obtain ⟨N1, hN1⟩ : ∃ N, N = (gs.getD (gs.length - 1) z86).f1.length := ⟨_, rfl⟩
      rw [← hN1] at he1
      subst he1
      replace hN1 : Hid (N1 = (gs.getD (gs.length - 1) z86).f1.length) := hN1
      by_cases hv : vv.toList.isEmpty = false ∧ N1 < 64
      · obtain ⟨hv1, hv2⟩ := hv
        have hfin := hfin1 _ (if_pos ⟨hv1, by have := hN1.out; show (gs.getD (gs.length - 1) z86).f1.length < 64; omega⟩)
        have hv3 : ((N1 : Int) < 64) = True := eq_true (by omega)
        have hv4 : (vv.toList = []) = False := eq_false (by intro e; rw [e] at hv1; cases hv1)
        have HH := Aside0.mk hH
        have HR0 := Aside0.mk R0
        have HR1 := Aside0.mk R1
        have hB2 := HM3.out.below
        have hcB0 := hcB
        have hfr1 := hfr 1
        clear hH R0 R1 hcA hcC hfr hfin1
        go_wp2
        have HH3 := Aside0.mk (Kd.H_drew HH.out)
        have HR03 := Aside0.mk (Kd.R_drew HR0.out)
        have HR13 := Aside0.mk (Kd.R_drew HR1.out)
        have HM4 := Aside0.mk (HM3.out.step (below_drew1 (Below.refl _ _)))
        have hcB3 : w3.drew.cell? ⟨g1, (gs.length - 1) * 3 + 1, none⟩ = some (.slice A1 N1 c1) := hcB
        have hfr3 : w3.drew.frozen? ⟨g1, (gs.length - 1) * 3 + 1, none⟩ = false := hfr1
        have hk03 : w3.drew.cell? ⟨w.heap.size, 0, none⟩ = some (.string kk) := hk0
        have hk13 : w3.drew.cell? ⟨w.heap.size, 1, none⟩ = some (.string vv) := hk1
        have Hk4 : Aside0 (w3.drew.heap[w.heap.size]? = some (.cells #[.string kk, .string vv] 35 (0, 0))) := ⟨Hk3.out⟩
        refine start_ (n := 16) (S := fun w' => w'.cell? ⟨g1, (gs.length - 1) * 3 + 1, none⟩ = some (.slice A1 N1 c1) ∧ w'.cell? ⟨w.heap.size, 0, none⟩ = some (.string kk) ∧ w'.cell? ⟨w.heap.size, 1, none⟩ = some (.string vv)) (ds := [15]) #[false, false, false, false, false, false, false, false, false, false, false, false, false, false, false, false] (by kernel_rfl) rfl rfl ⟨hcB3, hk03, hk13⟩ (fun hHeld => ?_)
        generalize w3.drew = w4 at HH3 HR03 HR13 HM4 Hk4 hcB3 hfr3 hk03 hk13 hHeld ⊢
        clear HH HR0 HR1 hcB hcB0 hfr1 hk0 hk1 HM3 Hk3
        refine pure_ (i := 0) (N := some 43) (v := ?_) (a' := ?_) #[true, false, false, false, false, false, false, false, false, false, false, false, false, false, false, false] rfl rfl (by kernel_rfl) (fun _ _ _ h => h) (Or.inl ⟨by rfl, ?_⟩) ?_ ?_
        rotate_left
        · intro w'
          go_simp
          with_reducible rfl
        rotate_left
        · simp only [Act.put, List.setIfInBounds_toArray, List.set_cons_zero, List.set_cons_succ, i64_w, i32_w]
          rfl
        refine pure_ (i := 1) (N := some 44) (v := ?_) (a' := ?_) #[true, true, false, false, false, false, false, false, false, false, false, false, false, false, false, false] rfl rfl (by kernel_rfl) (fun _ _ _ h => h) (Or.inl ⟨by rfl, ?_⟩) ?_ ?_
        rotate_left
        · intro w'
          go_simp
          with_reducible rfl
        rotate_left
        · simp only [Act.put, List.setIfInBounds_toArray, List.set_cons_zero, List.set_cons_succ, i64_w, i32_w]
          rfl
        refine pure_ (i := 2) (N := some 45) (v := ?_) (a' := ?_) #[true, true, true, false, false, false, false, false, false, false, false, false, false, false, false, false] rfl rfl (by kernel_rfl) (fun _ _ _ h => h) (Or.inl ⟨by rfl, ?_⟩) ?_ ?_
        rotate_left
        · intro w'
          go_simp
          with_reducible rfl
        rotate_left
        · simp only [Act.put, List.setIfInBounds_toArray, List.set_cons_zero, List.set_cons_succ, i64_w, i32_w]
          rfl
        refine pure_ (i := 3) (N := some 46) (v := ?_) (a' := ?_) #[true, true, true, true, false, false, false, false, false, false, false, false, false, false, false, false] rfl rfl (by kernel_rfl) (fun _ _ _ h => h) (Or.inl ⟨by rfl, ?_⟩) ?_ ?_
        rotate_left
        · intro w'
          go_simp
          with_reducible rfl
        rotate_left
        · simp only [Act.put, List.setIfInBounds_toArray, List.set_cons_zero, List.set_cons_succ, i64_w, i32_w]
          rfl
        refine pure_ (i := 5) (N := some 48) (v := ?_) (a' := ?_) #[true, true, true, true, false, true, false, false, false, false, false, false, false, false, false, false] rfl rfl (by kernel_rfl) (fun _ _ _ h => h) (Or.inl ⟨by rfl, ?_⟩) ?_ ?_
        rotate_left
        · intro w'
          go_simp
          with_reducible rfl
        rotate_left
        · simp only [Act.put, List.setIfInBounds_toArray, List.set_cons_zero, List.set_cons_succ, i64_w, i32_w]
          rfl
        refine pure_ (i := 8) (N := some 51) (v := ?_) (a' := ?_) #[true, true, true, true, false, true, false, false, true, false, false, false, false, false, false, false] rfl rfl (by kernel_rfl) (fun _ _ _ h => h) (Or.inl ⟨by rfl, ?_⟩) ?_ ?_
        rotate_left
        · intro w'
          go_simp
          with_reducible rfl
        rotate_left
        · simp only [Act.put, List.setIfInBounds_toArray, List.set_cons_zero, List.set_cons_succ, i64_w, i32_w]
          rfl
        refine take_ (i := 4) (N := some 47) (v := ?_) (a' := ?_) #[true, true, true, true, true, true, false, false, true, false, false, false, false, false, false, false] rfl rfl (by kernel_rfl) (fun _ _ _ h => h) (Or.inl ⟨by rfl, ?_⟩) hHeld ?_ ?_
        rotate_left
        · rintro w' ⟨s0, s1, s2⟩
          go_simp
          with_reducible rfl
        rotate_left
        · simp only [Act.put, List.setIfInBounds_toArray, List.set_cons_zero, List.set_cons_succ, i64_w, i32_w]
          rfl
        refine take_ (i := 6) (N := some 49) (v := ?_) (a' := ?_) #[true, true, true, true, true, true, true, false, true, false, false, false, false, false, false, false] rfl rfl (by kernel_rfl) (fun _ _ _ h => h) (Or.inl ⟨by rfl, ?_⟩) hHeld ?_ ?_
        rotate_left
        · rintro w' ⟨s0, s1, s2⟩
          go_simp
          with_reducible rfl
        rotate_left
        · simp only [Act.put, List.setIfInBounds_toArray, List.set_cons_zero, List.set_cons_succ, i64_w, i32_w]
          rfl
        refine take_ (i := 9) (N := some 52) (v := ?_) (a' := ?_) #[true, true, true, true, true, true, true, false, true, true, false, false, false, false, false, false] rfl rfl (by kernel_rfl) (fun _ _ _ h => h) (Or.inl ⟨by rfl, ?_⟩) hHeld ?_ ?_
        rotate_left
        · rintro w' ⟨s0, s1, s2⟩
          go_simp
          with_reducible rfl
        rotate_left
        · simp only [Act.put, List.setIfInBounds_toArray, List.set_cons_zero, List.set_cons_succ, i64_w, i32_w]
          rfl
        refine pure_ (i := 7) (N := some 50) (v := ?_) (a' := ?_) #[true, true, true, true, true, true, true, true, true, true, false, false, false, false, false, false] rfl rfl (by kernel_rfl) (fun _ _ _ h => h) (Or.inl ⟨by rfl, ?_⟩) ?_ ?_
        rotate_left
        · intro w'
          go_simp
          with_reducible rfl
        rotate_left
        · simp only [Act.put, List.setIfInBounds_toArray, List.set_cons_zero, List.set_cons_succ, i64_w, i32_w]
          rfl
        refine pure_ (i := 10) (N := some 53) (v := ?_) (a' := ?_) #[true, true, true, true, true, true, true, true, true, true, true, false, false, false, false, false] rfl rfl (by kernel_rfl) (fun _ _ _ h => h) (Or.inl ⟨by rfl, ?_⟩) ?_ ?_
        rotate_left
        · intro w'
          go_simp
          with_reducible rfl
        rotate_left
        · simp only [Act.put, List.setIfInBounds_toArray, List.set_cons_zero, List.set_cons_succ, i64_w, i32_w]
          rfl
        refine one_ (i := 11) (N := some 54) #[true, true, true, true, true, true, true, true, true, true, true, true, false, false, false, false] rfl rfl (by kernel_rfl) (by decide) (fun K hK => ?_)
        refine value_ (w1 := ?_) (v := ?_) (by rfl) rfl ?_ ?_
        rotate_left 2
        · go_simp
          constructor
          · rfl
          · rfl
        refine hK.out _ _ ⟨(World.cell?_alloc_lt _ _ _ (World.block_lt_of_cell? _ _ hcB3)).trans hcB3, (World.cell?_alloc_lt _ _ _ (World.block_lt_of_cell? _ _ hk03)).trans hk03, (World.cell?_alloc_lt _ _ _ (World.block_lt_of_cell? _ _ hk13)).trans hk13⟩ (fun hHeld => ?_)
        clear hK K
        refine norm_ (a' := ?_) ?_ ?_
        rotate_left
        · show Act.put _ (some 54) _ = _
          simp only [Act.put, List.setIfInBounds_toArray, List.set_cons_zero, List.set_cons_succ, i64_w, i32_w]
          rfl
        refine one_ (i := 12) (N := some 55) #[true, true, true, true, true, true, true, true, true, true, true, true, true, false, false, false] rfl rfl (by kernel_rfl) (by decide) (fun K hK => ?_)
        refine Kd.R_append_step k30 (w0 := W0) W0.heap.size (by rfl) (.tmp 47) (.tmp 54) 24 30 (.agg #[.bool false, .string ⟨#[]⟩]) 24 rfl Tryd.underlying24 info30 rfl (by decide) (by omega) (.slice A1 N1 c1) (gs.getD (gs.length - 1) z86).f1 ⟨true, vv⟩ [.bool true, .string vv] (fun k => oki k ∨ True ∧ w4.heap.size ≤ k) (fun _ => False) rfl rfl (k30_mkM _ _ _ _) (fun _ hk => hk.elim) (fun k hk => .inr ⟨trivial, hk⟩) (Kd.R_mono HR13.out (fun _ hk => .inl hk)) HM4.out.below HM4.out.below.size (by have := hN1.out; omega) ?_
        intro v1 w5 ho hb5 hg hat
        have hgne : some g1 ≠ (Value.slice A1 N1 c1).ownBlock := fun e => hne g1 (HR13.out.1 g1 e.symm) rfl
        have HH5 := Aside0.mk (Kd.H_grown (Kd.H_widen HH3.out) hg (fun k hk => .inl (HR13.out.1 k hk)))
        have HR05 := Aside0.mk (Kd.R_mono (ok' := fun k => oki k ∨ True ∧ w4.heap.size ≤ k) (Kd.R_over' HR03.out (Kd.R_typed HR13.out) (by decide) hg) (fun _ hk => .inl hk))
        have Hm5 := Aside0.mk (blk_grown HM4.out.box hg (Kd.R_ne HR13.out HM4.out.box (by decide)))
        have hbk := hg.block g1 (World.block_lt_of_cell? _ _ hcB3) hgne
        have hbk3 := hg.block w.heap.size (World.block_lt_of_cell? _ _ hk03) (Kd.R_ne HR13.out Hk4.out (by decide))
        have hcB5 : w5.cell? ⟨g1, (gs.length - 1) * 3 + 1, none⟩ = some (.slice A1 N1 c1) := (World.cell?_of_block (w := w4) hbk).trans hcB3
        have hfr5 : w5.frozen? ⟨g1, (gs.length - 1) * 3 + 1, none⟩ = false := (World.frozen?_of_block (w := w4) hbk).trans hfr3
        have hk05 : w5.cell? ⟨w.heap.size, 0, none⟩ = some (.string kk) := (World.cell?_of_block (w := w4) hbk3).trans hk03
        have hk15 : w5.cell? ⟨w.heap.size, 1, none⟩ = some (.string vv) := (World.cell?_of_block (w := w4) hbk3).trans hk13
        have hlt4 : Hid (g1 < w4.heap.size) := World.block_lt_of_cell? _ _ hcB3
        have ho5 := Aside0.mk ho
        have hone := (Kd.R_val ho).2
        have hv1 : ∃ A n c, v1 = .slice A n c := by obtain ⟨A, c, e⟩ := Kd.R_slice ho; exact ⟨A, _, c, e⟩
        refine hK.out _ _ ⟨hcB5, hk05, hk15⟩ (fun hHeld => ?_)
        clear hK K
        refine norm_ (a' := ?_) ?_ ?_
        rotate_left
        · show Act.put _ (some 55) _ = _
          simp only [Act.put, List.setIfInBounds_toArray, List.set_cons_zero, List.set_cons_succ, i64_w, i32_w]
          rfl
        clear HH3 HR03 HR13 HM4 hcB3 hfr3 hgne hg hat hbk hbk3 ho hk03 hk13
        obtain ⟨A2, N2, c2, rfl⟩ := hv1
        refine pure_ (i := 13) (N := some 56) (v := ?_) (a' := ?_) #[true, true, true, true, true, true, true, true, true, true, true, true, true, true, false, false] rfl rfl (by kernel_rfl) (fun _ _ _ h => h) (Or.inl ⟨by rfl, ?_⟩) ?_ ?_
        rotate_left
        · intro w'
          go_simp
          with_reducible rfl
        rotate_left
        · simp only [Act.put, List.setIfInBounds_toArray, List.set_cons_zero, List.set_cons_succ, i64_w, i32_w]
          rfl
        refine pure_ (i := 14) (N := some 57) (v := ?_) (a' := ?_) #[true, true, true, true, true, true, true, true, true, true, true, true, true, true, true, false] rfl rfl (by kernel_rfl) (fun _ _ _ h => h) (Or.inl ⟨by rfl, ?_⟩) ?_ ?_
        rotate_left
        · intro w'
          go_simp
          with_reducible rfl
        rotate_left
        · simp only [Act.put, List.setIfInBounds_toArray, List.set_cons_zero, List.set_cons_succ, i64_w, i32_w]
          rfl
        refine last_ (i := 15) (N := none) #[true, true, true, true, true, true, true, true, true, true, true, true, true, true, true, true] rfl rfl (by kernel_rfl) (by decide) (fun K hK => ?_)
        refine skip_ (w1 := ?_) (by rfl) rfl ?_ ?_
        rotate_left
        · go_simp
          rfl
        refine hK.out _ _ ?_
        clear hK K
        refine done_ (by kernel_rfl) ?_
        go_wp2
        go_end0
        have hput := last_put86 HH5.out hgs 1 (by omega) _ hone { lastG gs with f1 := (lastG gs).f1 ++ [⟨true, vv⟩] } (k86_mkM _ _ _ ({ lastG gs with f1 := (lastG gs).f1 ++ [⟨true, vv⟩] } : S86) HR05.out ho5.out) (fun k hk => hk.elim (hne k) (fun h e => by have := hlt4.out; have := h.2; omega))
        rw [hfin]
        exact ⟨rfl, ⟨blk_far Hm5.out (Ne.symm hg1m) _, hB, hput.1, hb5.setCell hg1 _⟩⟩
      · have hfin := hfin1 _ (if_neg (fun hh => hv ⟨hh.1, by have h2 : (gs.getD (gs.length - 1) z86).f1.length < 64 := hh.2; have := hN1.out; omega⟩))
        have key : vv.toList.isEmpty = true ∨ (vv.toList.isEmpty = false ∧ ((N1 : Int) < 64) = False) := by cases h : vv.toList.isEmpty; exact .inr ⟨rfl, eq_false (fun h2 => hv ⟨h, by omega⟩)⟩; exact .inl rfl
        clear hH R0 R1 hcA hcC hfr hfin1 hv
        rcases key with hv1 | ⟨hv1, hv3⟩
        · have hv4 : (vv.toList = []) = True := eq_true (by simpa using hv1)
          go_wp2
          go_end0
          rw [hfin]
          exact ⟨rfl, HM3.out⟩
        · have hv4 : (vv.toList = []) = False := eq_false (by intro e; rw [e] at hv1; cases hv1)
          go_wp2
          go_end0
          rw [hfin]
          exact ⟨rfl, HM3.out⟩
    · have hfin1 : ∀ x, (if vv.toList.isEmpty = false ∧ (lastG gs).f1.length < 64 then setG gs { lastG gs with f1 := (lastG gs).f1 ++ [⟨kk.toList == sAllow, vv⟩] } else gs) = x → addG gs op ⟨kk, vv⟩ = (x, false) := by intro x hx; simp only [addG]; rw [if_neg hgs0, if_pos hA, hx]
      rw [hisA] at hfin1
      clear hA hisA
      go_upto_region 7 with (fail)
      have HM3 := Aside0.mk (HMK2.out.shut false)
      have Hk3 := Aside0.mk (blk_far Hk2.out (p := ⟨m, 1, none⟩) hbm (.bool false))
      generalize (w2.setCell ⟨m, 1, none⟩ (.bool false)) = w3 at HM3 Hk3 ⊢
      clear hc0 hc1 hf0 hf1 hk0 hk1 HMK2 Hk2
      have hk0 := blk_cell Hk3.out 0
      have hk1 := blk_cell Hk3.out 1
      simp only [List.getElem?_toArray, List.getElem?_cons_zero, List.getElem?_cons_succ] at hk0 hk1
      obtain ⟨oki, e0, e1, R0, R1, hcA, hcB, hcC, hfr, hne, hH⟩ := last_open86 HM3.out.row hgs
      obtain ⟨A1, c1, he1⟩ := Kd.R_slice R1
      obtain ⟨N1, hN1⟩ : ∃ N, N = (gs.getD (gs.length - 1) z86).f1.length := ⟨_, rfl⟩
      rw [← hN1] at he1
      subst he1
      replace hN1 : Hid (N1 = (gs.getD (gs.length - 1) z86).f1.length) := hN1
      by_cases hv : vv.toList.isEmpty = false ∧ N1 < 64
      · obtain ⟨hv1, hv2⟩ := hv
        have hfin := hfin1 _ (if_pos ⟨hv1, by have := hN1.out; show (gs.getD (gs.length - 1) z86).f1.length < 64; omega⟩)
        have hv3 : ((N1 : Int) < 64) = True := eq_true (by omega)
        have hv4 : (vv.toList = []) = False := eq_false (by intro e; rw [e] at hv1; cases hv1)
        have HH := Aside0.mk hH
        have HR0 := Aside0.mk R0
        have HR1 := Aside0.mk R1
        have hB2 := HM3.out.below
        have hcB0 := hcB
        have hfr1 := hfr 1
        clear hH R0 R1 hcA hcC hfr hfin1
        go_wp2
        have HH3 := Aside0.mk (Kd.H_drew HH.out)
        have HR03 := Aside0.mk (Kd.R_drew HR0.out)
        have HR13 := Aside0.mk (Kd.R_drew HR1.out)
        have HM4 := Aside0.mk (HM3.out.step (below_drew1 (Below.refl _ _)))
        have hcB3 : w3.drew.cell? ⟨g1, (gs.length - 1) * 3 + 1, none⟩ = some (.slice A1 N1 c1) := hcB
        have hfr3 : w3.drew.frozen? ⟨g1, (gs.length - 1) * 3 + 1, none⟩ = false := hfr1
        have hk03 : w3.drew.cell? ⟨w.heap.size, 0, none⟩ = some (.string kk) := hk0
        have hk13 : w3.drew.cell? ⟨w.heap.size, 1, none⟩ = some (.string vv) := hk1
        have Hk4 : Aside0 (w3.drew.heap[w.heap.size]? = some (.cells #[.string kk, .string vv] 35 (0, 0))) := ⟨Hk3.out⟩
        refine start_ (n := 16) (S := fun w' => w'.cell? ⟨g1, (gs.length - 1) * 3 + 1, none⟩ = some (.slice A1 N1 c1) ∧ w'.cell? ⟨w.heap.size, 0, none⟩ = some (.string kk) ∧ w'.cell? ⟨w.heap.size, 1, none⟩ = some (.string vv)) (ds := [15]) #[false, false, false, false, false, false, false, false, false, false, false, false, false, false, false, false] (by kernel_rfl) rfl rfl ⟨hcB3, hk03, hk13⟩ (fun hHeld => ?_)
        generalize w3.drew = w4 at HH3 HR03 HR13 HM4 Hk4 hcB3 hfr3 hk03 hk13 hHeld ⊢
        clear HH HR0 HR1 hcB hcB0 hfr1 hk0 hk1 HM3 Hk3
        refine pure_ (i := 0) (N := some 43) (v := ?_) (a' := ?_) #[true, false, false, false, false, false, false, false, false, false, false, false, false, false, false, false] rfl rfl (by kernel_rfl) (fun _ _ _ h => h) (Or.inl ⟨by rfl, ?_⟩) ?_ ?_
        rotate_left
        · intro w'
          go_simp
          with_reducible rfl
        rotate_left
        · simp only [Act.put, List.setIfInBounds_toArray, List.set_cons_zero, List.set_cons_succ, i64_w, i32_w]
          rfl
        refine pure_ (i := 1) (N := some 44) (v := ?_) (a' := ?_) #[true, true, false, false, false, false, false, false, false, false, false, false, false, false, false, false] rfl rfl (by kernel_rfl) (fun _ _ _ h => h) (Or.inl ⟨by rfl, ?_⟩) ?_ ?_
        rotate_left
        · intro w'
          go_simp
          with_reducible rfl
        rotate_left
        · simp only [Act.put, List.setIfInBounds_toArray, List.set_cons_zero, List.set_cons_succ, i64_w, i32_w]
          rfl
        refine pure_ (i := 2) (N := some 45) (v := ?_) (a' := ?_) #[true, true, true, false, false, false, false, false, false, false, false, false, false, false, false, false] rfl rfl (by kernel_rfl) (fun _ _ _ h => h) (Or.inl ⟨by rfl, ?_⟩) ?_ ?_
        rotate_left
        · intro w'
          go_simp
          with_reducible rfl
        rotate_left
        · simp only [Act.put, List.setIfInBounds_toArray, List.set_cons_zero, List.set_cons_succ, i64_w, i32_w]
          rfl
        refine pure_ (i := 3) (N := some 46) (v := ?_) (a' := ?_) #[true, true, true, true, false, false, false, false, false, false, false, false, false, false, false, false] rfl rfl (by kernel_rfl) (fun _ _ _ h => h) (Or.inl ⟨by rfl, ?_⟩) ?_ ?_
        rotate_left
        · intro w'
          go_simp
          with_reducible rfl
        rotate_left
        · simp only [Act.put, List.setIfInBounds_toArray, List.set_cons_zero, List.set_cons_succ, i64_w, i32_w]
          rfl
        refine pure_ (i := 5) (N := some 48) (v := ?_) (a' := ?_) #[true, true, true, true, false, true, false, false, false, false, false, false, false, false, false, false] rfl rfl (by kernel_rfl) (fun _ _ _ h => h) (Or.inl ⟨by rfl, ?_⟩) ?_ ?_
        rotate_left
        · intro w'
          go_simp
          with_reducible rfl
        rotate_left
        · simp only [Act.put, List.setIfInBounds_toArray, List.set_cons_zero, List.set_cons_succ, i64_w, i32_w]
          rfl
        refine pure_ (i := 8) (N := some 51) (v := ?_) (a' := ?_) #[true, true, true, true, false, true, false, false, true, false, false, false, false, false, false, false] rfl rfl (by kernel_rfl) (fun _ _ _ h => h) (Or.inl ⟨by rfl, ?_⟩) ?_ ?_
        rotate_left
        · intro w'
          go_simp
          with_reducible rfl
        rotate_left
        · simp only [Act.put, List.setIfInBounds_toArray, List.set_cons_zero, List.set_cons_succ, i64_w, i32_w]
          rfl
        refine take_ (i := 4) (N := some 47) (v := ?_) (a' := ?_) #[true, true, true, true, true, true, false, false, true, false, false, false, false, false, false, false] rfl rfl (by kernel_rfl) (fun _ _ _ h => h) (Or.inl ⟨by rfl, ?_⟩) hHeld ?_ ?_
        rotate_left
        · rintro w' ⟨s0, s1, s2⟩
          go_simp
          with_reducible rfl
        rotate_left
        · simp only [Act.put, List.setIfInBounds_toArray, List.set_cons_zero, List.set_cons_succ, i64_w, i32_w]
          rfl
        refine take_ (i := 6) (N := some 49) (v := ?_) (a' := ?_) #[true, true, true, true, true, true, true, false, true, false, false, false, false, false, false, false] rfl rfl (by kernel_rfl) (fun _ _ _ h => h) (Or.inl ⟨by rfl, ?_⟩) hHeld ?_ ?_
        rotate_left
        · rintro w' ⟨s0, s1, s2⟩
          go_simp
          with_reducible rfl
        rotate_left
        · simp only [Act.put, List.setIfInBounds_toArray, List.set_cons_zero, List.set_cons_succ, i64_w, i32_w]
          rfl
        refine take_ (i := 9) (N := some 52) (v := ?_) (a' := ?_) #[true, true, true, true, true, true, true, false, true, true, false, false, false, false, false, false] rfl rfl (by kernel_rfl) (fun _ _ _ h => h) (Or.inl ⟨by rfl, ?_⟩) hHeld ?_ ?_
        rotate_left
        · rintro w' ⟨s0, s1, s2⟩
          go_simp
          with_reducible rfl
        rotate_left
        · simp only [Act.put, List.setIfInBounds_toArray, List.set_cons_zero, List.set_cons_succ, i64_w, i32_w]
          rfl
        refine pure_ (i := 7) (N := some 50) (v := ?_) (a' := ?_) #[true, true, true, true, true, true, true, true, true, true, false, false, false, false, false, false] rfl rfl (by kernel_rfl) (fun _ _ _ h => h) (Or.inl ⟨by rfl, ?_⟩) ?_ ?_
        rotate_left
        · intro w'
          go_simp
          with_reducible rfl
        rotate_left
        · simp only [Act.put, List.setIfInBounds_toArray, List.set_cons_zero, List.set_cons_succ, i64_w, i32_w]
          rfl
        refine pure_ (i := 10) (N := some 53) (v := ?_) (a' := ?_) #[true, true, true, true, true, true, true, true, true, true, true, false, false, false, false, false] rfl rfl (by kernel_rfl) (fun _ _ _ h => h) (Or.inl ⟨by rfl, ?_⟩) ?_ ?_
        rotate_left
        · intro w'
          go_simp
          with_reducible rfl
        rotate_left
        · simp only [Act.put, List.setIfInBounds_toArray, List.set_cons_zero, List.set_cons_succ, i64_w, i32_w]
          rfl
        refine one_ (i := 11) (N := some 54) #[true, true, true, true, true, true, true, true, true, true, true, true, false, false, false, false] rfl rfl (by kernel_rfl) (by decide) (fun K hK => ?_)
        refine value_ (w1 := ?_) (v := ?_) (by rfl) rfl ?_ ?_
        rotate_left 2
        · go_simp
          constructor
          · rfl
          · rfl
        refine hK.out _ _ ⟨(World.cell?_alloc_lt _ _ _ (World.block_lt_of_cell? _ _ hcB3)).trans hcB3, (World.cell?_alloc_lt _ _ _ (World.block_lt_of_cell? _ _ hk03)).trans hk03, (World.cell?_alloc_lt _ _ _ (World.block_lt_of_cell? _ _ hk13)).trans hk13⟩ (fun hHeld => ?_)
        clear hK K
        refine norm_ (a' := ?_) ?_ ?_
        rotate_left
        · show Act.put _ (some 54) _ = _
          simp only [Act.put, List.setIfInBounds_toArray, List.set_cons_zero, List.set_cons_succ, i64_w, i32_w]
          rfl
        refine one_ (i := 12) (N := some 55) #[true, true, true, true, true, true, true, true, true, true, true, true, true, false, false, false] rfl rfl (by kernel_rfl) (by decide) (fun K hK => ?_)
        refine Kd.R_append_step k30 (w0 := W0) W0.heap.size (by rfl) (.tmp 47) (.tmp 54) 24 30 (.agg #[.bool false, .string ⟨#[]⟩]) 24 rfl Tryd.underlying24 info30 rfl (by decide) (by omega) (.slice A1 N1 c1) (gs.getD (gs.length - 1) z86).f1 ⟨false, vv⟩ [.bool false, .string vv] (fun k => oki k ∨ True ∧ w4.heap.size ≤ k) (fun _ => False) rfl rfl (k30_mkM _ _ _ _) (fun _ hk => hk.elim) (fun k hk => .inr ⟨trivial, hk⟩) (Kd.R_mono HR13.out (fun _ hk => .inl hk)) HM4.out.below HM4.out.below.size (by have := hN1.out; omega) ?_
        intro v1 w5 ho hb5 hg hat
        have hgne : some g1 ≠ (Value.slice A1 N1 c1).ownBlock := fun e => hne g1 (HR13.out.1 g1 e.symm) rfl
        have HH5 := Aside0.mk (Kd.H_grown (Kd.H_widen HH3.out) hg (fun k hk => .inl (HR13.out.1 k hk)))
        have HR05 := Aside0.mk (Kd.R_mono (ok' := fun k => oki k ∨ True ∧ w4.heap.size ≤ k) (Kd.R_over' HR03.out (Kd.R_typed HR13.out) (by decide) hg) (fun _ hk => .inl hk))
        have Hm5 := Aside0.mk (blk_grown HM4.out.box hg (Kd.R_ne HR13.out HM4.out.box (by decide)))
        have hbk := hg.block g1 (World.block_lt_of_cell? _ _ hcB3) hgne
        have hbk3 := hg.block w.heap.size (World.block_lt_of_cell? _ _ hk03) (Kd.R_ne HR13.out Hk4.out (by decide))
        have hcB5 : w5.cell? ⟨g1, (gs.length - 1) * 3 + 1, none⟩ = some (.slice A1 N1 c1) := (World.cell?_of_block (w := w4) hbk).trans hcB3
        have hfr5 : w5.frozen? ⟨g1, (gs.length - 1) * 3 + 1, none⟩ = false := (World.frozen?_of_block (w := w4) hbk).trans hfr3
        have hk05 : w5.cell? ⟨w.heap.size, 0, none⟩ = some (.string kk) := (World.cell?_of_block (w := w4) hbk3).trans hk03
        have hk15 : w5.cell? ⟨w.heap.size, 1, none⟩ = some (.string vv) := (World.cell?_of_block (w := w4) hbk3).trans hk13
        have hlt4 : Hid (g1 < w4.heap.size) := World.block_lt_of_cell? _ _ hcB3
        have ho5 := Aside0.mk ho
        have hone := (Kd.R_val ho).2
        have hv1 : ∃ A n c, v1 = .slice A n c := by obtain ⟨A, c, e⟩ := Kd.R_slice ho; exact ⟨A, _, c, e⟩
        refine hK.out _ _ ⟨hcB5, hk05, hk15⟩ (fun hHeld => ?_)
        clear hK K
        refine norm_ (a' := ?_) ?_ ?_
        rotate_left
        · show Act.put _ (some 55) _ = _
          simp only [Act.put, List.setIfInBounds_toArray, List.set_cons_zero, List.set_cons_succ, i64_w, i32_w]
          rfl
        clear HH3 HR03 HR13 HM4 hcB3 hfr3 hgne hg hat hbk hbk3 ho hk03 hk13
        obtain ⟨A2, N2, c2, rfl⟩ := hv1
        refine pure_ (i := 13) (N := some 56) (v := ?_) (a' := ?_) #[true, true, true, true, true, true, true, true, true, true, true, true, true, true, false, false] rfl rfl (by kernel_rfl) (fun _ _ _ h => h) (Or.inl ⟨by rfl, ?_⟩) ?_ ?_
        rotate_left
        · intro w'
          go_simp
          with_reducible rfl
        rotate_left
        · simp only [Act.put, List.setIfInBounds_toArray, List.set_cons_zero, List.set_cons_succ, i64_w, i32_w]
          rfl
        refine pure_ (i := 14) (N := some 57) (v := ?_) (a' := ?_) #[true, true, true, true, true, true, true, true, true, true, true, true, true, true, true, false] rfl rfl (by kernel_rfl) (fun _ _ _ h => h) (Or.inl ⟨by rfl, ?_⟩) ?_ ?_
        rotate_left
        · intro w'
          go_simp
          with_reducible rfl
        rotate_left
        · simp only [Act.put, List.setIfInBounds_toArray, List.set_cons_zero, List.set_cons_succ, i64_w, i32_w]
          rfl
        refine last_ (i := 15) (N := none) #[true, true, true, true, true, true, true, true, true, true, true, true, true, true, true, true] rfl rfl (by kernel_rfl) (by decide) (fun K hK => ?_)
        refine skip_ (w1 := ?_) (by rfl) rfl ?_ ?_
        rotate_left
        · go_simp
          rfl
        refine hK.out _ _ ?_
        clear hK K
        refine done_ (by kernel_rfl) ?_
        go_wp2
        go_end0
        have hput := last_put86 HH5.out hgs 1 (by omega) _ hone { lastG gs with f1 := (lastG gs).f1 ++ [⟨false, vv⟩] } (k86_mkM _ _ _ ({ lastG gs with f1 := (lastG gs).f1 ++ [⟨false, vv⟩] } : S86) HR05.out ho5.out) (fun k hk => hk.elim (hne k) (fun h e => by have := hlt4.out; have := h.2; omega))
        rw [hfin]
        exact ⟨rfl, ⟨blk_far Hm5.out (Ne.symm hg1m) _, hB, hput.1, hb5.setCell hg1 _⟩⟩
      · have hfin := hfin1 _ (if_neg (fun hh => hv ⟨hh.1, by have h2 : (gs.getD (gs.length - 1) z86).f1.length < 64 := hh.2; have := hN1.out; omega⟩))
        have key : vv.toList.isEmpty = true ∨ (vv.toList.isEmpty = false ∧ ((N1 : Int) < 64) = False) := by cases h : vv.toList.isEmpty; exact .inr ⟨rfl, eq_false (fun h2 => hv ⟨h, by omega⟩)⟩; exact .inl rfl
        clear hH R0 R1 hcA hcC hfr hfin1 hv
        rcases key with hv1 | ⟨hv1, hv3⟩
        · have hv4 : (vv.toList = []) = True := eq_true (by simpa using hv1)
          go_wp2
          go_end0
          rw [hfin]
          exact ⟨rfl, HM3.out⟩
        · have hv4 : (vv.toList = []) = False := eq_false (by intro e; rw [e] at hv1; cases hv1)
          go_wp2
          go_end0
          rw [hfin]
          exact ⟨rfl, HM3.out⟩
  by_cases hC : (kk.toList == sDelay) = true
  · have e1 : (kk.toList == [97, 108, 108, 111, 119]) = false := by cases h : (kk.toList == [97, 108, 108, 111, 119]); rfl; exact absurd (.inl h) hA
    have e2 : (kk.toList == [100, 105, 115, 97, 108, 108, 111, 119]) = false := by cases h : (kk.toList == [100, 105, 115, 97, 108, 108, 111, 119]); rfl; exact absurd (.inr h) hA
    have e3 : (kk.toList == [99, 114, 97, 119, 108, 45, 100, 101, 108, 97, 121]) = true := hC
    have hfin1 : ∀ x, (if (delayV vv.data.toList).2 = true then setG gs { lastG gs with f2 := max (lastG gs).f2 ((delayV vv.data.toList).1 : Int) } else gs) = x → addG gs op ⟨kk, vv⟩ = (x, false) := by intro x hx; simp only [addG]; rw [if_neg hgs0, if_neg hA, if_pos hC, hx]
    clear hA hC
    go_upto_region 11 with (fail)
    have HM3 := Aside0.mk (HMK2.out.shut false)
    have Hk3 := Aside0.mk (blk_far Hk2.out (p := ⟨m, 1, none⟩) hbm (.bool false))
    generalize (w2.setCell ⟨m, 1, none⟩ (.bool false)) = w3 at HM3 Hk3 ⊢
    clear hc0 hc1 hf0 hf1 hk0 hk1 HMK2 Hk2
    have hk1 := blk_cell Hk3.out 1
    simp only [List.getElem?_toArray, List.getElem?_cons_zero, List.getElem?_cons_succ] at hk1
    have HSh := Aside0.mk (Shp.below HSH.out HM3.out.below)
    have HD := Aside0.mk (show lines_Delay.f vv = some (((delayV vv.data.toList).1 : Int), (delayV vv.data.toList).2) by rw [lines_Delay.f, if_pos hn])
    cases hok : (delayV vv.data.toList).2 with
    | true =>
      rw [hok] at HD hfin1
      have hfin := hfin1 _ (if_pos rfl)
      clear hfin1 hok
      generalize (delayV vv.data.toList).1 = n at HD hfin
      go_upto_region 13 with (first | ((with_reducible refine gate_callee (f := 47) rfl ?_); refine goesL_ (some 66) rfl rfl Tryd.func47 (by kernel_rfl) rfl #[.string vv] rfl (by (try simp only [List.map_toArray, List.map_cons, List.map_nil]); first | done | rfl) ?_; (with_reducible refine (lines_Delay.calls vv (n : Int) true _ HD.out HSh.out).mono ?_); rintro e w4 ⟨rfl, hb4⟩; refine ⟨_, rfl, ?_⟩; have HM4 := Aside0.mk (HM3.out.step hb4); clear hb4))
      obtain ⟨oki, e0, e1', R0, R1, hcA, hcB, hcC, hfr, hne, hH⟩ := last_open86 HM4.out.row hgs
      have hfr2 := hfr 2
      have HH := Aside0.mk hH
      have HR0 := Aside0.mk R0
      have HR1 := Aside0.mk R1
      clear hH R0 R1 hcA hcB hfr hk1 Hk3 HM3
      have hput : ∀ u : Int, u = max (lastG gs).f2 (n : Int) → Kd.S k86 86 (w4.setCell ⟨g1, (gs.length - 1) * 3 + 2, none⟩ (.int .i64 u)) W0.heap.size (fun _ => True) (.slice (some ⟨g1, 0, none⟩) gs.length cap1) (setG gs { lastG gs with f2 := max (lastG gs).f2 (n : Int) }) := by
        intro u hu
        subst hu
        exact (last_put86 HH.out hgs 2 (by omega) (.int .i64 (max (lastG gs).f2 (n : Int))) rfl { lastG gs with f2 := max (lastG gs).f2 (n : Int) } (k86_mkM _ _ _ ({ lastG gs with f2 := max (lastG gs).f2 (n : Int) } : S86) HR0.out HR1.out) hne).1
      have hput := Aside0.mk hput
      go_wp2
      all_goals go_end0
      all_goals try rw [hfin]
      all_goals
        refine ⟨rfl, ⟨blk_far HM4.out.box (Ne.symm hg1m) _, hB, hput.out _ ?_, HM4.out.below.setCell hg1 _⟩⟩
        show _ = max (gs.getD (gs.length - 1) z86).f2 _
        rw [List.getD_eq_getElem?_getD]
        omega
    | false =>
      rw [hok] at HD hfin1
      have hfin := hfin1 _ (if_neg (by decide))
      clear hfin1 hok
      generalize (delayV vv.data.toList).1 = n at HD
      go_wp2_with (first | ((with_reducible refine gate_callee (f := 47) rfl ?_); refine goesL_ (some 66) rfl rfl Tryd.func47 (by kernel_rfl) rfl #[.string vv] rfl (by (try simp only [List.map_toArray, List.map_cons, List.map_nil]); first | done | rfl) ?_; (with_reducible refine (lines_Delay.calls vv (n : Int) false _ HD.out HSh.out).mono ?_); rintro e w4 ⟨rfl, hb4⟩; refine ⟨_, rfl, ?_⟩; have HM4 := Aside0.mk (HM3.out.step hb4); clear hb4))
      go_end0
      try rw [hfin]
      exact ⟨rfl, HM4.out⟩
  · have e1 : (kk.toList == [97, 108, 108, 111, 119]) = false := by cases h : (kk.toList == [97, 108, 108, 111, 119]); rfl; exact absurd (.inl h) hA
    have e2 : (kk.toList == [100, 105, 115, 97, 108, 108, 111, 119]) = false := by cases h : (kk.toList == [100, 105, 115, 97, 108, 108, 111, 119]); rfl; exact absurd (.inr h) hA
    have e3 : (kk.toList == [99, 114, 97, 119, 108, 45, 100, 101, 108, 97, 121]) = false := by cases h : (kk.toList == [99, 114, 97, 119, 108, 45, 100, 101, 108, 97, 121]); rfl; exact absurd h hC
    have hfin : addG gs op ⟨kk, vv⟩ = (gs, op) := by simp only [addG]; rw [if_neg hgs0, if_neg hA, if_neg hC]
    clear hA hC
    go_wp2
    go_end0
    rw [hfin]
    exact ⟨rfl, HMK2.out⟩
end Go.Proofs.YtdnaddignhjihaaDoor.Given
namespace Go.Proofs.YtdnaddignhjihaaDoor.Given
open Go.RowKit Go.Proofs.YtdnaddignhjihaaDoor.QBase Go.Proofs.YtdnaddignhjihaaDoorW.PrintWords Go.Proofs.YtdnaddignhjihaaDoorW.PrintLast Go.Proofs.YtdnaddignhjihaaDoorW.PrintMore
set_option linter.unusedVariables false
set_option linter.unusedSimpArgs false
attribute [local go_sem] max2_int min2_int max_two min_two max_three min_three max_four min_four
/-- What groups say of somebody: whether any does, the rules, the delay. -/
def ofStep (nm : ByteArray) (st : Bool × List S30 × Int) (g : S86) : Bool × List S30 × Int :=
  if g.f0.any (isFor nm) = true then (true, st.2.1 ++ g.f1, if st.2.2 < g.f2 then g.f2 else st.2.2) else st
def ofL (nm : ByteArray) (l : List S86) : Bool × List S30 × Int := l.foldl (ofStep nm) (false, [], 0)
def ofOk (l : List S86) : Prop := l.length < 1000000 ∧ ∀ g ∈ l, g.f1.length ≤ 1000000 ∧ g.f0.length < 1000000 ∧ ∀ s ∈ g.f0, s.size ≤ 140737488351232

structure OfI (W : World) (nm : ByteArray) (u : Value) (rs : List S30) (dl : Int) (w : World) : Prop where
  nmc : w.heap[W.heap.size]? = some (.cells #[.string nm] 9 (0, 0))
  res : w.heap[W.heap.size + 1]? = some (.cells #[.bool false, .bool false, .slice none 0 0, .int .i64 0] 26 (0, 0))
  out : w.heap[W.heap.size + 1 + 1]? = some (.cells #[.bool false, .bool false, u, .int .i64 dl] 26 (0, 0))
  row : Kd.R k30 30 w W.heap.size (fun _ => True) u rs
  below : Below W.heap.size W w
theorem OfI.step {W w w' : World} {nm : ByteArray} {u : Value} {rs : List S30} {dl : Int} (h : OfI W nm u rs dl w) (hb : Below w.heap.size w w') : OfI W nm u rs dl w' :=
  ⟨blk_below h.nmc hb, blk_below h.res hb, blk_below h.out hb, Kd.R_below h.row hb, below_step h.below hb⟩
theorem OfI.far {W w : World} {nm : ByteArray} {u : Value} {rs : List S30} {dl : Int} (h : OfI W nm u rs dl w) {b : Nat} {cs : Array Value} (hb : w.heap[b]? = some (.cells cs 86 (0, 0))) (hB : W.heap.size ≤ b) (j : Nat) (v : Value) : OfI W nm u rs dl (w.setCell ⟨b, j, none⟩ v) :=
  ⟨blk_far h.nmc (p := ⟨b, j, none⟩) (blk_ne h.nmc hb (by decide)) v, blk_far h.res (p := ⟨b, j, none⟩) (blk_ne h.res hb (by decide)) v, blk_far h.out (p := ⟨b, j, none⟩) (blk_ne h.out hb (by decide)) v,
    Kd.R_set h.row hb (by decide) j v, below_set h.below hB⟩
theorem OfI.app {W w w1 : World} {nm : ByteArray} {u v1 : Value} {rs rs' : List S30} {dl : Int} (h : OfI W nm u rs dl w) (hr : Kd.R k30 30 w1 W.heap.size (fun _ => True) v1 rs') (hb : Below W.heap.size W w1) (hg : w.grownBy w1 u.ownBlock) :
    OfI W nm v1 rs' dl (w1.setCell ⟨W.heap.size + 1 + 1, 2, none⟩ v1) := by
  have ho := blk_grown h.out hg (Kd.R_ne h.row h.out (by decide))
  have hn := blk_grown h.nmc hg (Kd.R_ne h.row h.nmc (by decide))
  have hs := blk_grown h.res hg (Kd.R_ne h.row h.res (by decide))
  refine ⟨blk_far hn (p := ⟨W.heap.size + 1 + 1, 2, none⟩) (by show W.heap.size ≠ W.heap.size + 1 + 1; omega) v1, blk_far hs (p := ⟨W.heap.size + 1 + 1, 2, none⟩) (by show W.heap.size + 1 ≠ W.heap.size + 1 + 1; omega) v1, blk_put ho 2 v1 rfl, Kd.R_set hr ho (by decide) 2 v1, below_set hb (by omega)⟩
theorem OfI.dly {W w : World} {nm : ByteArray} {u : Value} {rs : List S30} {dl : Int} (h : OfI W nm u rs dl w) (d : Int) : OfI W nm u rs d (w.setCell ⟨W.heap.size + 1 + 1, 3, none⟩ (.int .i64 d)) := by
  refine ⟨blk_far h.nmc (p := ⟨W.heap.size + 1 + 1, 3, none⟩) (by show W.heap.size ≠ W.heap.size + 1 + 1; omega) _, blk_far h.res (p := ⟨W.heap.size + 1 + 1, 3, none⟩) (by show W.heap.size + 1 ≠ W.heap.size + 1 + 1; omega) _, blk_put h.out 3 _ rfl, Kd.R_set h.row h.out (by decide) 3 _, below_set h.below (by omega)⟩

/-- Rules that a call made, and handed back with what room it chose to tell. -/
def Rls (base : Nat) (w : World) (A : Option Addr) (c : Nat) (rs : List S30) : Prop := rs.length ≤ c ∧ ∃ c', Kd.R k30 30 w base (fun _ => True) (.slice A rs.length c') rs
theorem Rls.C {base : Nat} {w : World} {A : Option Addr} {c : Nat} {rs : List S30} (h : Rls base w A c rs) : Kd.C k30 w A rs.length rs := by
  obtain ⟨_, c', h⟩ := h; exact (Kd.R_reads' h).2.2
theorem Rls.below {base : Nat} {w w' : World} {A : Option Addr} {c : Nat} {rs : List S30} (h : Rls base w A c rs) (hb : Below w.heap.size w w') : Rls base w' A c rs := ⟨h.1, h.2.elim fun c' h => ⟨c', Kd.R_below h hb⟩⟩
theorem Rls.lower {base base' : Nat} {w : World} {A : Option Addr} {c : Nat} {rs : List S30} (h : Rls base w A c rs) (hb : base' ≤ base) : Rls base' w A c rs := ⟨h.1, h.2.elim fun c' h => ⟨c', Kd.R_lower h hb⟩⟩
theorem Rls.set {base : Nat} {w : World} {A : Option Addr} {c : Nat} {rs : List S30} (h : Rls base w A c rs) {g : Nat} {cells : Array Value} (hb : w.heap[g]? = some (.cells cells 26 (0, 0))) (j : Nat) (u : Value) : Rls base (w.setCell ⟨g, j, none⟩ u) A c rs :=
  ⟨h.1, h.2.elim fun c' h => ⟨c', Kd.R_set h hb (by decide) j u⟩⟩

set_option maxHeartbeats 8000000 in
set_option maxRecDepth 1000000 in
theorem of_calls (A0 : Option Addr) (c0 : Nat) (l0 : List S86) (nm : ByteArray) (w : World) (hr0 : Kd.C k86 w A0 l0.length l0) (hok : ofOk l0) :
    Calls Tryd.prog 30 #[.slice A0 l0.length c0, .string nm] w fun e w' => ∃ (A : Option Addr) (c : Nat) (rs : List S30),
      e = .returned (.tuple #[.agg #[.bool false, .bool false, .slice A rs.length c, .int .i64 (ofL nm l0).2.2], .bool (ofL nm l0).1]) ∧ rs = (ofL nm l0).2.1.take 64 ∧ Rls w.heap.size w' A c rs ∧ Below w.heap.size w w' := by
  have HR0 := Aside0.mk hr0
  have HOK := Aside0.mk hok
  have hfin : Aside0 ((l0.drop 0).foldl (ofStep nm) (false, [], 0) = ofL nm l0) := ⟨rfl⟩
  have hl := hok.1
  clear hr0 hok
  go_enter Tryd.func30, Tryd.ntmps30
  go_wp2
  go_loopw [7, 13] (fun v7 v13 wr => ∃ (i : Nat) (any : Bool) (rs : List S30) (dl : Int) (u : Value), v7 = .bool any ∧ v13 = .int .i64 i ∧ i ≤ l0.length ∧ Hid (rs.length ≤ i * 1000000) ∧ Aside0 ((l0.drop i).foldl (ofStep nm) (any, rs, dl) = ofL nm l0) ∧ Aside0 (OfI w nm u rs dl wr)) (fun _ v13 _ => l0.length - (intOf v13).toNat)
  case atStart =>
    refine ⟨0, false, [], 0, .slice none 0 0, rfl, rfl, by omega, Nat.le_refl _, hfin, ⟨?_⟩⟩
    have e1 : (w.alloc (Obj.cells #[Value.string nm] 9)).heap.size = w.heap.size + 1 := by show (w.heap.push _).size = _; exact Array.size_push ..
    have e2 : ((w.alloc (Obj.cells #[Value.string nm] 9)).alloc (Obj.cells #[Value.bool false, Value.bool false, Value.slice none 0 0, Value.int IntKind.i64 0] 26)).heap.size = w.heap.size + 1 + 1 := by rw [← e1]; show ((w.alloc (Obj.cells #[Value.string nm] 9)).heap.push _).size = _; exact Array.size_push ..
    have b1 := blk_new w (Obj.cells #[Value.string nm] 9)
    have b2 := blk_new (w.alloc (Obj.cells #[Value.string nm] 9)) (Obj.cells #[Value.bool false, Value.bool false, Value.slice none 0 0, Value.int IntKind.i64 0] 26)
    have b3 := blk_new ((w.alloc (Obj.cells #[Value.string nm] 9)).alloc (Obj.cells #[Value.bool false, Value.bool false, Value.slice none 0 0, Value.int IntKind.i64 0] 26)) (Obj.cells #[Value.bool false, Value.bool false, Value.slice none 0 0, Value.int IntKind.i64 0] 26)
    rw [e1] at b2
    rw [e2] at b3
    exact ⟨blk_alloc (blk_alloc b1 _) _, blk_alloc b2 _, b3, Kd.R_nil _ _ _ _ _, below_alloc (below_alloc (below_alloc (Below.refl _ _) _) _) _⟩
  case round =>
    clear hfin
    obtain ⟨i, any, rs, dl, u, rfl, rfl, hi, hlen, hF, HM⟩ := hrel
    by_cases hlt : i < l0.length
    · have hlt' : ((i : Int) < (l0.length : Int)) = True := eq_true (by omega)
      obtain ⟨ad, B0, d0, B1, d1, rfl, hx0, hx1, hx2, hl0, hC0, hl1, hC1⟩ := at_T86 HR0.out (i : Int) (by omega) (by omega)
      have hrd : rd_T86 l0 (i : Int) = l0[i] := by simp [rd_T86, hlt]
      rw [hrd, Int.toNat_natCast] at hx0 hx1 hx2
      rw [hrd] at hl0 hC0 hl1 hC1
      have hx0 := (HM.out.below.cell (World.block_lt_of_cell? w _ hx0)).trans hx0
      have hx1 := (HM.out.below.cell (World.block_lt_of_cell? w _ hx1)).trans hx1
      have hx2 := (HM.out.below.cell (World.block_lt_of_cell? w _ hx2)).trans hx2
      have hC0 := Aside0.mk (Kd.C_below hC0 HM.out.below)
      have hC1 := Aside0.mk (Kd.C_below hC1 HM.out.below)
      have hsz := Aside0.mk (HOK.out.2 _ (List.getElem_mem hlt))
      have hF2 := hF.out
      rw [List.drop_eq_getElem_cons hlt, List.foldl_cons] at hF2
      have hF2 := Aside0.mk hF2
      obtain ⟨g, hg0⟩ : ∃ g, g = l0[i] := ⟨_, rfl⟩
      rw [← hg0] at hx0 hx1 hx2 hsz hF2 hl0 hl1 hC0 hC1
      obtain ⟨ag, ru, de⟩ := g
      simp only at hx0 hx1 hx2 hsz hl0 hl1 hC0 hC1
      clear hF hrd hg0
      go_upto_region 6 with (first | ((with_reducible refine gate_dst (N := 9) rfl ?_); refine box_event ?hg (N := 9) ?hd (cs := #[.slice none 0 0, .slice none 0 0, .int .i64 0]) (t := 86) ?hr ?_; (case hd => rfl); (case hg => rfl); (case hr => first | (go_simp; done) | (go_simp; rfl)); intro b5 hb5 w2 hbox hb; have HM2 := Aside0.mk (HM.out.step hb); have Hbx := Aside0.mk hbox; have hf50 := blk_frozen hbox 0; have hf51 := blk_frozen hbox 1; have hf52 := blk_frozen hbox 2; have hz0 := blk_cell hbox 0; have hz1 := blk_cell hbox 1; have hz2 := blk_cell hbox 2; simp only [List.getElem?_toArray, List.getElem?_cons_zero, List.getElem?_cons_succ] at hz0 hz1 hz2; have hlb := Aside0.mk (by rw [hb5]; exact HM.out.below.size : w.heap.size ≤ b5); have HBw := Aside0.mk (show wr.heap.size ≤ b5 ∧ Below wr.heap.size wr w2 from ⟨by rw [hb5]; exact Nat.le_refl _, hb⟩); clear hbox hb hb5))
      have Hb3 := Aside0.mk (show (((w2.setCell ⟨b5, 0, none⟩ (.slice B0 ag.length d0)).setCell ⟨b5, 1, none⟩ (.slice B1 ru.length d1)).setCell ⟨b5, 2, none⟩ (.int .i64 de)).heap[b5]? = some (Obj.cells #[.slice B0 ag.length d0, .slice B1 ru.length d1, .int .i64 de] 86 (0, 0)) from blk_put (blk_put (blk_put Hbx.out 0 (.slice B0 ag.length d0) rfl) 1 (.slice B1 ru.length d1) rfl) 2 (.int .i64 de) rfl)
      have HM3 := Aside0.mk (OfI.far (OfI.far (OfI.far HM2.out Hbx.out hlb.out 0 (.slice B0 ag.length d0)) (blk_put Hbx.out 0 (.slice B0 ag.length d0) rfl) hlb.out 1 (.slice B1 ru.length d1)) (blk_put (blk_put Hbx.out 0 (.slice B0 ag.length d0) rfl) 1 (.slice B1 ru.length d1) rfl) hlb.out 2 (.int .i64 de))
      have HBw3 := Aside0.mk (show Below wr.heap.size wr (((w2.setCell ⟨b5, 0, none⟩ (.slice B0 ag.length d0)).setCell ⟨b5, 1, none⟩ (.slice B1 ru.length d1)).setCell ⟨b5, 2, none⟩ (.int .i64 de)) from below_set (below_set (below_set HBw.out.2 HBw.out.1) HBw.out.1) HBw.out.1)
      clear HM2 Hbx HBw hf50 hf51 hf52 hz0 hz1 hz2
      generalize (((w2.setCell ⟨b5, 0, none⟩ (.slice B0 ag.length d0)).setCell ⟨b5, 1, none⟩ (.slice B1 ru.length d1)).setCell ⟨b5, 2, none⟩ (.int .i64 de)) = w3 at *
      have hC03 := Aside0.mk (Kd.C_below hC0.out HBw3.out)
      have hC13 := Aside0.mk (Kd.C_below hC1.out HBw3.out)
      have hk0 : w3.cell? ⟨b5, 0, none⟩ = some (.slice B0 ag.length d0) := blk_cell Hb3.out 0
      have hnm : w3.cell? ⟨w.heap.size, 0, none⟩ = some (.string nm) := blk_cell HM3.out.nmc 0
      have hcc := contains_calls B0 d0 w.heap.size ag nm w3 hsz.out.2.2 hsz.out.2.1 hC03.out hnm
      cases hany : ag.any (isFor nm) with
      | true =>
        rw [hany] at hcc
        have hst : ofStep nm (any, rs, dl) ⟨ag, ru, de⟩ = (true, rs ++ ru, (if dl < de then de else dl)) := by simp only [ofStep]; rw [if_pos hany]
        rw [hst] at hF2
        have hlen2 : Hid ((rs ++ ru).length ≤ (i + 1) * 1000000) := by
          show _ ≤ _
          have h1 := hlen.out
          have h2 := hsz.out.1
          rw [List.length_append]; omega
        clear hst hany HM HBw3 hC0 hC1
        go_upto_region 8 with (go_at_call 45; with_reducible refine hcc.mono ?_; rintro e w4 ⟨rfl, b4⟩; have HM4 := Aside0.mk (HM3.out.step b4); have hC14 := Aside0.mk (Kd.C_below hC13.out b4); have Hb4 := Aside0.mk (blk_below Hb3.out b4); clear hk0 hnm HM3 Hb3 hC13 hC03 b4)
        have hk1 : w4.cell? ⟨b5, 1, none⟩ = some (.slice B1 ru.length d1) := blk_cell Hb4.out 1
        have hk2 : w4.cell? ⟨w.heap.size + 1 + 1, 2, none⟩ = some u := blk_cell HM4.out.out 2
        obtain ⟨Au, cu, hu⟩ := Kd.R_slice HM4.out.row
        subst hu
        have hCr : Aside0 (Kd.C k30 w4 B1 ru.length ru) := hC14
        have hbd : Aside0 ((rs.length + ru.length) * 24 ≤ 140737488355328) := ⟨by
          have h1 := hlen.out
          have h2 := hsz.out.1
          omega⟩
        have hf2 := blk_frozen HM4.out.out 2
        go_upto_region 9 with (first
          | ((with_reducible refine gate_builtin (b := .append) (xs := #[.tmp 23, .tmp 25]) rfl ?_); at_builtin; go_loud (refine Kd.R_append_rows k30 (w0 := w) w.heap.size rfl (.tmp 23) (.tmp 25) 24 30 (.agg #[(.bool false), (.string ⟨#[]⟩)]) 24 rfl Tryd.underlying24 info30 rfl (by decide) (by omega) (.slice Au rs.length cu) rs ru _ _ _ (fun _ => True) (fun _ => False) rfl rfl ?aO ?aR (fun _ _ h => h) (fun _ h => h.elim) ?aF ?aB ?aS ?aL ?_; (case aR => exact hCr.out); (case aB => exact HM4.out.below); (case aF => exact (fun _ _ => trivial)); (case aO => exact HM4.out.row); (case aS => exact HM4.out.below.size); (case aL => exact hbd.out); intro v5 w5 ho hb hg hat; obtain ⟨Av, cv, hv5⟩ := Kd.R_slice ho; subst hv5; have HM5 := Aside0.mk (HM4.out.app ho hb hg); have hf5 := blk_frozen (blk_grown HM4.out.out hg (Kd.R_ne HM4.out.row HM4.out.out (by decide))) 2; have hc5 := blk_cell (blk_grown HM4.out.out hg (Kd.R_ne HM4.out.row HM4.out.out (by decide))) 2; have Hb5 := Aside0.mk (blk_far (blk_grown Hb4.out hg (Kd.R_ne HM4.out.row Hb4.out (by decide))) (p := ⟨w.heap.size + 1 + 1, 2, none⟩) (blk_ne Hb4.out HM4.out.out (by decide)) (.slice Av (rs ++ ru).length cv)); clear hk1 hk2 hf2 HM4 Hb4 hC14 hCr ho hb hg hat)))
        rw [List.length_append] at HM5 Hb5
        generalize (w5.setCell ⟨w.heap.size + 1 + 1, 2, none⟩ (.slice Av (rs.length + ru.length) cv)) = w6 at *
        have hk3 : w6.cell? ⟨b5, 2, none⟩ = some (.int .i64 de) := blk_cell Hb5.out 2
        have hk4 : w6.cell? ⟨w.heap.size + 1 + 1, 3, none⟩ = some (.int .i64 dl) := blk_cell HM5.out.out 3
        have hf6 := blk_frozen HM5.out.out 3
        have HM7 := Aside0.mk (HM5.out.dly (if dl < de then de else dl))
        clear HM5 Hb5 hc5 hf5
        go_wp2
        go_roundw
        case rel => exact ⟨i + 1, true, rs ++ ru, (if dl < de then de else dl), _, rfl, by go_num, by omega, hlen2, hF2, HM7⟩
        case measure => simp [intOf]; omega
      | false =>
        rw [hany] at hcc
        have hlen2 : Hid (rs.length ≤ (i + 1) * 1000000) := Hid.mk_ (Nat.le_trans hlen.out (Nat.mul_le_mul_right _ (Nat.le_succ i)))
        have hst : ofStep nm (any, rs, dl) ⟨ag, ru, de⟩ = (any, rs, dl) := by simp only [ofStep]; rw [if_neg (by rw [hany]; decide)]
        rw [hst] at hF2
        clear hst hany HM HBw3 hC0 hC1
        go_wp2_with (go_at_call 45; with_reducible refine hcc.mono ?_; rintro e w4 ⟨rfl, b4⟩; have HM4 := Aside0.mk (HM3.out.step b4); clear hk0 hnm HM3 Hb3 hC13 hC03 b4)
        go_roundw
        case rel => exact ⟨i + 1, any, rs, dl, u, rfl, by go_num, by omega, hlen2, hF2, HM4⟩
        case measure => simp [intOf]; omega
    · have hlt' : ((i : Int) < (l0.length : Int)) = False := eq_false (by omega)
      obtain rfl : i = l0.length := by omega
      have hr := hF.out
      rw [List.drop_length, List.foldl_nil] at hr
      have Hr := Aside0.mk hr
      clear hF hr
      have hk4 : wr.cell? ⟨w.heap.size + 1 + 1, 2, none⟩ = some u := blk_cell HM.out.out 2
      have hf6 := blk_frozen HM.out.out 2
      obtain ⟨Au, cu, hu⟩ := Kd.R_slice HM.out.row
      subst hu
      have hcu := (Kd.R_reads' HM.out.row).2.1
      by_cases h64 : 64 < rs.length
      · have g1 : (64 < (rs.length : Int)) = True := eq_true (by omega)
        go_upto_region 13 with (fail)
        have Ho8 := Aside0.mk (blk_put HM.out.out 2 (.slice Au 64 64) rfl)
        have Hs8 := Aside0.mk (blk_far HM.out.res (p := ⟨w.heap.size + 1 + 1, 2, none⟩) (by show w.heap.size + 1 ≠ w.heap.size + 1 + 1; omega) (.slice Au 64 64))
        have HR8 := Aside0.mk (Kd.R_set HM.out.row HM.out.out (by decide) 2 (.slice Au 64 64))
        have HB8 := Aside0.mk (below_set HM.out.below (show w.heap.size ≤ w.heap.size + 1 + 1 by omega) (j := 2) (v := .slice Au 64 64))
        have hm : 64 ≤ rs.length := by omega
        clear HM hk4 hf6 g1
        generalize (wr.setCell ⟨w.heap.size + 1 + 1, 2, none⟩ (.slice Au 64 64)) = w8 at *
        have k0 : w8.cell? ⟨w.heap.size + 1 + 1, 0, none⟩ = some (.bool false) := blk_cell Ho8.out 0
        have k1 : w8.cell? ⟨w.heap.size + 1 + 1, 1, none⟩ = some (.bool false) := blk_cell Ho8.out 1
        have k2 : w8.cell? ⟨w.heap.size + 1 + 1, 2, none⟩ = some (.slice Au 64 64) := blk_cell Ho8.out 2
        have k3 : w8.cell? ⟨w.heap.size + 1 + 1, 3, none⟩ = some (.int .i64 dl) := blk_cell Ho8.out 3
        have n0 : w8.cell? ⟨w.heap.size + 1, 0, none⟩ = some (.bool false) := blk_cell Hs8.out 0
        have n1 : w8.cell? ⟨w.heap.size + 1, 1, none⟩ = some (.bool false) := blk_cell Hs8.out 1
        have n2 : w8.cell? ⟨w.heap.size + 1, 2, none⟩ = some (.slice none 0 0) := blk_cell Hs8.out 2
        have n3 : w8.cell? ⟨w.heap.size + 1, 3, none⟩ = some (.int .i64 0) := blk_cell Hs8.out 3
        have f0 := blk_frozen Hs8.out 0
        have f1 := blk_frozen Hs8.out 1
        have f2 := blk_frozen Hs8.out 2
        have f3 := blk_frozen Hs8.out 3
        go_wp2
        have b0 := blk_put Hs8.out 0 (.bool false) (cs' := #[.bool false, .bool false, .slice none 0 0, .int .i64 0]) rfl
        have b1 := blk_put b0 1 (.bool false) (cs' := #[.bool false, .bool false, .slice none 0 0, .int .i64 0]) rfl
        have b2 := blk_put b1 2 (.slice Au 64 64) (cs' := #[.bool false, .bool false, .slice Au 64 64, .int .i64 0]) rfl
        have b3 := blk_put b2 3 (.int .i64 dl) (cs' := #[.bool false, .bool false, .slice Au 64 64, .int .i64 dl]) rfl
        have hR := Kd.R_take (m := 64) (Kd.R_set (Kd.R_set (Kd.R_set (Kd.R_set HR8.out Hs8.out (by decide) 0 (.bool false)) b0 (by decide) 1 (.bool false)) b1 (by decide) 2 (.slice Au 64 64)) b2 (by decide) 3 (.int .i64 dl)) hm
        have hB := below_set (below_set (below_set (below_set HB8.out (show w.heap.size ≤ w.heap.size + 1 by omega) (j := 0) (v := .bool false)) (show w.heap.size ≤ w.heap.size + 1 by omega) (j := 1) (v := .bool false)) (show w.heap.size ≤ w.heap.size + 1 by omega) (j := 2) (v := .slice Au 64 64)) (show w.heap.size ≤ w.heap.size + 1 by omega) (j := 3) (v := .int .i64 dl)
        refine bodyPost_ret (results_ct rfl _ _ (w.heap.size + 1) 26 #[.bool false, .bool false, .slice Au 64 64, .int .i64 dl] (0, 0) _ rfl b3 Tryd.underlying26 rfl (by kernel_rfl)) rfl ?_
        have hlen3 : (rs.take 64).length = 64 := by rw [List.length_take]; omega
        rw [← Hr.out]
        refine ⟨Au, 64, rs.take 64, ?_, rfl, ⟨by omega, cu, ?_⟩, hB⟩
        · rw [hlen3]; rfl
        · rw [hlen3]; exact hR
      · have g1 : (64 < (rs.length : Int)) = False := eq_false (by omega)
        go_upto_region 13 with (fail)
        have Ho8 := Aside0.mk (blk_put HM.out.out 2 (.slice Au rs.length rs.length) rfl)
        have Hs8 := Aside0.mk (blk_far HM.out.res (p := ⟨w.heap.size + 1 + 1, 2, none⟩) (by show w.heap.size + 1 ≠ w.heap.size + 1 + 1; omega) (.slice Au rs.length rs.length))
        have HR8 := Aside0.mk (Kd.R_set HM.out.row HM.out.out (by decide) 2 (.slice Au rs.length rs.length))
        have HB8 := Aside0.mk (below_set HM.out.below (show w.heap.size ≤ w.heap.size + 1 + 1 by omega) (j := 2) (v := .slice Au rs.length rs.length))
        have hm : rs.length ≤ rs.length := by omega
        clear HM hk4 hf6 g1
        generalize (wr.setCell ⟨w.heap.size + 1 + 1, 2, none⟩ (.slice Au rs.length rs.length)) = w8 at *
        have k0 : w8.cell? ⟨w.heap.size + 1 + 1, 0, none⟩ = some (.bool false) := blk_cell Ho8.out 0
        have k1 : w8.cell? ⟨w.heap.size + 1 + 1, 1, none⟩ = some (.bool false) := blk_cell Ho8.out 1
        have k2 : w8.cell? ⟨w.heap.size + 1 + 1, 2, none⟩ = some (.slice Au rs.length rs.length) := blk_cell Ho8.out 2
        have k3 : w8.cell? ⟨w.heap.size + 1 + 1, 3, none⟩ = some (.int .i64 dl) := blk_cell Ho8.out 3
        have n0 : w8.cell? ⟨w.heap.size + 1, 0, none⟩ = some (.bool false) := blk_cell Hs8.out 0
        have n1 : w8.cell? ⟨w.heap.size + 1, 1, none⟩ = some (.bool false) := blk_cell Hs8.out 1
        have n2 : w8.cell? ⟨w.heap.size + 1, 2, none⟩ = some (.slice none 0 0) := blk_cell Hs8.out 2
        have n3 : w8.cell? ⟨w.heap.size + 1, 3, none⟩ = some (.int .i64 0) := blk_cell Hs8.out 3
        have f0 := blk_frozen Hs8.out 0
        have f1 := blk_frozen Hs8.out 1
        have f2 := blk_frozen Hs8.out 2
        have f3 := blk_frozen Hs8.out 3
        go_wp2
        have b0 := blk_put Hs8.out 0 (.bool false) (cs' := #[.bool false, .bool false, .slice none 0 0, .int .i64 0]) rfl
        have b1 := blk_put b0 1 (.bool false) (cs' := #[.bool false, .bool false, .slice none 0 0, .int .i64 0]) rfl
        have b2 := blk_put b1 2 (.slice Au rs.length rs.length) (cs' := #[.bool false, .bool false, .slice Au rs.length rs.length, .int .i64 0]) rfl
        have b3 := blk_put b2 3 (.int .i64 dl) (cs' := #[.bool false, .bool false, .slice Au rs.length rs.length, .int .i64 dl]) rfl
        have hR := Kd.R_take (m := rs.length) (Kd.R_set (Kd.R_set (Kd.R_set (Kd.R_set HR8.out Hs8.out (by decide) 0 (.bool false)) b0 (by decide) 1 (.bool false)) b1 (by decide) 2 (.slice Au rs.length rs.length)) b2 (by decide) 3 (.int .i64 dl)) hm
        have hB := below_set (below_set (below_set (below_set HB8.out (show w.heap.size ≤ w.heap.size + 1 by omega) (j := 0) (v := .bool false)) (show w.heap.size ≤ w.heap.size + 1 by omega) (j := 1) (v := .bool false)) (show w.heap.size ≤ w.heap.size + 1 by omega) (j := 2) (v := .slice Au rs.length rs.length)) (show w.heap.size ≤ w.heap.size + 1 by omega) (j := 3) (v := .int .i64 dl)
        refine bodyPost_ret (results_ct rfl _ _ (w.heap.size + 1) 26 #[.bool false, .bool false, .slice Au rs.length rs.length, .int .i64 dl] (0, 0) _ rfl b3 Tryd.underlying26 rfl (by kernel_rfl)) rfl ?_
        have hlen3 : (rs.take rs.length).length = rs.length := by rw [List.length_take]; omega
        rw [← Hr.out]
        refine ⟨Au, rs.length, rs.take rs.length, ?_, (by show rs.take rs.length = rs.take 64; rw [List.take_of_length_le (Nat.le_refl _), List.take_of_length_le (by omega : rs.length ≤ 64)]), ⟨by omega, cu, ?_⟩, hB⟩
        · rw [hlen3]; rfl
        · rw [hlen3]; exact hR

/-- What is said to somebody. -/
def pickV (l : List S86) (ag : ByteArray) : List S30 × Int :=
  if (tokV ag.data.toList).isEmpty = false ∧ (ofL (tokA ag) l).1 = true then ((ofL (tokA ag) l).2.1.take 64, (ofL (tokA ag) l).2.2) else ((ofL ⟨#[42]⟩ l).2.1.take 64, (ofL ⟨#[42]⟩ l).2.2)

structure PkI (W : World) (w : World) : Prop where
  res : w.heap[W.heap.size]? = some (.cells #[.bool false, .bool false, .slice none 0 0, .int .i64 0] 26 (0, 0))
  below : Below W.heap.size W w
theorem PkI.step {W w w' : World} (h : PkI W w) (hb : Below w.heap.size w w') : PkI W w' := ⟨blk_below h.res hb, below_step h.below hb⟩
theorem PkI.far {W w : World} (h : PkI W w) {b : Nat} {cs : Array Value} {t : TypeId} (hb : w.heap[b]? = some (.cells cs t (0, 0))) (hB : W.heap.size < b) (j : Nat) (v : Value) : PkI W (w.setCell ⟨b, j, none⟩ v) :=
  ⟨blk_far h.res (p := ⟨b, j, none⟩) (by show W.heap.size ≠ b; omega) v, below_set h.below (by omega)⟩
set_option maxHeartbeats 8000000 in
set_option maxRecDepth 1000000 in
theorem pick_calls (A0 : Option Addr) (c0 : Nat) (l0 : List S86) (ag : ByteArray) (w : World) (hr0 : Kd.C k86 w A0 l0.length l0) (hok : ofOk l0) (ha : ag.size ≤ 140737488351232) :
    Calls Tryd.prog 16 #[.slice A0 l0.length c0, .string ag] w fun e w' => ∃ (A : Option Addr) (c : Nat) (rs : List S30),
      e = .returned (.agg #[.bool false, .bool false, .slice A rs.length c, .int .i64 (pickV l0 ag).2]) ∧ rs = (pickV l0 ag).1 ∧ Rls w.heap.size w' A c rs ∧ Below w.heap.size w w' := by
  have HR0 := Aside0.mk hr0
  have HOK := Aside0.mk hok
  have htk := fun w1 => token_calls ag w1 ha
  have b1 := blk_new w (Obj.cells #[.bool false, .bool false, .slice none 0 0, .int .i64 0] 26)
  have HI : Aside0 (PkI w (w.alloc (Obj.cells #[.bool false, .bool false, .slice none 0 0, .int .i64 0] 26))) := ⟨⟨b1, below_alloc (Below.refl _ _) _⟩⟩
  clear hr0 hok ha b1
  cases h1 : (tokV ag.data.toList).isEmpty with
  | false =>
    obtain ⟨r, hr⟩ : ∃ r, r = ofL (tokA ag) l0 := ⟨_, rfl⟩
    obtain ⟨ok, rs0, dl⟩ := r
    have hpv : Aside0 (pickV l0 ag = if ok = true then (rs0.take 64, dl) else ((ofL ⟨#[42]⟩ l0).2.1.take 64, (ofL ⟨#[42]⟩ l0).2.2)) := ⟨by simp [pickV, h1, ← hr]⟩
    have hof := fun (w1 : World) (hb : Below w.heap.size w w1) => of_calls A0 c0 l0 (tokA ag) w1 (Kd.C_below HR0.out hb) HOK.out
    rw [← hr] at hof
    have hof2 := fun (w1 : World) (hb : Below w.heap.size w w1) => of_calls A0 c0 l0 ⟨#[42]⟩ w1 (Kd.C_below HR0.out hb) HOK.out
    have hof := Aside0.mk hof
    have hof2 := Aside0.mk hof2
    clear hr
    go_enter Tryd.func16, Tryd.ntmps16
    go_upto_region 4 with (first
      | (go_at_call 14; refine (htk _).mono ?_; rintro e w1 ⟨rfl, b1⟩; have HI1 := Aside0.mk (HI.out.step b1); clear HI b1)
      | (go_at_call 30; refine (hof.out _ HI1.out.below).mono ?_; rintro e w2 ⟨A, c, rs, rfl, hrs0, hR0, b2⟩; have HI2 := Aside0.mk (HI1.out.step b2); have hrs := Aside0.mk hrs0; have hR := Aside0.mk (hR0.lower HI1.out.below.size); clear HI1 b2 hrs0 hR0)
      | ((with_reducible refine gate_dst (N := 6) rfl ?_); refine box_event ?hg (N := 6) ?hd (cs := #[.bool false, .bool false, .slice none 0 0, .int .i64 0]) (t := 26) ?hr ?_; (case hd => rfl); (case hg => rfl); (case hr => first | (go_simp; done) | (go_simp; rfl)); intro b5 hb5 w3 hbox hb; have HI3 := Aside0.mk (HI2.out.step hb); have hR3 := Aside0.mk (hR.out.below hb); have Hbx := Aside0.mk hbox; have hf50 := blk_frozen hbox 0; have hf51 := blk_frozen hbox 1; have hf52 := blk_frozen hbox 2; have hf53 := blk_frozen hbox 3; have hz0 := blk_cell hbox 0; have hz1 := blk_cell hbox 1; have hz2 := blk_cell hbox 2; have hz3 := blk_cell hbox 3; simp only [List.getElem?_toArray, List.getElem?_cons_zero, List.getElem?_cons_succ] at hz0 hz1 hz2 hz3; have hlb := Aside0.mk (by rw [hb5]; exact blk_lt HI2.out.res : w.heap.size < b5); clear HI2 hR hbox hb hb5))
    have x0 := blk_put Hbx.out 0 (.bool false) (cs' := #[.bool false, .bool false, .slice none 0 0, .int .i64 0]) rfl
    have x1 := blk_put x0 1 (.bool false) (cs' := #[.bool false, .bool false, .slice none 0 0, .int .i64 0]) rfl
    have x2 := blk_put x1 2 (.slice A rs.length c) (cs' := #[.bool false, .bool false, .slice A rs.length c, .int .i64 0]) rfl
    have Hbx4 := Aside0.mk (blk_put x2 3 (.int .i64 dl) (cs' := #[.bool false, .bool false, .slice A rs.length c, .int .i64 dl]) rfl)
    have HI4 := Aside0.mk ((((HI3.out.far Hbx.out hlb.out 0 (.bool false)).far x0 hlb.out 1 (.bool false)).far x1 hlb.out 2 (.slice A rs.length c)).far x2 hlb.out 3 (.int .i64 dl))
    have hR4 := Aside0.mk ((((hR3.out.set Hbx.out 0 (.bool false)).set x0 1 (.bool false)).set x1 2 (.slice A rs.length c)).set x2 3 (.int .i64 dl))
    clear x0 x1 x2 HI3 Hbx hR3 hf50 hf51 hf52 hf53 hz0 hz1 hz2 hz3
    generalize ((((w3.setCell ⟨b5, 0, none⟩ (.bool false)).setCell ⟨b5, 1, none⟩ (.bool false)).setCell ⟨b5, 2, none⟩ (.slice A rs.length c)).setCell ⟨b5, 3, none⟩ (.int .i64 dl)) = w4 at *
    cases ok with
    | true =>
      have k0 : w4.cell? ⟨b5, 0, none⟩ = some (.bool false) := blk_cell Hbx4.out 0
      have k1 : w4.cell? ⟨b5, 1, none⟩ = some (.bool false) := blk_cell Hbx4.out 1
      have k2 : w4.cell? ⟨b5, 2, none⟩ = some (.slice A rs.length c) := blk_cell Hbx4.out 2
      have k3 : w4.cell? ⟨b5, 3, none⟩ = some (.int .i64 dl) := blk_cell Hbx4.out 3
      have n0 : w4.cell? ⟨w.heap.size, 0, none⟩ = some (.bool false) := blk_cell HI4.out.res 0
      have n1 : w4.cell? ⟨w.heap.size, 1, none⟩ = some (.bool false) := blk_cell HI4.out.res 1
      have n2 : w4.cell? ⟨w.heap.size, 2, none⟩ = some (.slice none 0 0) := blk_cell HI4.out.res 2
      have n3 : w4.cell? ⟨w.heap.size, 3, none⟩ = some (.int .i64 0) := blk_cell HI4.out.res 3
      have f0 := blk_frozen HI4.out.res 0
      have f1 := blk_frozen HI4.out.res 1
      have f2 := blk_frozen HI4.out.res 2
      have f3 := blk_frozen HI4.out.res 3
      go_wp2
      have b0 := blk_put HI4.out.res 0 (.bool false) (cs' := #[.bool false, .bool false, .slice none 0 0, .int .i64 0]) rfl
      have b1 := blk_put b0 1 (.bool false) (cs' := #[.bool false, .bool false, .slice none 0 0, .int .i64 0]) rfl
      have b2 := blk_put b1 2 (.slice A rs.length c) (cs' := #[.bool false, .bool false, .slice A rs.length c, .int .i64 0]) rfl
      have b3 := blk_put b2 3 (.int .i64 dl) (cs' := #[.bool false, .bool false, .slice A rs.length c, .int .i64 dl]) rfl
      have hR5 := (((hR4.out.set HI4.out.res 0 (.bool false)).set b0 1 (.bool false)).set b1 2 (.slice A rs.length c)).set b2 3 (.int .i64 dl)
      have hB := below_set (below_set (below_set (below_set HI4.out.below (Nat.le_refl _) (j := 0) (v := .bool false)) (Nat.le_refl _) (j := 1) (v := .bool false)) (Nat.le_refl _) (j := 2) (v := .slice A rs.length c)) (Nat.le_refl _) (j := 3) (v := .int .i64 dl)
      refine bodyPost_ret (results_cell_row rfl _ _ w.heap.size 26 #[.bool false, .bool false, .slice A rs.length c, .int .i64 dl] (0, 0) _ rfl b3 Tryd.underlying26 rfl (by kernel_rfl)) rfl ?_
      rw [hpv.out]
      exact ⟨A, c, rs, rfl, hrs.out, hR5, hB⟩
    | false =>
      clear hR4 hrs Hbx4 hlb
      obtain ⟨dl2, hdl⟩ : ∃ d, d = (ofL ⟨#[42]⟩ l0).2.2 := ⟨_, rfl⟩
      rw [← hdl] at hof2 hpv
      clear hdl
      go_upto_region 7 with (first
        | (go_at_call 30; refine (hof2.out _ HI4.out.below).mono ?_; rintro e w2 ⟨A, c, rs, rfl, hrs0, hR0, b2⟩; have HI2 := Aside0.mk (HI4.out.step b2); have hrs := Aside0.mk hrs0; have hR := Aside0.mk (hR0.lower HI4.out.below.size); clear HI4 b2 hrs0 hR0)
        | ((with_reducible refine gate_dst (N := 8) rfl ?_); refine box_event ?hg (N := 8) ?hd (cs := #[.bool false, .bool false, .slice none 0 0, .int .i64 0]) (t := 26) ?hr ?_; (case hd => rfl); (case hg => rfl); (case hr => first | (go_simp; done) | (go_simp; rfl)); intro b5 hb5 w3 hbox hb; have HI3 := Aside0.mk (HI2.out.step hb); have hR3 := Aside0.mk (hR.out.below hb); have Hbx := Aside0.mk hbox; have hf50 := blk_frozen hbox 0; have hf51 := blk_frozen hbox 1; have hf52 := blk_frozen hbox 2; have hf53 := blk_frozen hbox 3; have hz0 := blk_cell hbox 0; have hz1 := blk_cell hbox 1; have hz2 := blk_cell hbox 2; have hz3 := blk_cell hbox 3; simp only [List.getElem?_toArray, List.getElem?_cons_zero, List.getElem?_cons_succ] at hz0 hz1 hz2 hz3; have hlb := Aside0.mk (by rw [hb5]; exact blk_lt HI2.out.res : w.heap.size < b5); clear HI2 hR hbox hb hb5))
      have x0 := blk_put Hbx.out 0 (.bool false) (cs' := #[.bool false, .bool false, .slice none 0 0, .int .i64 0]) rfl
      have x1 := blk_put x0 1 (.bool false) (cs' := #[.bool false, .bool false, .slice none 0 0, .int .i64 0]) rfl
      have x2 := blk_put x1 2 (.slice A rs.length c) (cs' := #[.bool false, .bool false, .slice A rs.length c, .int .i64 0]) rfl
      have Hbx4 := Aside0.mk (blk_put x2 3 (.int .i64 dl2) (cs' := #[.bool false, .bool false, .slice A rs.length c, .int .i64 dl2]) rfl)
      have HI4 := Aside0.mk ((((HI3.out.far Hbx.out hlb.out 0 (.bool false)).far x0 hlb.out 1 (.bool false)).far x1 hlb.out 2 (.slice A rs.length c)).far x2 hlb.out 3 (.int .i64 dl2))
      have hR4 := Aside0.mk ((((hR3.out.set Hbx.out 0 (.bool false)).set x0 1 (.bool false)).set x1 2 (.slice A rs.length c)).set x2 3 (.int .i64 dl2))
      clear x0 x1 x2 HI3 Hbx hR3 hf50 hf51 hf52 hf53 hz0 hz1 hz2 hz3
      generalize ((((w3.setCell ⟨b5, 0, none⟩ (.bool false)).setCell ⟨b5, 1, none⟩ (.bool false)).setCell ⟨b5, 2, none⟩ (.slice A rs.length c)).setCell ⟨b5, 3, none⟩ (.int .i64 dl2)) = w4 at *
      have k0 : w4.cell? ⟨b5, 0, none⟩ = some (.bool false) := blk_cell Hbx4.out 0
      have k1 : w4.cell? ⟨b5, 1, none⟩ = some (.bool false) := blk_cell Hbx4.out 1
      have k2 : w4.cell? ⟨b5, 2, none⟩ = some (.slice A rs.length c) := blk_cell Hbx4.out 2
      have k3 : w4.cell? ⟨b5, 3, none⟩ = some (.int .i64 dl2) := blk_cell Hbx4.out 3
      have n0 : w4.cell? ⟨w.heap.size, 0, none⟩ = some (.bool false) := blk_cell HI4.out.res 0
      have n1 : w4.cell? ⟨w.heap.size, 1, none⟩ = some (.bool false) := blk_cell HI4.out.res 1
      have n2 : w4.cell? ⟨w.heap.size, 2, none⟩ = some (.slice none 0 0) := blk_cell HI4.out.res 2
      have n3 : w4.cell? ⟨w.heap.size, 3, none⟩ = some (.int .i64 0) := blk_cell HI4.out.res 3
      have f0 := blk_frozen HI4.out.res 0
      have f1 := blk_frozen HI4.out.res 1
      have f2 := blk_frozen HI4.out.res 2
      have f3 := blk_frozen HI4.out.res 3
      go_wp2
      have b0 := blk_put HI4.out.res 0 (.bool false) (cs' := #[.bool false, .bool false, .slice none 0 0, .int .i64 0]) rfl
      have b1 := blk_put b0 1 (.bool false) (cs' := #[.bool false, .bool false, .slice none 0 0, .int .i64 0]) rfl
      have b2 := blk_put b1 2 (.slice A rs.length c) (cs' := #[.bool false, .bool false, .slice A rs.length c, .int .i64 0]) rfl
      have b3 := blk_put b2 3 (.int .i64 dl2) (cs' := #[.bool false, .bool false, .slice A rs.length c, .int .i64 dl2]) rfl
      have hR5 := (((hR4.out.set HI4.out.res 0 (.bool false)).set b0 1 (.bool false)).set b1 2 (.slice A rs.length c)).set b2 3 (.int .i64 dl2)
      have hB := below_set (below_set (below_set (below_set HI4.out.below (Nat.le_refl _) (j := 0) (v := .bool false)) (Nat.le_refl _) (j := 1) (v := .bool false)) (Nat.le_refl _) (j := 2) (v := .slice A rs.length c)) (Nat.le_refl _) (j := 3) (v := .int .i64 dl2)
      refine bodyPost_ret (results_cell_row rfl _ _ w.heap.size 26 #[.bool false, .bool false, .slice A rs.length c, .int .i64 dl2] (0, 0) _ rfl b3 Tryd.underlying26 rfl (by kernel_rfl)) rfl ?_
      rw [hpv.out]
      exact ⟨A, c, rs, rfl, hrs.out, hR5, hB⟩
  | true =>
    have hpv : Aside0 (pickV l0 ag = ((ofL ⟨#[42]⟩ l0).2.1.take 64, (ofL ⟨#[42]⟩ l0).2.2)) := ⟨by simp [pickV, h1]⟩
    have hof2 := Aside0.mk (fun (w1 : World) (hb : Below w.heap.size w w1) => of_calls A0 c0 l0 ⟨#[42]⟩ w1 (Kd.C_below HR0.out hb) HOK.out)
    obtain ⟨dl2, hdl⟩ : ∃ d, d = (ofL ⟨#[42]⟩ l0).2.2 := ⟨_, rfl⟩
    rw [← hdl] at hof2 hpv
    clear hdl
    go_enter Tryd.func16, Tryd.ntmps16
    go_upto_region 6 with (go_at_call 14; refine (htk _).mono ?_; rintro e w1 ⟨rfl, b1⟩; have HI1 := Aside0.mk (HI.out.step b1); clear HI b1)
    go_upto_region 7 with (first
      | (go_at_call 30; refine (hof2.out _ HI1.out.below).mono ?_; rintro e w2 ⟨A, c, rs, rfl, hrs0, hR0, b2⟩; have HI2 := Aside0.mk (HI1.out.step b2); have hrs := Aside0.mk hrs0; have hR := Aside0.mk (hR0.lower HI1.out.below.size); clear HI1 b2 hrs0 hR0)
      | ((with_reducible refine gate_dst (N := 8) rfl ?_); refine box_event ?hg (N := 8) ?hd (cs := #[.bool false, .bool false, .slice none 0 0, .int .i64 0]) (t := 26) ?hr ?_; (case hd => rfl); (case hg => rfl); (case hr => first | (go_simp; done) | (go_simp; rfl)); intro b5 hb5 w3 hbox hb; have HI3 := Aside0.mk (HI2.out.step hb); have hR3 := Aside0.mk (hR.out.below hb); have Hbx := Aside0.mk hbox; have hf50 := blk_frozen hbox 0; have hf51 := blk_frozen hbox 1; have hf52 := blk_frozen hbox 2; have hf53 := blk_frozen hbox 3; have hz0 := blk_cell hbox 0; have hz1 := blk_cell hbox 1; have hz2 := blk_cell hbox 2; have hz3 := blk_cell hbox 3; simp only [List.getElem?_toArray, List.getElem?_cons_zero, List.getElem?_cons_succ] at hz0 hz1 hz2 hz3; have hlb := Aside0.mk (by rw [hb5]; exact blk_lt HI2.out.res : w.heap.size < b5); clear HI2 hR hbox hb hb5))
    have x0 := blk_put Hbx.out 0 (.bool false) (cs' := #[.bool false, .bool false, .slice none 0 0, .int .i64 0]) rfl
    have x1 := blk_put x0 1 (.bool false) (cs' := #[.bool false, .bool false, .slice none 0 0, .int .i64 0]) rfl
    have x2 := blk_put x1 2 (.slice A rs.length c) (cs' := #[.bool false, .bool false, .slice A rs.length c, .int .i64 0]) rfl
    have Hbx4 := Aside0.mk (blk_put x2 3 (.int .i64 dl2) (cs' := #[.bool false, .bool false, .slice A rs.length c, .int .i64 dl2]) rfl)
    have HI4 := Aside0.mk ((((HI3.out.far Hbx.out hlb.out 0 (.bool false)).far x0 hlb.out 1 (.bool false)).far x1 hlb.out 2 (.slice A rs.length c)).far x2 hlb.out 3 (.int .i64 dl2))
    have hR4 := Aside0.mk ((((hR3.out.set Hbx.out 0 (.bool false)).set x0 1 (.bool false)).set x1 2 (.slice A rs.length c)).set x2 3 (.int .i64 dl2))
    clear x0 x1 x2 HI3 Hbx hR3 hf50 hf51 hf52 hf53 hz0 hz1 hz2 hz3
    generalize ((((w3.setCell ⟨b5, 0, none⟩ (.bool false)).setCell ⟨b5, 1, none⟩ (.bool false)).setCell ⟨b5, 2, none⟩ (.slice A rs.length c)).setCell ⟨b5, 3, none⟩ (.int .i64 dl2)) = w4 at *
    have k0 : w4.cell? ⟨b5, 0, none⟩ = some (.bool false) := blk_cell Hbx4.out 0
    have k1 : w4.cell? ⟨b5, 1, none⟩ = some (.bool false) := blk_cell Hbx4.out 1
    have k2 : w4.cell? ⟨b5, 2, none⟩ = some (.slice A rs.length c) := blk_cell Hbx4.out 2
    have k3 : w4.cell? ⟨b5, 3, none⟩ = some (.int .i64 dl2) := blk_cell Hbx4.out 3
    have n0 : w4.cell? ⟨w.heap.size, 0, none⟩ = some (.bool false) := blk_cell HI4.out.res 0
    have n1 : w4.cell? ⟨w.heap.size, 1, none⟩ = some (.bool false) := blk_cell HI4.out.res 1
    have n2 : w4.cell? ⟨w.heap.size, 2, none⟩ = some (.slice none 0 0) := blk_cell HI4.out.res 2
    have n3 : w4.cell? ⟨w.heap.size, 3, none⟩ = some (.int .i64 0) := blk_cell HI4.out.res 3
    have f0 := blk_frozen HI4.out.res 0
    have f1 := blk_frozen HI4.out.res 1
    have f2 := blk_frozen HI4.out.res 2
    have f3 := blk_frozen HI4.out.res 3
    go_wp2
    have b0 := blk_put HI4.out.res 0 (.bool false) (cs' := #[.bool false, .bool false, .slice none 0 0, .int .i64 0]) rfl
    have b1 := blk_put b0 1 (.bool false) (cs' := #[.bool false, .bool false, .slice none 0 0, .int .i64 0]) rfl
    have b2 := blk_put b1 2 (.slice A rs.length c) (cs' := #[.bool false, .bool false, .slice A rs.length c, .int .i64 0]) rfl
    have b3 := blk_put b2 3 (.int .i64 dl2) (cs' := #[.bool false, .bool false, .slice A rs.length c, .int .i64 dl2]) rfl
    have hR5 := (((hR4.out.set HI4.out.res 0 (.bool false)).set b0 1 (.bool false)).set b1 2 (.slice A rs.length c)).set b2 3 (.int .i64 dl2)
    have hB := below_set (below_set (below_set (below_set HI4.out.below (Nat.le_refl _) (j := 0) (v := .bool false)) (Nat.le_refl _) (j := 1) (v := .bool false)) (Nat.le_refl _) (j := 2) (v := .slice A rs.length c)) (Nat.le_refl _) (j := 3) (v := .int .i64 dl2)
    refine bodyPost_ret (results_cell_row rfl _ _ w.heap.size 26 #[.bool false, .bool false, .slice A rs.length c, .int .i64 dl2] (0, 0) _ rfl b3 Tryd.underlying26 rfl (by kernel_rfl)) rfl ?_
    rw [hpv.out]
    exact ⟨A, c, rs, rfl, hrs.out, hR5, hB⟩
end Go.Proofs.YtdnaddignhjihaaDoor.Given
namespace Go.Proofs.YtdnaddignhjihaaDoor.Given
open Go.RowKit Go.Proofs.YtdnaddignhjihaaDoor.QBase Go.Proofs.YtdnaddignhjihaaDoorW.PrintWords Go.Proofs.YtdnaddignhjihaaDoorW.PrintLast Go.Proofs.YtdnaddignhjihaaDoorW.PrintMore
set_option linter.unusedVariables false
set_option linter.unusedSimpArgs false
def sAgent : List UInt8 := [117, 115, 101, 114, 45, 97, 103, 101, 110, 116]
def stepG (st : List S86 × Bool) (l : S35) : List S86 × Bool := if (l.f0.toList == sAgent) = true then (agentG st.1 st.2 l.f1, true) else addG st.1 st.2 l
def lines_Groups.f (l0 : List S35) : Option (List S86) := if l0.length < 1000000 ∧ (∀ l ∈ l0, l.f1.size < 4294967281) then some (l0.foldl stepG ([], false)).1 else none

/-- What stays so from line to line. -/
structure InvG (i : Nat) (st : List S86 × Bool) : Prop where
  len : st.1.length ≤ i
  ags : ∀ x ∈ st.1, x.f0.length ≤ i
  op : st.2 = true → st.1 ≠ []
theorem mem_setG {gs : List S86} {x y : S86} (h : y ∈ setG gs x) : y = x ∨ y ∈ gs := by
  rcases List.mem_or_eq_of_mem_set h with h | h
  · exact .inr h
  · exact .inl h
theorem lastG_f0 {gs : List S86} {i : Nat} (h : ∀ x ∈ gs, x.f0.length ≤ i) : (lastG gs).f0.length ≤ i := by
  unfold lastG
  rw [List.getD_eq_getElem?_getD]
  by_cases hl : gs.length - 1 < gs.length
  · rw [List.getElem?_eq_getElem hl]
    exact h _ (List.getElem_mem hl)
  · rw [List.getElem?_eq_none (by omega)]
    exact Nat.zero_le _
theorem InvG.add {i : Nat} {st : List S86 × Bool} (h : InvG i st) (l : S35) : InvG (i + 1) (addG st.1 st.2 l) := by
  have h1 := lastG_f0 h.ags
  have set1 : ∀ x : S86, x.f0 = (lastG st.1).f0 → (setG st.1 x).length ≤ i + 1 ∧ ∀ y ∈ setG st.1 x, y.f0.length ≤ i + 1 := by
    intro x hx
    refine ⟨by have := h.len; simp [setG]; omega, fun y hy => ?_⟩
    rcases mem_setG hy with rfl | hy
    · rw [hx]; omega
    · have := h.ags y hy; omega
  have same : st.1.length ≤ i + 1 ∧ ∀ y ∈ st.1, y.f0.length ≤ i + 1 := ⟨by have := h.len; omega, fun y hy => by have := h.ags y hy; omega⟩
  unfold addG
  split
  · exact ⟨same.1, same.2, h.op⟩
  split
  · simp only
    split
    · exact ⟨(set1 _ (by rfl)).1, (set1 _ (by rfl)).2, fun h => (by cases h)⟩
    · exact ⟨same.1, same.2, fun h => (by cases h)⟩
  split
  · simp only
    split
    · exact ⟨(set1 _ (by rfl)).1, (set1 _ (by rfl)).2, fun h => (by cases h)⟩
    · exact ⟨same.1, same.2, fun h => (by cases h)⟩
  · exact ⟨same.1, same.2, h.op⟩
theorem InvG.agent {i : Nat} {st : List S86 × Bool} (h : InvG i st) (nm : ByteArray) : InvG (i + 1) (agentG st.1 st.2 nm, true) := by
  have key : ∀ G : List S86, G ≠ [] → G.length ≤ i + 1 → (∀ x ∈ G, x.f0.length ≤ i) → InvG (i + 1) (setG G { lastG G with f0 := (lastG G).f0 ++ [⟨(lowL nm.data.toList).toArray⟩] }, true) := by
    intro G hG hl ha
    refine ⟨by simp [setG]; exact hl, fun y hy => ?_, fun _ => ?_⟩
    · rcases mem_setG hy with rfl | hy
      · have := lastG_f0 ha; simp; omega
      · have := ha y hy; omega
    · intro e
      have := congrArg List.length e
      simp [setG] at this
      exact hG this
  unfold agentG
  by_cases ho : st.2 = true
  · rw [if_pos ho]
    exact key _ (h.op ho) (by have := h.len; omega) h.ags
  · rw [if_neg ho]
    refine key _ (by simp) (by have := h.len; simp; omega) ?_
    intro x hx
    rcases List.mem_append.mp hx with hx | hx
    · exact h.ags x hx
    · obtain rfl := List.mem_singleton.mp hx; exact Nat.zero_le _
theorem Mk.far {W0 w : World} {m b : Nat} {gs : List S86} {op : Bool} {v : Value} {cs : Array Value} (h : Mk W0 m gs op v w) (hb : w.heap[b]? = some (.cells cs 35 (0, 0))) (hB : W0.heap.size ≤ b) (j : Nat) (u : Value) : Mk W0 m gs op v (w.setCell ⟨b, j, none⟩ u) := by
  refine ⟨blk_far h.box (p := ⟨b, j, none⟩) ?_ u, h.base, Kd.S_set h.row hb (by decide) j u, below_set h.below hB⟩
  rintro rfl
  rw [h.box] at hb
  simp at hb

set_option maxHeartbeats 8000000 in
set_option maxRecDepth 1000000 in
theorem lines_Groups.calls (A0 : Option Addr) (c0 : Nat) (l0 : List S35) (r : List S86) (w : World) (hr0 : Kd.C k35 w A0 l0.length l0) (hc0 : l0.length ≤ c0) (h : lines_Groups.f l0 = some r) (hS_ : Shp w) :
    Calls Tryd.prog 17 #[.slice A0 l0.length c0] w fun e w' => ∃ v0_ : Value, e = .returned v0_ ∧ Kd.S k86 86 w' w.heap.size (fun _ => True) v0_ r ∧ Below w.heap.size w w' := by
  unfold lines_Groups.f at h
  split at h
  case isFalse => cases h
  rename_i hc
  obtain ⟨hl, hv⟩ := hc
  have hfin := Aside0.mk (Option.some.inj h)
  have HSH := Aside0.mk hS_
  have HR0 := Aside0.mk hr0
  have HV := Aside0.mk hv
  clear h hS_ hr0 hc0 hv
  go_enter Tryd.func17, Tryd.ntmps17
  go_wp2_with (first | ((with_reducible refine gate_dst (N := 7) rfl ?_); refine box_event ?hg (N := 7) ?hd (cs := #[.slice none 0 0, .bool false]) (t := 67) ?hr ?_; (case hd => rfl); (case hg => rfl); (case hr => first | (go_simp; done) | (go_simp; rfl)); intro m hm w1 hbox hb; subst hm; have HM := Aside0.mk (Mk.mk hbox (Nat.le_refl _) (Kd.S_nil k86 86 w1 w.heap.size (fun _ => True)) hb); clear hbox hb))
  go_loopw [10] (fun v10 wr => ∃ (i : Nat) (st : List S86 × Bool) (v : Value), v10 = .int .i64 i ∧ i ≤ l0.length ∧ Hid (InvG i st) ∧ Aside0 (((l0.drop i).foldl stepG st).1 = r) ∧ Aside0 (Mk w w.heap.size st.1 st.2 v wr)) (fun v10 wr => l0.length - (intOf v10).toNat)
  case atStart => exact ⟨0, ([], false), _, rfl, by omega, ⟨Nat.le_refl _, by simp, by simp⟩, hfin, HM⟩
  case round =>
    clear HM hfin
    obtain ⟨i, ⟨gs, op⟩, v, rfl, hi, hinv, hF, HM⟩ := hrel
    simp only at HM
    by_cases hlt : i < l0.length
    · have hlt' : ((i : Int) < (l0.length : Int)) = True := eq_true (by omega)
      obtain ⟨ad, rfl, hx0, hx1⟩ := at_T35 HR0.out (i : Int) (by omega) (by omega)
      have hrd : rd_T35 l0 (i : Int) = l0[i] := by simp [rd_T35, hlt]
      rw [hrd, Int.toNat_natCast] at hx0 hx1
      have hx0 := (HM.out.below.cell (World.block_lt_of_cell? w _ hx0)).trans hx0
      have hx1 := (HM.out.below.cell (World.block_lt_of_cell? w _ hx1)).trans hx1
      have hsz : Hid (l0[i].f1.size < 4294967281) := HV.out _ (List.getElem_mem hlt)
      have hF2 := hF.out
      rw [List.drop_eq_getElem_cons hlt, List.foldl_cons] at hF2
      have hF2 := Aside0.mk hF2
      obtain ⟨l, hl0⟩ : ∃ l, l = l0[i] := ⟨_, rfl⟩
      rw [← hl0] at hx0 hx1 hsz hF2
      obtain ⟨kk, vv⟩ := l
      simp only at hx0 hx1 hsz
      clear hF hrd hl0
      go_upto_region 5 with (first | ((with_reducible refine gate_dst (N := 5) rfl ?_); refine box_event ?hg (N := 5) ?hd (cs := #[.string (⟨#[]⟩ : ByteArray), .string (⟨#[]⟩ : ByteArray)]) (t := 35) ?hr ?_; (case hd => rfl); (case hg => rfl); (case hr => first | (go_simp; done) | (go_simp; rfl)); intro b5 hb5 w2 hbox hb; have HM2 := Aside0.mk (HM.out.step hb); have Hbx := Aside0.mk hbox; have hf50 := blk_frozen hbox 0; have hf51 := blk_frozen hbox 1; have hz0 := blk_cell hbox 0; have hz1 := blk_cell hbox 1; simp only [List.getElem?_toArray, List.getElem?_cons_zero, List.getElem?_cons_succ] at hz0 hz1; have hlb := Aside0.mk (by rw [hb5]; exact HM.out.below.size : w.heap.size ≤ b5); clear hbox hb hb5))
      have HM3 := Aside0.mk (Mk.far (Mk.far HM2.out Hbx.out hlb.out 0 (.string kk)) (blk_put Hbx.out 0 (.string kk) rfl) hlb.out 1 (.string vv))
      have Hb3 := Aside0.mk (show ((w2.setCell { block := b5, off := 0 } (Value.string kk)).setCell { block := b5, off := 1 } (Value.string vv)).heap[b5]? = some (Obj.cells #[.string kk, .string vv] 35 (0, 0)) from blk_put (blk_put Hbx.out 0 (.string kk) rfl) 1 (.string vv) rfl)
      clear HM HM2 Hbx hf50 hf51 hz0 hz1
      generalize ((w2.setCell { block := b5, off := 0 } (Value.string kk)).setCell { block := b5, off := 1 } (Value.string vv)) = w3 at *
      have hk0 : w3.cell? ⟨b5, 0, none⟩ = some (.string kk) := blk_cell Hb3.out 0
      have hk1 : w3.cell? ⟨b5, 1, none⟩ = some (.string vv) := blk_cell Hb3.out 1
      by_cases hk : (kk.toList == sAgent) = true
      · have hk' : (kk.toList == [117, 115, 101, 114, 45, 97, 103, 101, 110, 116]) = true := hk
        have hstep : stepG (gs, op) ⟨kk, vv⟩ = (agentG gs op vv, true) := by simp only [stepG]; exact if_pos hk
        rw [hstep] at hF2
        have hle : Aside0 (vv.size ≤ 140737488351232 ∧ gs.length < 1000000 ∧ (∀ x ∈ gs, x.f0.length < 1000000) ∧ (op = true → gs ≠ [])) := ⟨⟨by have h1 := hsz.out; omega, by have h1 : gs.length ≤ i := hinv.out.len; omega, fun x hx => by have h1 : x.f0.length ≤ i := hinv.out.ags x hx; omega, hinv.out.op⟩⟩
        have hinv : Hid (InvG (i + 1) (agentG gs op vv, true)) := InvG.agent hinv.out vv
        go_wp2_with (first
          | ((with_reducible refine gate_callee (f := 31) rfl ?_); refine goesL_ (some 20) rfl rfl Tryd.func31 (by kernel_rfl) rfl #[.pointer (some ⟨w.heap.size, 0, none⟩), .string vv] rfl (by (try simp only [List.map_toArray, List.map_cons, List.map_nil]); first | done | rfl) ?_; (with_reducible refine (agent_calls w _ w.heap.size gs op v vv HM3.out hle.out.1 hle.out.2.1 hle.out.2.2.1 hle.out.2.2.2).mono ?_); rintro e w4 ⟨rfl, v', HM4⟩; refine ⟨_, rfl, ?_⟩; have HM4 := Aside0.mk HM4; clear HM3 Hb3 hk0 hk1))
        go_roundw
        case rel => exact ⟨i + 1, (agentG gs op vv, true), v', by go_num, by omega, hinv, hF2, HM4⟩
        case measure => simp [intOf]; omega
      · have hk' : (kk.toList == [117, 115, 101, 114, 45, 97, 103, 101, 110, 116]) = false := by cases h : (kk.toList == [117, 115, 101, 114, 45, 97, 103, 101, 110, 116]); rfl; exact absurd h hk
        have hstep : stepG (gs, op) ⟨kk, vv⟩ = addG gs op ⟨kk, vv⟩ := by simp only [stepG]; exact if_neg hk
        rw [hstep] at hF2
        have hle : Aside0 (gs.length < 1000000) := ⟨by have h1 : gs.length ≤ i := hinv.out.len; omega⟩
        have hinv : Hid (InvG (i + 1) (addG gs op ⟨kk, vv⟩)) := InvG.add hinv.out ⟨kk, vv⟩
        go_wp2_with (first
          | ((with_reducible refine gate_callee (f := 32) rfl ?_); refine goesL_ (some 23) rfl rfl Tryd.func32 (by kernel_rfl) rfl #[.pointer (some ⟨w.heap.size, 0, none⟩), .agg #[.string kk, .string vv]] rfl (by (try simp only [List.map_toArray, List.map_cons, List.map_nil]); first | done | rfl) ?_; (with_reducible refine (add_calls w _ w.heap.size gs op v ⟨kk, vv⟩ HM3.out hsz.out hle.out HSH.out).mono ?_); rintro e w4 ⟨rfl, HM4⟩; refine ⟨_, rfl, ?_⟩; have HM4 := Aside0.mk HM4; clear HM3 Hb3 hk0 hk1))
        go_roundw
        case rel => exact ⟨i + 1, addG gs op ⟨kk, vv⟩, v, by go_num, by omega, hinv, hF2, HM4⟩
        case measure => simp [intOf]; omega
    · have hlt' : ((i : Int) < (l0.length : Int)) = False := eq_false (by omega)
      obtain rfl : i = l0.length := by omega
      have hr := hF.out
      rw [List.drop_length, List.foldl_nil] at hr
      simp only at hr
      subst hr
      have hc0 := blk_cell HM.out.box 0
      simp only [List.getElem?_toArray, List.getElem?_cons_zero] at hc0
      clear hF
      go_wp2
      go_ret
      exact ⟨_, rfl, HM.out.row, HM.out.below⟩
end Go.Proofs.YtdnaddignhjihaaDoor.Given
namespace Go.Proofs.YtdnaddignhjihaaDoor.QBase
open Go.Proofs.YtdnaddignhjihaaDoor.Given
open Go.RowKit Go.Proofs.YtdnaddignhjihaaDoorW.PrintWords Go.Proofs.YtdnaddignhjihaaDoorW.PrintLast Go.Proofs.YtdnaddignhjihaaDoorW.PrintMore
attribute [local go_sem] max2_int min2_int max_two min_two max_three min_three max_four min_four   -- for this text's walks alone
set_option linter.unusedVariables false
set_option linter.unusedSimpArgs false
mutual
def decorumref09_Delay.l0 : Nat → ByteArray → Int → Int → Int → Int → Int → Option (Int × Bool)
  | 0, _, _, _, _, _, _ => none
  | k + 1, x0, x4, x5, x6, x7, x8 => if x8 < (x0.size : Int) then (if 0 ≤ x8 then (if (bt x0 x8) = 46 then (decorumref09_Delay.j1 k x0 x4 x5 x6 x7 x8 (bt x0 x8) (x6 == 0)) else (decorumref09_Delay.j1 k x0 x4 x5 x6 x7 x8 (bt x0 x8) false)) else (none)) else (if (wrap64 (x5 + x7)) > 0 then (if x6 = 0 then (some (x4, true)) else (some (x4, decide (x7 > 0)))) else (some (x4, false)))
def decorumref09_Delay.j1 : Nat → ByteArray → Int → Int → Int → Int → Int → Int → Bool → Option (Int × Bool)
  | 0, _, _, _, _, _, _, _, _ => none
  | k + 1, x0, x4, x5, x6, x7, x8, x9, x44 => if x44 = true then (decorumref09_Delay.l0 k x0 x4 x5 1 x7 (wrap64 (x8 + 1))) else (if x9 < 48 then (decorumref09_Delay.j2 k x0 x4 x5 x6 x7 x8 x9 true) else (decorumref09_Delay.j2 k x0 x4 x5 x6 x7 x8 x9 (decide (x9 > 57))))
def decorumref09_Delay.j2 : Nat → ByteArray → Int → Int → Int → Int → Int → Int → Bool → Option (Int × Bool)
  | 0, _, _, _, _, _, _, _, _ => none
  | k + 1, x0, x4, x5, x6, x7, x8, x9, x51 => if x51 = true then (some (0, false)) else (if x6 = 0 then (if (wrap64 (x5 + 1)) > 9 then (some (0, false)) else (decorumref09_Delay.l0 k x0 (wrap64 ((wrap64 (10 * x4)) + (1000 * ((x9 - 48) % 256)))) (wrap64 (x5 + 1)) x6 x7 (wrap64 (x8 + 1)))) else (if (wrap64 (x7 + 1)) = 1 then (decorumref09_Delay.j3 k x0 (wrap64 (x4 + (100 * ((x9 - 48) % 256)))) x5 x6 (wrap64 (x7 + 1)) x8 x9) else (decorumref09_Delay.j3 k x0 x4 x5 x6 (wrap64 (x7 + 1)) x8 x9)))
def decorumref09_Delay.j3 : Nat → ByteArray → Int → Int → Int → Int → Int → Int → Option (Int × Bool)
  | 0, _, _, _, _, _, _, _ => none
  | k + 1, x0, x4, x5, x6, x7, x8, x9 => if x7 = 2 then (if x7 = 3 then (decorumref09_Delay.l0 k x0 (wrap64 ((wrap64 (x4 + (10 * ((x9 - 48) % 256)))) + ((x9 - 48) % 256))) x5 x6 x7 (wrap64 (x8 + 1))) else (decorumref09_Delay.l0 k x0 (wrap64 (x4 + (10 * ((x9 - 48) % 256)))) x5 x6 x7 (wrap64 (x8 + 1)))) else (if x7 = 3 then (decorumref09_Delay.l0 k x0 (wrap64 (x4 + ((x9 - 48) % 256))) x5 x6 x7 (wrap64 (x8 + 1))) else (decorumref09_Delay.l0 k x0 x4 x5 x6 x7 (wrap64 (x8 + 1))))
end
def decorumref09_Delay.f (k : Nat) (a0 : ByteArray) : Option (Int × Bool) := decorumref09_Delay.l0 k a0 0 0 0 0 0
set_option maxHeartbeats 8000000 in
set_option maxRecDepth 100000 in
theorem decorumref09_Delay.calls (k : Nat) (a0 : ByteArray) (r1 : Int) (r2 : Bool) (w : World) (h : decorumref09_Delay.f k a0 = some (r1, r2)) :
    Calls Tryd.prog 33 #[.string a0] w fun e w' => e = .returned (.tuple #[.int .i64 r1, .bool r2]) ∧ Drawn0 w w' := by
  have H : (decorumref09_Delay.l0 k a0 0 0 0 0 0) = some (r1, r2) := h
  clear h
  have H' := Aside0.mk H
  clear H
  go_enter Tryd.func33, Tryd.ntmps33
  go_wp2
  go_loopg [4, 5, 6, 7, 8] k (fun kq v4 v5 v6 v7 v8 w' => ∃ (x4_1 : Int) (x5_1 : Int) (x6_1 : Int) (x7_1 : Int) (x8_1 : Int), v4 = .int .i64 x4_1 ∧ v5 = .int .i64 x5_1 ∧ v6 = .int .i64 x6_1 ∧ v7 = .int .i64 x7_1 ∧ v8 = .int .i64 x8_1 ∧ Aside0 (decorumref09_Delay.l0 kq a0 x4_1 x5_1 x6_1 x7_1 x8_1 = some (r1, r2)) ∧ Aside0 (kq ≤ k) ∧ Drawn0 w w')
  case atStart => exact ⟨(0), (0), (0), (0), (0), (by first | rfl | (simp; done) | (simp [*]; done)), (by first | rfl | (simp; done) | (simp [*]; done)), (by first | rfl | (simp; done) | (simp [*]; done)), (by first | rfl | (simp; done) | (simp [*]; done)), (by first | rfl | (simp; done) | (simp [*]; done)), H', ⟨Nat.le_refl _⟩, by repeat (first | exact Drawn0.refl _ | apply Drawn0.step)⟩
  case round =>
    clear H'
    obtain ⟨x4_1, x5_1, x6_1, x7_1, x8_1, rfl, rfl, rfl, rfl, rfl, HA, HK1, ⟨m1, rfl⟩⟩ := hrel
    cases gk with
    | zero => exact absurd HA.out (by simp [decorumref09_Delay.l0])
    | succ k1 =>
      have H := HA.out
      clear HA
      simp only [decorumref09_Delay.l0] at H
      by_cases c2 : x8_1 < (a0.size : Int)
      · rw [if_pos c2] at H
        have c2b0 : decide (x8_1 < (a0.size : Int)) = true := decide_eq_true c2
        clear c2
        by_cases c3 : 0 ≤ x8_1
        · rw [if_pos c3] at H
          have c3b0 : decide (0 ≤ x8_1) = true := decide_eq_true c3
          clear c3
          have HC5 := Aside0.mk H
          clear H
          have p4 : 0 ≤ (x8_1 : Int) := of_decide_eq_true (by first | (with_reducible assumption) | assumption)
          have q4 : x8_1 < (a0.size : Int) := of_decide_eq_true (by first | (with_reducible assumption) | assumption)
          have hx4 := bt_at a0 x8_1
          replace p4 := eq_true p4
          replace q4 := eq_true q4
          go_upto_region 13 with (fail)
          go_cut [44] (fun v44 wc => ∃ (kq : Nat) (x44_4 : Bool), v44 = .bool x44_4 ∧ Aside0 (decorumref09_Delay.j1 kq a0 x4_1 x5_1 x6_1 x7_1 x8_1 (bt a0 x8_1) x44_4 = some (r1, r2)) ∧ Aside0 (kq ≤ k1) ∧ Drawn0 w wc)
          case first =>
            have H := HC5.out
            clear HC5
            by_cases c6 : (bt a0 x8_1) = 46
            · rw [if_pos c6] at H
              have c6b0 : ((bt a0 x8_1) == 46) = true := beq_iff_eq.mpr c6
              have c6b1 : ((bt a0 x8_1) != 46) = false := bne_eq_false_iff_eq.mpr c6
              clear c6
              (first | rw [c6b0] | (simp only [i64_w, i32_w]; rw [c6b0]) | skip)
              have H' := Aside0.mk H
              clear H
              go_wp2
              go_meet
              case rel => exact ⟨_, ((x6_1 == 0)), (by first | rfl | (simp; done) | (simp [*]; done)), H', ⟨by have := HK1.out; first | omega | exact Nat.le_refl _⟩, by repeat (first | exact Drawn0.refl _ | apply Drawn0.step)⟩
            · rw [if_neg c6] at H
              have c6b0 : ((bt a0 x8_1) == 46) = false := beq_eq_false_iff_ne.mpr c6
              have c6b1 : ((bt a0 x8_1) != 46) = true := bne_iff_ne.mpr c6
              (first | rw [c6b0] | (simp only [i64_w, i32_w]; rw [c6b0]) | skip)
              have H' := Aside0.mk H
              clear H
              go_wp2
              go_meet
              case rel => exact ⟨_, (false), (by first | rfl | (simp; done) | (simp [*]; done)), H', ⟨by have := HK1.out; first | omega | exact Nat.le_refl _⟩, by repeat (first | exact Drawn0.refl _ | apply Drawn0.step)⟩
          case rest =>
            clear HC5
            try clear c2
            try clear c2b0
            try clear p2
            try clear c3
            try clear c3b0
            try clear p4
            try clear q4
            try clear hx4
            try clear c6
            try clear c6b0
            try clear c6b1
            try clear p4
            try clear q4
            obtain ⟨kq, x44_4, rfl, HA, HJ4, ⟨mc4, rfl⟩⟩ := hcut
            cases kq with
            | zero => exact absurd HA.out (by simp [decorumref09_Delay.j1])
            | succ kj4 =>
              have H := HA.out
              clear HA
              simp only [decorumref09_Delay.j1] at H
              by_cases c7 : x44_4 = true
              · subst c7
                have H1 : (decorumref09_Delay.l0 kj4 a0 x4_1 x5_1 1 x7_1 (wrap64 (x8_1 + 1))) = some (r1, r2) := by rw [if_pos rfl] at H; exact H
                clear H
                have H := H1
                clear H1
                have H' := Aside0.mk H
                clear H
                go_wp2
                go_roundg kj4
                case measure => have := HK1.out; have := HJ4.out; omega
                case rel => exact ⟨(x4_1), (x5_1), (1), (x7_1), (wrap64 (x8_1 + 1)), (by first | rfl | (simp; done) | (simp [*]; done)), (by first | rfl | (simp; done) | (simp [*]; done)), (by first | rfl | (simp; done) | (simp [*]; done)), (by first | rfl | (simp; done) | (simp [*]; done)), (by first | rfl | (simp; done) | (simp [*]; done)), H', ⟨by have := HK1.out; have := HJ4.out; omega⟩, by repeat (first | exact Drawn0.refl _ | apply Drawn0.step)⟩
              · replace c7 := Bool.eq_false_iff.mpr c7
                subst c7
                have H1 : (if (bt a0 x8_1) < 48 then (decorumref09_Delay.j2 kj4 a0 x4_1 x5_1 x6_1 x7_1 x8_1 (bt a0 x8_1) true) else (decorumref09_Delay.j2 kj4 a0 x4_1 x5_1 x6_1 x7_1 x8_1 (bt a0 x8_1) (decide ((bt a0 x8_1) > 57)))) = some (r1, r2) := by rw [if_neg (show ¬ (false = true) by decide)] at H; exact H
                clear H
                have H := H1
                clear H1
                have HC8 := Aside0.mk H
                clear H
                go_upto_region 15 with (fail)
                go_cut [51] (fun v51 wc => ∃ (kq : Nat) (x51_7 : Bool), v51 = .bool x51_7 ∧ Aside0 (decorumref09_Delay.j2 kq a0 x4_1 x5_1 x6_1 x7_1 x8_1 (bt a0 x8_1) x51_7 = some (r1, r2)) ∧ Aside0 (kq ≤ kj4) ∧ Drawn0 w wc)
                case first =>
                  have H := HC8.out
                  clear HC8
                  by_cases c9 : (bt a0 x8_1) < 48
                  · rw [if_pos c9] at H
                    have c9b0 : decide ((bt a0 x8_1) < 48) = true := decide_eq_true c9
                    clear c9
                    (first | rw [c9b0] | (simp only [i64_w, i32_w]; rw [c9b0]) | skip)
                    have H' := Aside0.mk H
                    clear H
                    go_wp2
                    go_meet
                    case rel => exact ⟨_, (true), (by first | rfl | (simp; done) | (simp [*]; done)), H', ⟨by have := HK1.out; have := HJ4.out; first | omega | exact Nat.le_refl _⟩, by repeat (first | exact Drawn0.refl _ | apply Drawn0.step)⟩
                  · rw [if_neg c9] at H
                    have c9b0 : decide ((bt a0 x8_1) < 48) = false := decide_eq_false c9
                    clear c9
                    (first | rw [c9b0] | (simp only [i64_w, i32_w]; rw [c9b0]) | skip)
                    have H' := Aside0.mk H
                    clear H
                    go_wp2
                    go_meet
                    case rel => exact ⟨_, (decide ((bt a0 x8_1) > 57)), (by first | rfl | (simp; done) | (simp [*]; done)), H', ⟨by have := HK1.out; have := HJ4.out; first | omega | exact Nat.le_refl _⟩, by repeat (first | exact Drawn0.refl _ | apply Drawn0.step)⟩
                case rest =>
                  clear HC8
                  try clear c2
                  try clear c2b0
                  try clear p2
                  try clear c3
                  try clear c3b0
                  try clear c4
                  try clear p4
                  try clear q4
                  try clear hx4
                  try clear c6
                  try clear c6b0
                  try clear c6b1
                  try clear p6
                  try clear c7
                  try clear c9
                  try clear c9b0
                  try clear p2
                  try clear p4
                  try clear q4
                  obtain ⟨kq, x51_7, rfl, HA, HJ7, ⟨mc7, rfl⟩⟩ := hcut
                  cases kq with
                  | zero => exact absurd HA.out (by simp [decorumref09_Delay.j2])
                  | succ kj7 =>
                    have H := HA.out
                    clear HA
                    simp only [decorumref09_Delay.j2] at H
                    by_cases c10 : x51_7 = true
                    · subst c10
                      have H1 : (some (0, false)) = some (r1, r2) := by rw [if_pos rfl] at H; exact H
                      clear H
                      have H := H1
                      clear H1
                      simp only [Option.some.injEq, Prod.mk.injEq] at H
                      obtain ⟨rfl, rfl⟩ := H
                      go_wp2
                      go_ret2
                      exact ⟨by first | rfl | (simp; done) | (simp [*]; done), by repeat (first | exact Drawn0.refl _ | apply Drawn0.step)⟩
                    · replace c10 := Bool.eq_false_iff.mpr c10
                      subst c10
                      have H1 : (if x6_1 = 0 then (if (wrap64 (x5_1 + 1)) > 9 then (some (0, false)) else (decorumref09_Delay.l0 kj7 a0 (wrap64 ((wrap64 (10 * x4_1)) + (1000 * (((bt a0 x8_1) - 48) % 256)))) (wrap64 (x5_1 + 1)) x6_1 x7_1 (wrap64 (x8_1 + 1)))) else (if (wrap64 (x7_1 + 1)) = 1 then (decorumref09_Delay.j3 kj7 a0 (wrap64 (x4_1 + (100 * (((bt a0 x8_1) - 48) % 256)))) x5_1 x6_1 (wrap64 (x7_1 + 1)) x8_1 (bt a0 x8_1)) else (decorumref09_Delay.j3 kj7 a0 x4_1 x5_1 x6_1 (wrap64 (x7_1 + 1)) x8_1 (bt a0 x8_1)))) = some (r1, r2) := by rw [if_neg (show ¬ (false = true) by decide)] at H; exact H
                      clear H
                      have H := H1
                      clear H1
                      by_cases c11 : x6_1 = 0
                      · rw [if_pos c11] at H
                        have c11b0 : (x6_1 == 0) = true := beq_iff_eq.mpr c11
                        have c11b1 : (x6_1 != 0) = false := bne_eq_false_iff_eq.mpr c11
                        clear c11
                        by_cases c12 : (wrap64 (x5_1 + 1)) > 9
                        · rw [if_pos c12] at H
                          have c12b0 : decide (9 < (wrap64 (x5_1 + 1))) = true := decide_eq_true c12
                          clear c12
                          simp only [Option.some.injEq, Prod.mk.injEq] at H
                          obtain ⟨rfl, rfl⟩ := H
                          go_wp2
                          go_ret2
                          exact ⟨by first | rfl | (simp; done) | (simp [*]; done), by repeat (first | exact Drawn0.refl _ | apply Drawn0.step)⟩
                        · rw [if_neg c12] at H
                          have c12b0 : decide (9 < (wrap64 (x5_1 + 1))) = false := decide_eq_false c12
                          clear c12
                          have H' := Aside0.mk H
                          clear H
                          go_wp2
                          go_roundg kj7
                          case measure => have := HK1.out; have := HJ4.out; have := HJ7.out; omega
                          case rel => exact ⟨(wrap64 ((wrap64 (10 * x4_1)) + (1000 * (((bt a0 x8_1) - 48) % 256)))), (wrap64 (x5_1 + 1)), (x6_1), (x7_1), (wrap64 (x8_1 + 1)), (by first | rfl | (simp; done) | (simp [*]; done)), (by first | rfl | (simp; done) | (simp [*]; done)), (by first | rfl | (simp; done) | (simp [*]; done)), (by first | rfl | (simp; done) | (simp [*]; done)), (by first | rfl | (simp; done) | (simp [*]; done)), H', ⟨by have := HK1.out; have := HJ4.out; have := HJ7.out; omega⟩, by repeat (first | exact Drawn0.refl _ | apply Drawn0.step)⟩
                      · rw [if_neg c11] at H
                        have c11b0 : (x6_1 == 0) = false := beq_eq_false_iff_ne.mpr c11
                        have c11b1 : (x6_1 != 0) = true := bne_iff_ne.mpr c11
                        have HC13 := Aside0.mk H
                        clear H
                        go_upto_if 22 with (fail)
                        go_cut [4] (fun v4 wc => ∃ (kq : Nat) (x4_12 : Int), v4 = .int .i64 x4_12 ∧ Aside0 (decorumref09_Delay.j3 kq a0 x4_12 x5_1 x6_1 (wrap64 (x7_1 + 1)) x8_1 (bt a0 x8_1) = some (r1, r2)) ∧ Aside0 (kq ≤ kj7) ∧ Drawn0 w wc)
                        case first =>
                          have H := HC13.out
                          clear HC13
                          by_cases c14 : (wrap64 (x7_1 + 1)) = 1
                          · rw [if_pos c14] at H
                            have c14b0 : ((wrap64 (x7_1 + 1)) == 1) = true := beq_iff_eq.mpr c14
                            have c14b1 : ((wrap64 (x7_1 + 1)) != 1) = false := bne_eq_false_iff_eq.mpr c14
                            clear c14
                            (first | rw [c14b0] | (simp only [i64_w, i32_w]; rw [c14b0]) | skip)
                            have H' := Aside0.mk H
                            clear H
                            go_wp2
                            go_meet
                            case rel => exact ⟨_, (wrap64 (x4_1 + (100 * (((bt a0 x8_1) - 48) % 256)))), (by first | rfl | (simp; done) | (simp [*]; done)), H', ⟨by have := HK1.out; have := HJ4.out; have := HJ7.out; first | omega | exact Nat.le_refl _⟩, by repeat (first | exact Drawn0.refl _ | apply Drawn0.step)⟩
                          · rw [if_neg c14] at H
                            have c14b0 : ((wrap64 (x7_1 + 1)) == 1) = false := beq_eq_false_iff_ne.mpr c14
                            have c14b1 : ((wrap64 (x7_1 + 1)) != 1) = true := bne_iff_ne.mpr c14
                            (first | rw [c14b0] | (simp only [i64_w, i32_w]; rw [c14b0]) | skip)
                            have H' := Aside0.mk H
                            clear H
                            go_wp2
                            go_meet
                            case rel => exact ⟨_, (x4_1), (by first | rfl | (simp; done) | (simp [*]; done)), H', ⟨by have := HK1.out; have := HJ4.out; have := HJ7.out; first | omega | exact Nat.le_refl _⟩, by repeat (first | exact Drawn0.refl _ | apply Drawn0.step)⟩
                        case rest =>
                          clear HC13
                          try clear c1
                          try clear c2
                          try clear c2b0
                          try clear p2
                          try clear c3
                          try clear c3b0
                          try clear c4
                          try clear p4
                          try clear q4
                          try clear hx4
                          try clear c6
                          try clear c6b0
                          try clear c6b1
                          try clear p6
                          try clear c7
                          try clear c9
                          try clear c9b0
                          try clear c10
                          try clear c11
                          try clear c11b0
                          try clear c11b1
                          try clear c12
                          try clear c12b0
                          try clear c14
                          try clear c14b0
                          try clear c14b1
                          try clear p2
                          try clear p4
                          try clear p6
                          try clear q4
                          obtain ⟨kq, x4_12, rfl, HA, HJ12, ⟨mc12, rfl⟩⟩ := hcut
                          cases kq with
                          | zero => exact absurd HA.out (by simp [decorumref09_Delay.j3])
                          | succ kj12 =>
                            have H := HA.out
                            clear HA
                            simp only [decorumref09_Delay.j3] at H
                            by_cases c15 : (wrap64 (x7_1 + 1)) = 2
                            · rw [if_pos c15] at H
                              have c15b0 : ((wrap64 (x7_1 + 1)) == 2) = true := beq_iff_eq.mpr c15
                              have c15b1 : ((wrap64 (x7_1 + 1)) != 2) = false := bne_eq_false_iff_eq.mpr c15
                              clear c15
                              by_cases c16 : (wrap64 (x7_1 + 1)) = 3
                              · rw [if_pos c16] at H
                                have c16b0 : ((wrap64 (x7_1 + 1)) == 3) = true := beq_iff_eq.mpr c16
                                have c16b1 : ((wrap64 (x7_1 + 1)) != 3) = false := bne_eq_false_iff_eq.mpr c16
                                clear c16
                                have H' := Aside0.mk H
                                clear H
                                go_wp2
                                go_roundg kj12
                                case measure => have := HK1.out; have := HJ4.out; have := HJ7.out; have := HJ12.out; omega
                                case rel => exact ⟨(wrap64 ((wrap64 (x4_12 + (10 * (((bt a0 x8_1) - 48) % 256)))) + (((bt a0 x8_1) - 48) % 256))), (x5_1), (x6_1), ((wrap64 (x7_1 + 1))), (wrap64 (x8_1 + 1)), (by first | rfl | (simp; done) | (simp [*]; done)), (by first | rfl | (simp; done) | (simp [*]; done)), (by first | rfl | (simp; done) | (simp [*]; done)), (by first | rfl | (simp; done) | (simp [*]; done)), (by first | rfl | (simp; done) | (simp [*]; done)), H', ⟨by have := HK1.out; have := HJ4.out; have := HJ7.out; have := HJ12.out; omega⟩, by repeat (first | exact Drawn0.refl _ | apply Drawn0.step)⟩
                              · rw [if_neg c16] at H
                                have c16b0 : ((wrap64 (x7_1 + 1)) == 3) = false := beq_eq_false_iff_ne.mpr c16
                                have c16b1 : ((wrap64 (x7_1 + 1)) != 3) = true := bne_iff_ne.mpr c16
                                have H' := Aside0.mk H
                                clear H
                                go_wp2
                                go_roundg kj12
                                case measure => have := HK1.out; have := HJ4.out; have := HJ7.out; have := HJ12.out; omega
                                case rel => exact ⟨(wrap64 (x4_12 + (10 * (((bt a0 x8_1) - 48) % 256)))), (x5_1), (x6_1), ((wrap64 (x7_1 + 1))), (wrap64 (x8_1 + 1)), (by first | rfl | (simp; done) | (simp [*]; done)), (by first | rfl | (simp; done) | (simp [*]; done)), (by first | rfl | (simp; done) | (simp [*]; done)), (by first | rfl | (simp; done) | (simp [*]; done)), (by first | rfl | (simp; done) | (simp [*]; done)), H', ⟨by have := HK1.out; have := HJ4.out; have := HJ7.out; have := HJ12.out; omega⟩, by repeat (first | exact Drawn0.refl _ | apply Drawn0.step)⟩
                            · rw [if_neg c15] at H
                              have c15b0 : ((wrap64 (x7_1 + 1)) == 2) = false := beq_eq_false_iff_ne.mpr c15
                              have c15b1 : ((wrap64 (x7_1 + 1)) != 2) = true := bne_iff_ne.mpr c15
                              by_cases c17 : (wrap64 (x7_1 + 1)) = 3
                              · rw [if_pos c17] at H
                                have c17b0 : ((wrap64 (x7_1 + 1)) == 3) = true := beq_iff_eq.mpr c17
                                have c17b1 : ((wrap64 (x7_1 + 1)) != 3) = false := bne_eq_false_iff_eq.mpr c17
                                clear c17
                                have H' := Aside0.mk H
                                clear H
                                go_wp2
                                go_roundg kj12
                                case measure => have := HK1.out; have := HJ4.out; have := HJ7.out; have := HJ12.out; omega
                                case rel => exact ⟨(wrap64 (x4_12 + (((bt a0 x8_1) - 48) % 256))), (x5_1), (x6_1), ((wrap64 (x7_1 + 1))), (wrap64 (x8_1 + 1)), (by first | rfl | (simp; done) | (simp [*]; done)), (by first | rfl | (simp; done) | (simp [*]; done)), (by first | rfl | (simp; done) | (simp [*]; done)), (by first | rfl | (simp; done) | (simp [*]; done)), (by first | rfl | (simp; done) | (simp [*]; done)), H', ⟨by have := HK1.out; have := HJ4.out; have := HJ7.out; have := HJ12.out; omega⟩, by repeat (first | exact Drawn0.refl _ | apply Drawn0.step)⟩
                              · rw [if_neg c17] at H
                                have c17b0 : ((wrap64 (x7_1 + 1)) == 3) = false := beq_eq_false_iff_ne.mpr c17
                                have c17b1 : ((wrap64 (x7_1 + 1)) != 3) = true := bne_iff_ne.mpr c17
                                have H' := Aside0.mk H
                                clear H
                                go_wp2
                                go_roundg kj12
                                case measure => have := HK1.out; have := HJ4.out; have := HJ7.out; have := HJ12.out; omega
                                case rel => exact ⟨(x4_12), (x5_1), (x6_1), ((wrap64 (x7_1 + 1))), (wrap64 (x8_1 + 1)), (by first | rfl | (simp; done) | (simp [*]; done)), (by first | rfl | (simp; done) | (simp [*]; done)), (by first | rfl | (simp; done) | (simp [*]; done)), (by first | rfl | (simp; done) | (simp [*]; done)), (by first | rfl | (simp; done) | (simp [*]; done)), H', ⟨by have := HK1.out; have := HJ4.out; have := HJ7.out; have := HJ12.out; omega⟩, by repeat (first | exact Drawn0.refl _ | apply Drawn0.step)⟩
        · rw [if_neg c3] at H
          exact absurd H (by simp)
      · rw [if_neg c2] at H
        have c2b0 : decide (x8_1 < (a0.size : Int)) = false := decide_eq_false c2
        clear c2
        by_cases c18 : (wrap64 (x5_1 + x7_1)) > 0
        · rw [if_pos c18] at H
          have c18b0 : decide (0 < (wrap64 (x5_1 + x7_1))) = true := decide_eq_true c18
          clear c18
          by_cases c19 : x6_1 = 0
          · rw [if_pos c19] at H
            have c19b0 : (x6_1 == 0) = true := beq_iff_eq.mpr c19
            have c19b1 : (x6_1 != 0) = false := bne_eq_false_iff_eq.mpr c19
            clear c19
            simp only [Option.some.injEq, Prod.mk.injEq] at H
            obtain ⟨rfl, rfl⟩ := H
            go_wp2
            go_ret2
            exact ⟨by first | rfl | (simp; done) | (simp [*]; done), by repeat (first | exact Drawn0.refl _ | apply Drawn0.step)⟩
          · rw [if_neg c19] at H
            have c19b0 : (x6_1 == 0) = false := beq_eq_false_iff_ne.mpr c19
            have c19b1 : (x6_1 != 0) = true := bne_iff_ne.mpr c19
            simp only [Option.some.injEq, Prod.mk.injEq] at H
            obtain ⟨rfl, rfl⟩ := H
            go_wp2
            go_ret2
            exact ⟨by first | rfl | (simp; done) | (simp [*]; done), by repeat (first | exact Drawn0.refl _ | apply Drawn0.step)⟩
        · rw [if_neg c18] at H
          have c18b0 : decide (0 < (wrap64 (x5_1 + x7_1))) = false := decide_eq_false c18
          clear c18
          simp only [Option.some.injEq, Prod.mk.injEq] at H
          obtain ⟨rfl, rfl⟩ := H
          go_wp2
          go_ret2
          exact ⟨by first | rfl | (simp; done) | (simp [*]; done), by repeat (first | exact Drawn0.refl _ | apply Drawn0.step)⟩

end Go.Proofs.YtdnaddignhjihaaDoor.QBase
namespace Go.Proofs.YtdnaddignhjihaaDoor.Pure
open Go Go.RowKit Go.Proofs.YtdnaddignhjihaaDoor.QBase Go.Proofs.YtdnaddignhjihaaDoor.Given Go.Proofs.YtdnaddignhjihaaDoorW.PrintWords Go.Proofs.YtdnaddignhjihaaDoorW.PrintLast
set_option linter.unusedVariables false
theorem bt_drop {s : ByteArray} {i : Nat} {c : UInt8} {t : List UInt8} (h : s.data.toList.drop i = c :: t) : i < s.size ∧ bt s (i : Int) = (c.toNat : Int) ∧ s.data.toList.drop (i + 1) = t := by
  have hl : i < s.data.toList.length := by
    apply Decidable.byContradiction
    intro hh
    rw [List.drop_eq_nil_of_le (by omega)] at h
    cases h
  have hs : i < s.size := by rw [Lib.size_eq]; exact hl
  rw [List.drop_eq_getElem_cons hl] at h
  obtain ⟨h1, h2⟩ := List.cons.inj h
  refine ⟨hs, ?_, h2⟩
  rw [← bt_at s (i : Int) (by simpa using hs), ← h1]
  rfl
theorem drop_end {s : ByteArray} {i : Nat} (h : s.data.toList.drop i = []) (hi : i ≤ s.size) : i = s.size := by
  have := List.drop_eq_nil_iff.mp h
  rw [← Lib.size_eq] at this
  omega

/-- What a place behind the dot counts. -/
def unit (b : Nat) : Nat := if b = 0 then 100 else if b = 1 then 10 else if b = 2 then 1 else 0
def refL : List UInt8 → Nat → Nat → Bool → Nat → Nat × Bool
  | [], ms, g, d, b => (ms, decide (0 < g + b) && (!d || decide (0 < b)))
  | c :: t, ms, g, d, b =>
    if c = 46 ∧ d = false then refL t ms g true b
    else if digB c = false then (0, false)
    else if d = false then (if 9 ≤ g then (0, false) else refL t (10 * ms + 1000 * (c.toNat - 48)) (g + 1) d b)
    else refL t (ms + unit b * (c.toNat - 48)) g d (b + 1)

theorem u8_46 (c : UInt8) : ((c.toNat : Int) = 46) ↔ c = 46 := by
  constructor
  · intro h
    apply UInt8.toNat_inj.mp
    show c.toNat = 46
    omega
  · rintro rfl; rfl

theorem refD (s : ByteArray) (hs : s.size < 140737488351232) : ∀ (l : List UInt8) (i ms g : Nat) (d : Bool) (b k : Nat), s.data.toList.drop i = l → i ≤ s.size → g ≤ 9 → (ms + 1000 ≤ 1000 * 10 ^ g ∧ d = false ∧ b = 0 ∨ d = true ∧ ms < 1000000000000 + 900 * b) → b ≤ i → 4 * l.length + 1 ≤ k →
    decorumref09_Delay.l0 k s (ms : Int) (g : Int) (if d then 1 else 0) (b : Int) (i : Int) = some (((refL l ms g d b).1 : Int), (refL l ms g d b).2) := by
  intro l
  induction l with
  | nil =>
    intro i ms g d b k hd hi hg hm hb hk
    obtain ⟨k, rfl⟩ : ∃ k', k = k' + 1 := ⟨k - 1, by omega⟩
    have hi' := drop_end hd hi
    rw [decorumref09_Delay.l0, if_neg (by omega)]
    have hw : Aside0 (wrap64 ((g : Int) + b) = ((g + b : Nat) : Int)) := ⟨by simp only [wrap64]; omega⟩
    rw [hw.out, refL]
    cases d with
    | false =>
      by_cases hc : 0 < g + b
      · rw [if_pos (by omega)]
        simp [hc]
      · rw [if_neg (by omega)]
        simp [hc]
    | true =>
      by_cases hc : 0 < g + b
      · rw [if_pos (by omega), if_neg (by simp)]
        simp [hc]
      · rw [if_neg (by omega)]
        have : ¬ 0 < b := by omega
        simp [this]
  | cons c t ih =>
    intro i ms g d b k hd hi hg hm hb hk
    obtain ⟨h1, h2, h3⟩ := bt_drop hd
    rw [List.length_cons] at hk
    obtain ⟨k, rfl⟩ : ∃ k', k = k' + 4 := ⟨k - 4, by omega⟩
    have hwi : Aside0 (wrap64 ((i : Int) + 1) = ((i + 1 : Nat) : Int)) := ⟨by simp only [wrap64]; omega⟩
    have hcl := UInt8.toNat_lt c
    rw [decorumref09_Delay.l0, if_pos (by omega), if_pos (by omega), h2]
    have hpow : 10 ^ g ≤ 1000000000 := Nat.le_trans (Nat.pow_le_pow_right (by decide) hg) (by decide)
    have hps : 10 ^ (g + 1) = 10 ^ g * 10 := Nat.pow_succ ..
    generalize 10 ^ g = P at hpow hps hm
    -- the sign's own road
    have road : (c = 46 ∧ d = false → False) → decorumref09_Delay.j1 (k + 3) s ms g (if d then 1 else 0) b i (c.toNat : Int) false = some (((refL (c :: t) ms g d b).1 : Int), (refL (c :: t) ms g d b).2) := by
      intro hno
      rw [decorumref09_Delay.j1, if_neg (by decide), refL, if_neg hno]
      by_cases hlo : c.toNat < 48
      · have hdg : digB c = false := by simp [digB]; omega
        rw [if_pos (by omega), if_pos hdg, decorumref09_Delay.j2, if_pos rfl]
        rfl
      rw [if_neg (by omega)]
      by_cases hhi : 57 < c.toNat
      · have hdg : digB c = false := by simp [digB]; omega
        have : decide ((c.toNat : Int) > 57) = true := decide_eq_true (by omega)
        rw [this, if_pos hdg, decorumref09_Delay.j2, if_pos rfl]
        rfl
      have hdg : digB c = true := by simp [digB]; omega
      have : decide ((c.toNat : Int) > 57) = false := decide_eq_false (by omega)
      have hmod : ((c.toNat : Int) - 48) % 256 = ((c.toNat - 48 : Nat) : Int) := by omega
      rw [this, if_neg (show ¬ (digB c = false) by rw [hdg]; decide), decorumref09_Delay.j2, if_neg (by decide)]
      cases d with
      | false =>
        obtain ⟨hm1, rfl⟩ : ms + 1000 ≤ 1000 * P ∧ b = 0 := by
          rcases hm with ⟨a, _, c⟩ | ⟨a, _⟩
          · exact ⟨a, c⟩
          · cases a
        have hwg : Aside0 (wrap64 ((g : Int) + 1) = ((g + 1 : Nat) : Int)) := ⟨by simp only [wrap64]; omega⟩
        rw [if_pos (show (if false = true then (1 : Int) else 0) = 0 from rfl), if_pos (show false = false from rfl), hwg.out]
        by_cases h9 : 9 ≤ g
        · rw [if_pos (by omega), if_pos h9]
          rfl
        rw [if_neg (by omega), if_neg h9, hmod, hwi.out]
        have hw1 : Aside0 (wrap64 (10 * (ms : Int)) = ((10 * ms : Nat) : Int)) := ⟨by simp only [wrap64]; omega⟩
        have hw2 : Aside0 (wrap64 (((10 * ms : Nat) : Int) + 1000 * ((c.toNat - 48 : Nat) : Int)) = ((10 * ms + 1000 * (c.toNat - 48) : Nat) : Int)) := ⟨by simp only [wrap64]; omega⟩
        rw [hw1.out, hw2.out]
        have := ih (i + 1) (10 * ms + 1000 * (c.toNat - 48)) (g + 1) false 0 (k + 1) h3 (by omega) (by omega) (.inl ⟨by rw [hps]; omega, rfl, rfl⟩) (by omega) (by omega)
        exact this
      | true =>
        have hm1 : ms < 1000000000000 + 900 * b := by
          rcases hm with ⟨_, a, _⟩ | ⟨_, a⟩
          · cases a
          · exact a
        have hwb : Aside0 (wrap64 ((b : Int) + 1) = ((b + 1 : Nat) : Int)) := ⟨by simp only [wrap64]; omega⟩
        have hun : ∀ u : Nat, u ≤ 100 → Aside0 (wrap64 ((ms : Int) + (u : Int) * ((c.toNat - 48 : Nat) : Int)) = ((ms + u * (c.toNat - 48) : Nat) : Int)) := by
          intro u hu
          constructor
          have : u * (c.toNat - 48) ≤ 100 * 9 := Nat.mul_le_mul hu (by omega)
          rw [← Int.natCast_mul, ← Int.natCast_add]
          simp only [wrap64]; omega
        have hbnd : unit b * (c.toNat - 48) ≤ 900 := by
          have : unit b ≤ 100 := by unfold unit; repeat' split
                                    all_goals omega
          have := Nat.mul_le_mul this (show c.toNat - 48 ≤ 9 by omega)
          omega
        have key := ih (i + 1) (ms + unit b * (c.toNat - 48)) g true (b + 1) k h3 (by omega) hg (.inr ⟨rfl, by omega⟩) (by omega) (by omega)
        rw [if_neg (show ¬ ((if true = true then (1 : Int) else 0) = 0) by decide), if_neg (show ¬ (true = false) by decide), hwb.out, hmod]
        by_cases hb0 : b = 0
        · subst hb0
          rw [if_pos (by rfl), decorumref09_Delay.j3, if_neg (by decide), if_neg (by decide), hwi.out]
          have := (hun 100 (by omega)).out
          rw [show ((100 : Nat) : Int) = 100 from rfl] at this
          rw [this]
          rw [show unit 0 = 100 from rfl] at key ⊢
          exact key
        rw [if_neg (by omega), decorumref09_Delay.j3]
        rw [hmod, hwi.out]
        by_cases hb1 : b = 1
        · subst hb1
          rw [if_pos (by rfl), if_neg (by decide)]
          have := (hun 10 (by omega)).out
          rw [show ((10 : Nat) : Int) = 10 from rfl] at this
          rw [this]
          rw [show unit 1 = 10 from rfl] at key ⊢
          exact key
        rw [if_neg (by omega)]
        by_cases hb2 : b = 2
        · subst hb2
          rw [if_pos (by rfl)]
          have := (hun 1 (by omega)).out
          rw [show ((1 : Nat) : Int) = 1 from rfl, Int.one_mul] at this
          rw [this]
          rw [show unit 2 = 1 from rfl] at key ⊢
          exact key
        rw [if_neg (by omega)]
        have hu0 : unit b = 0 := by unfold unit; rw [if_neg hb0, if_neg hb1, if_neg hb2]
        rw [hu0, Nat.zero_mul, Nat.add_zero] at key
        rw [hu0, Nat.zero_mul, Nat.add_zero]
        exact key
    by_cases h46 : c = 46
    · rw [if_pos ((u8_46 c).mpr h46)]
      cases d with
      | false =>
        rw [show (((if false = true then (1 : Int) else 0)) == 0) = true from rfl, decorumref09_Delay.j1, if_pos rfl, hwi.out, refL, if_pos ⟨h46, rfl⟩]
        have hm1 : ms < 1000000000000 + 900 * b := by
          rcases hm with ⟨a, _, c⟩ | ⟨a, _⟩
          · omega
          · cases a
        exact ih (i + 1) ms g true b (k + 2) h3 (by omega) hg (.inr ⟨rfl, hm1⟩) (by omega) (by omega)
      | true =>
        exact road (fun h => by cases h.2)
    · rw [if_neg (fun h => h46 ((u8_46 c).mp h))]
      exact road (fun h => h46 h.1)

theorem cut_nil (x : UInt8) : Lib.cut [] [x] = ([], [], false) := rfl
theorem cut_hit (x : UInt8) (t : List UInt8) : Lib.cut (x :: t) [x] = ([], t, true) := by
  have h : Lib.index (x :: t) [x] = 0 := by unfold Lib.index; rw [if_pos (by simp)]
  unfold Lib.cut
  rw [h]
  rfl
theorem cut_miss (x c : UInt8) (t : List UInt8) (hne : c ≠ x) : Lib.cut (c :: t) [x] = (c :: (Lib.cut t [x]).1, (Lib.cut t [x]).2.1, (Lib.cut t [x]).2.2) := by
  have h0 : ([x].isPrefixOf (c :: t)) = false := by simp [List.isPrefixOf]; exact fun e => hne e.symm
  have hge := Lib.index_ge t [x]
  unfold Lib.cut
  by_cases hm : Lib.index t [x] = -1
  · have h : Lib.index (c :: t) [x] = -1 := by unfold Lib.index; rw [h0, hm]; rfl
    rw [h, hm]
    rfl
  · have h : Lib.index (c :: t) [x] = Lib.index t [x] + 1 := by
      rw [Lib.index, h0, if_neg (by decide), if_neg (by simpa using hm)]
    rw [h, if_pos (by omega), if_pos (by omega)]
    have e : (Lib.index t [x] + 1).toNat = (Lib.index t [x]).toNat + 1 := by omega
    rw [e]
    simp

def sumU : Nat → List UInt8 → Nat
  | _, [] => 0
  | b, c :: t => unit b * (c.toNat - 48) + sumU (b + 1) t
theorem sumU_far : ∀ (t : List UInt8) (b : Nat), 3 ≤ b → sumU b t = 0
  | [], _, _ => rfl
  | c :: t, b, h => by
    rw [sumU, sumU_far t (b + 1) (by omega)]
    have : unit b = 0 := by unfold unit; rw [if_neg (by omega), if_neg (by omega), if_neg (by omega)]
    rw [this, Nat.zero_mul]
theorem num3 (A : Nat) (x y z : UInt8) : numV A [x, y, z] = 1000 * A + (100 * (x.toNat - 48) + (10 * (y.toNat - 48) + (z.toNat - 48))) := by
  rw [numV_cons, numV_cons, numV_cons, numV_nil, stepV_eq, stepV_eq, stepV_eq]
  omega
theorem numV_app (a b : List UInt8) : ∀ n, numV n (a ++ b) = numV (numV n a) b := by
  intro n
  unfold numV
  rw [List.foldl_append]
theorem sum_num (A : Nat) (t : List UInt8) : 1000 * A + sumU 0 t = numV A ((t ++ [48, 48, 48]).take 3) := by
  match t with
  | [] => rw [show List.take 3 ((([] : List UInt8) ++ [48, 48, 48]) : List UInt8) = ([48, 48, 48] : List UInt8) from rfl, num3]; rfl
  | [a] => rw [show List.take 3 (([a] ++ [48, 48, 48]) : List UInt8) = ([a, 48, 48] : List UInt8) from rfl, num3]; rfl
  | [a, b] => rw [show List.take 3 (([a, b] ++ [48, 48, 48]) : List UInt8) = ([a, b, 48] : List UInt8) from rfl, num3]; rfl
  | a :: b :: c :: r =>
    rw [show List.take 3 (((a :: b :: c :: r) ++ [48, 48, 48]) : List UInt8) = ([a, b, c] : List UInt8) from rfl, num3, sumU, sumU, sumU, sumU_far r _ (by omega)]
    rw [show unit 0 = 100 from rfl, show unit (0 + 1) = 10 from rfl, show unit (0 + 1 + 1) = 1 from rfl]
    omega
theorem ref_two : ∀ (t : List UInt8) (ms g b : Nat), refL t ms g true b = if t.all digB = true then (ms + sumU b t, decide (0 < g + (b + t.length)) && decide (0 < b + t.length)) else (0, false)
  | [], ms, g, b => by simp [refL, sumU]
  | c :: t, ms, g, b => by
    rw [refL, if_neg (fun h => by cases h.2), List.all_cons]
    cases hd : digB c with
    | false => simp
    | true =>
      rw [if_neg (by decide), if_neg (by decide), ref_two t, Bool.true_and, sumU, List.length_cons]
      rw [Nat.add_assoc, show b + 1 + t.length = b + (t.length + 1) by omega]
theorem ref_one : ∀ (l : List UInt8) (n g : Nat), g ≤ 9 → refL l (1000 * n) g false 0 =
    if (Lib.cut l [46]).1.all digB = true ∧ g + (Lib.cut l [46]).1.length ≤ 9 then
      (if (Lib.cut l [46]).2.2 = true then refL (Lib.cut l [46]).2.1 (1000 * numV n (Lib.cut l [46]).1) (g + (Lib.cut l [46]).1.length) true 0 else (1000 * numV n (Lib.cut l [46]).1, decide (0 < g + (Lib.cut l [46]).1.length)))
    else (0, false)
  | [], n, g, hg => by
    rw [cut_nil, refL]
    rw [if_pos ⟨rfl, by simpa using hg⟩, if_neg (by decide)]
    simp [numV_nil]
  | c :: t, n, g, hg => by
    by_cases hc : c = 46
    · subst hc
      rw [cut_hit, refL, if_pos ⟨rfl, rfl⟩, if_pos ⟨rfl, by simpa using hg⟩, if_pos rfl]
      simp [numV_nil]
    · rw [cut_miss 46 c t hc, refL, if_neg (fun h => hc h.1)]
      simp only [List.all_cons, List.length_cons]
      cases hd : digB c with
      | false => simp
      | true =>
        rw [if_neg (by decide), if_pos trivial]
        by_cases h9 : 9 ≤ g
        · rw [if_pos h9, if_neg (fun h => by have := h.2; omega)]
        · have e : 10 * (1000 * n) + 1000 * (c.toNat - 48) = 1000 * stepV n c := by rw [stepV_eq]; omega
          rw [if_neg h9, e, ref_one t (stepV n c) (g + 1) (by omega), Bool.true_and, numV_cons]
          rw [show g + 1 + (Lib.cut t [46]).1.length = g + ((Lib.cut t [46]).1.length + 1) by omega]
/-- One answer, if there is one. -/
theorem delay_one (l : List UInt8) : (refL l 0 0 false 0).2 = (delayV l).2 ∧ ((delayV l).2 = true → (refL l 0 0 false 0).1 = (delayV l).1) ∧ ((delayV l).2 = false → (delayV l).1 = 0) := by
  have h := ref_one l 0 0 (by omega)
  rw [Nat.mul_zero] at h
  rw [h]
  unfold delayV delayP
  have hf : (Lib.cut l [46]).2.2 = false → (Lib.cut l [46]).2.1 = [] := by
    unfold Lib.cut
    split
    · intro h; cases h
    · intro; rfl
  generalize (Lib.cut l [46]).1 = a at *
  generalize (Lib.cut l [46]).2.1 = b at *
  generalize (Lib.cut l [46]).2.2 = d at *
  by_cases h9 : 9 < a.length
  · rw [if_neg (fun h => by have := h.2; omega)]
    simp [h9]
  by_cases ha : a.all digB = true
  · rw [if_pos ⟨ha, by omega⟩]
    cases d with
    | false =>
      obtain rfl := hf rfl
      rw [if_neg (by decide)]
      by_cases hE : a = []
      · subst hE; simp
      · have hl : 0 < a.length := List.length_pos_iff.mpr hE
        have hs := sum_num (numV 0 a) []
        rw [sumU, Nat.add_zero] at hs
        simp [hE, h9, ha, hl, hs, numV_app]
    | true =>
      rw [if_pos rfl, ref_two]
      by_cases hb : b.all digB = true
      · rw [if_pos hb]
        by_cases hE : b = []
        · subst hE; simp
        · have hl : 0 < b.length := List.length_pos_iff.mpr hE
          have hs := sum_num (numV 0 a) b
          simp [hE, h9, ha, hb, hl, hs, numV_app]
          omega
      · rw [if_neg hb]
        by_cases hE : b = []
        · subst hE; simp at hb
        · simp [hE, h9, ha, hb]
  · rw [if_neg (fun h => ha h.1)]
    simp [ha]
end Go.Proofs.YtdnaddignhjihaaDoor.Pure
