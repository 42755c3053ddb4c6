/- robotsMay_holds: a part of its proof (the texts GivG, GivR, QUx0, QUx1, Tok, OfA without what this claim does not lean on). -/
import Derived.Outline
import Derived.Test.YtdnaddignhjihaaDoorProg
import Derived.Below
import Derived.Deep.Draws
import Derived.Deep.AppendLies
import Derived.Maps.AppendAt
import Derived.OwnWalk
import Derived.Laws.BytesArg
import Derived.Laws.MakeOwn
import Derived.Laws.OwnMore
import Derived.Deep.OwnRows
import Derived.Tactics
import Derived.Lib.ConvBytes
import Derived.Laws.Slices
import Derived.WalkKit
import Derived.KernelRfl
import Derived.RowKit3
import Derived.Deep.LoopGhost
import Derived.Deep.QuietTactic
import Derived.BigQuiet
import Derived.WideLaws
import Derived.Deep.DeepCutAuto
import Derived.Deep.CutBlock
import Derived.Deep.RegionHeld3
import Derived.Laws.Rows
import Derived.Lib.AppendStr
import Derived.ArgAppend
import Derived.Laws.IdiomCopy
import Derived.OrdersHeld
import Derived.Laws.BitsLemmas
import Derived.RowKit
import Derived.BigCall
import Derived.Test.YtdnaddignhjihaaDoorZM5
namespace Go.Proofs.YtdnaddignhjihaaDoor.Given
open Go.RowKit Go.Proofs.YtdnaddignhjihaaDoor.QBase Go.Proofs.YtdnaddignhjihaaDoorW.PrintWords Go.Proofs.YtdnaddignhjihaaDoorW.PrintLast Go.Proofs.YtdnaddignhjihaaDoorW.PrintMore
set_option linter.unusedVariables false
set_option linter.unusedSimpArgs false
attribute [local go_sem] max2_int min2_int max_two min_two max_three min_three max_four min_four
theorem info86 : (Tryd.prog.info? 86).map (fun i => (i.zero, i.size, i.bytes)) = some (some (.agg #[.slice none 0 0, .slice none 0 0, .int .i64 0]), 3, 56) := by kernel_rfl
theorem info9 : (Tryd.prog.info? 9).map (fun i => (i.zero, i.size, i.bytes)) = some (some (.string ⟨#[]⟩), 1, 16) := by kernel_rfl
theorem info30 : (Tryd.prog.info? 30).map (fun i => (i.zero, i.size, i.bytes)) = some (some (.agg #[.bool false, .string ⟨#[]⟩]), 2, 24) := by kernel_rfl

/-- The maker: its box m, its groups, whether agents come still; below W0 all is as it was. -/
structure Mk (W0 : World) (m : Nat) (gs : List S86) (op : Bool) (v : Value) (w : World) : Prop where
  box : w.heap[m]? = some (.cells #[v, .bool op] 67 (0, 0))
  base : W0.heap.size ≤ m
  row : Kd.S k86 86 w W0.heap.size (fun _ => True) v gs
  below : Below W0.heap.size W0 w
/-- Where the row lies: not in the maker's box. -/
theorem Mk.form {W0 w : World} {m : Nat} {gs : List S86} {op : Bool} {v : Value} (h : Mk W0 m gs op v w) (hp : 0 < gs.length) : ∃ g cap, v = .slice (some ⟨g, 0, none⟩) gs.length cap ∧ W0.heap.size ≤ g ∧ g < w.heap.size ∧ g ≠ m := by
  obtain ⟨g, cap, e, h1, h2, cs, h3⟩ := Kd.S_form h.row hp
  refine ⟨g, cap, e, h1, h2, ?_⟩
  rintro rfl
  rw [h.box] at h3
  simp at h3
theorem Mk.shut {W0 w : World} {m : Nat} {gs : List S86} {op : Bool} {v : Value} (h : Mk W0 m gs op v w) (op' : Bool) : Mk W0 m gs op' v (w.setCell ⟨m, 1, none⟩ (.bool op')) :=
  ⟨blk_put h.box 1 _ rfl, h.base, Kd.S_set h.row h.box (by decide) 1 _, below_set h.below h.base⟩
def lastG (gs : List S86) : S86 := gs.getD (gs.length - 1) z86
def setG (gs : List S86) (x : S86) : List S86 := gs.set (gs.length - 1) x
/-- One more whom the last group is for. -/
def agentG (gs : List S86) (op : Bool) (nm : ByteArray) : List S86 :=
  setG (if op then gs else gs ++ [z86]) { lastG (if op then gs else gs ++ [z86]) with f0 := (lastG (if op then gs else gs ++ [z86])).f0 ++ [⟨(lowL nm.data.toList).toArray⟩] }
theorem Mk.step {W0 w w' : World} {m : Nat} {gs : List S86} {op : Bool} {v : Value} (h : Mk W0 m gs op v w) (hb : Below w.heap.size w w') : Mk W0 m gs op v w' :=
  ⟨blk_below h.box hb, h.base, Kd.S_below h.row hb, below_step h.below hb⟩
theorem Mk.len {W0 w : World} {m : Nat} {gs : List S86} {op : Bool} {v : Value} (h : Mk W0 m gs op v w) : ∃ A c, v = .slice A gs.length c := Kd.S_slice h.row
def sAllow : List UInt8 := [97, 108, 108, 111, 119]
def sDis : List UInt8 := [100, 105, 115, 97, 108, 108, 111, 119]
def sDelay : List UInt8 := [99, 114, 97, 119, 108, 45, 100, 101, 108, 97, 121]
/-- What the last group is told. -/
def addG (gs : List S86) (op : Bool) (l : S35) : List S86 × Bool :=
  if gs = [] then (gs, op)
  else if (l.f0.toList == sAllow) = true ∨ (l.f0.toList == sDis) = true then
    (if l.f1.toList.isEmpty = false ∧ (lastG gs).f1.length < 64 then setG gs { lastG gs with f1 := (lastG gs).f1 ++ [⟨l.f0.toList == sAllow, l.f1⟩] } else gs, false)
  else if (l.f0.toList == sDelay) = true then
    (if (delayV l.f1.data.toList).2 = true then setG gs { lastG gs with f2 := max (lastG gs).f2 ((delayV l.f1.data.toList).1 : Int) } else gs, false)
  else (gs, op)

set_option maxHeartbeats 8000000 in
set_option maxRecDepth 1000000 in
theorem agent_calls (W0 w : World) (m : Nat) (gs : List S86) (op : Bool) (v : Value) (nm : ByteArray) (h : Mk W0 m gs op v w) (hn : nm.size ≤ 140737488351232) (hl : gs.length < 1000000) (hl0 : ∀ x ∈ gs, x.f0.length < 1000000) (hop : op = true → gs ≠ []) :
    Calls Tryd.prog 31 #[.pointer (some ⟨m, 0, none⟩), .string nm] w fun e w' => e = .returned (.tuple #[]) ∧ ∃ v', Mk W0 m (agentG gs op nm) true v' w' := by
  have hB := h.base
  have HL := Aside0.mk (show lines_lower.f nm = some ⟨(lowL nm.data.toList).toArray⟩ by rw [lines_lower.f, if_pos hn])
  have HMK := Aside0.mk h
  cases op with
  | false =>
    have hc0 := blk_cell h.box 0
    have hc1 := blk_cell h.box 1
    have hf0 := blk_frozen h.box 0
    have hf1 := blk_frozen h.box 1
    simp only [List.getElem?_toArray, List.getElem?_cons_zero, List.getElem?_cons_succ] at hc0 hc1
    clear h
    go_enter Tryd.func31, Tryd.ntmps31
    go_wp2_with (first
      | ((with_reducible refine gate_builtin (b := .append) (xs := #[.tmp 15, .tmp 17]) rfl ?_); at_builtin; (refine Kd.S_append k86 (w0 := W0) W0.heap.size rfl (.tmp 15) (.tmp 17) 40 86 (.agg #[.slice none 0 0, .slice none 0 0, .int .i64 0]) 56 rfl Tryd.underlying40 info86 rfl (by decide) (by omega) v gs z86 [.slice none 0 0, .slice none 0 0, .int .i64 0] (fun k_ => k_ ≠ m) (fun _ => False) rfl rfl (k86_mkM _ _ _ z86 (Kd.R_nil _ _ _ _ _) (Kd.R_nil _ _ _ _ _)) (fun _ hk => hk.elim) (Kd.freshB HMK.out.box) (Kd.S_mono (Kd.S_types HMK.out.row HMK.out.box (by decide)) (fun _ hk => ⟨hk.2, fun h => h⟩)) HMK.out.below HMK.out.below.size (by omega) ?_); intro v1 w1 ho hb hg hat; have hm1 := blk_grown HMK.out.box hg (Kd.S_away (Kd.S_mono (Kd.S_types HMK.out.row HMK.out.box (by decide)) (fun _ hk => hk.2)) (fun _ hk => hk)); obtain ⟨g1, cap1, rfl, hg1, hg1l, cells1, hcells1⟩ := Kd.S_form ho (by simp); simp only [List.length_append, List.length_singleton] at ho; have hfa := blk_frozen hm1 0; have hfb := blk_frozen hm1 1; have hca := blk_cell hm1 0; have hcb := blk_cell hm1 1; simp only [List.getElem?_toArray, List.getElem?_cons_zero, List.getElem?_cons_succ] at hca hcb; clear hat hg hcells1))
    have hB1 := hg1
    have HMk : Mk W0 m (gs ++ [z86]) true (.slice (some ⟨g1, 0, none⟩) (gs.length + 1) cap1) ((w1.setCell ⟨m, 0, none⟩ (.slice (some ⟨g1, 0, none⟩) (gs.length + 1) cap1)).setCell ⟨m, 1, none⟩ (.bool true)) :=
      ⟨blk_put (blk_put hm1 0 _ rfl) 1 _ rfl, hB, Kd.S_mono (Kd.S_far (p := ⟨m, 1, none⟩) (Kd.S_far (p := ⟨m, 0, none⟩) ho (fun _ hk => hk) _) (fun _ hk => hk) _) (fun _ _ => trivial), below_set (below_set hb hB) hB⟩
    have hg1m : g1 ≠ m := by obtain ⟨g', c', e', _, _, hne'⟩ := HMk.form (by simp); rw [Value.slice.injEq] at e'; have e2 := e'.1; simp at e2; rw [e2]; exact hne'
    have hfin : agentG gs false nm = setG (gs ++ [z86]) { lastG (gs ++ [z86]) with f0 := (lastG (gs ++ [z86])).f0 ++ [⟨(lowL nm.data.toList).toArray⟩] } := rfl
    have hl0' : (lastG (gs ++ [z86])).f0.length < 1000000 := by simp [lastG, z86]
    have hnG : gs.length + 1 = (gs ++ [z86]).length := by simp
    have hgs : 0 < (gs ++ [z86]).length := by simp
    have hll : (gs ++ [z86]).length < 1000001 := by simp; omega
    generalize gs ++ [z86] = G at *
    generalize gs.length + 1 = n at *
    generalize ((w1.setCell ⟨m, 0, none⟩ (.slice (some ⟨g1, 0, none⟩) n cap1)).setCell ⟨m, 1, none⟩ (.bool true)) = w2 at *
    subst hnG
    clear ho hb hm1 hfa hfb hca hcb hc0 hc1 hf0 hf1
    obtain ⟨hm2, _, hS2, hb2⟩ := HMk
    obtain ⟨oki, e0, e1, R0, R1, hcA, hcB, hcC, hfr, hne, hH⟩ := last_open86 hS2 hgs
    have hw1 : wrap64 ((G.length : Int) - 1) = ((G.length - 1 : Nat) : Int) := by simp only [wrap64]; omega
    have hw2 : IntKind.i64.wrap ((G.length : Int) - 1) = ((G.length - 1 : Nat) : Int) := by rw [i64_w]; exact hw1
    have hlt1 : (((G.length - 1 : Nat) : Int) < (G.length : Int)) = True := eq_true (by omega)
    have hc0 := blk_cell hm2 0
    simp only [List.getElem?_toArray, List.getElem?_cons_zero] at hc0
    have hadd : (⟨g1, 0, none⟩ : Addr).add ((G.length - 1) * 3) = ⟨g1, (G.length - 1) * 3, none⟩ := by unfold Addr.add; split <;> simp_all
    have HH := Aside0.mk hH
    have HR0 := Aside0.mk R0
    have HR1 := Aside0.mk R1
    have Hm2 := Aside0.mk hm2
    clear hH R0 R1 hS2 hm2
    go_wp2
    go_region
    go_wp2
    have HH3 := Aside0.mk (Kd.H_drew (Kd.H_drew HH.out))
    have HR03 := Aside0.mk (Kd.R_drew (Kd.R_drew HR0.out))
    have HR13 := Aside0.mk (Kd.R_drew (Kd.R_drew HR1.out))
    have Hm3 := Aside0.mk (show w2.drew.drew.heap[m]? = _ from Hm2.out)
    have HB3 := Aside0.mk (below_drew1 (below_drew1 hb2))
    have hcA3 : w2.drew.drew.cell? ⟨g1, (G.length - 1) * 3, none⟩ = some e0 := hcA
    have hfr3 : w2.drew.drew.frozen? ⟨g1, (G.length - 1) * 3, none⟩ = false := hfr 0
    refine start_ (n := 12) (S := fun w' => w'.cell? ⟨g1, (G.length - 1) * 3, none⟩ = some e0) (ds := [11]) #[false, false, false, false, false, false, false, false, false, false, false, false] (by kernel_rfl) rfl rfl hcA3 (fun hHeld => ?_)
    generalize w2.drew.drew = w3 at HH3 HR03 HR13 Hm3 HB3 hcA3 hfr3 hHeld ⊢
    clear HH HR0 HR1 Hm2 hcA hcB hcC hfr hc0
    refine pure_ (i := 0) (N := some 34) (v := ?_) (a' := ?_) #[true, false, false, false, false, false, false, false, false, false, false, false] rfl rfl (by kernel_rfl) (fun _ _ _ h => h) (Or.inl ⟨by rfl, ?_⟩) ?_ ?_
    rotate_left
    · intro w'
      go_simp
      with_reducible rfl
    rotate_left
    · simp only [Act.put, List.setIfInBounds_toArray, List.set_cons_zero, List.set_cons_succ, i64_w, i32_w]
      rfl
    refine pure_ (i := 1) (N := some 35) (v := ?_) (a' := ?_) #[true, true, false, false, false, false, false, false, false, false, false, false] rfl rfl (by kernel_rfl) (fun _ _ _ h => h) (Or.inl ⟨by rfl, ?_⟩) ?_ ?_
    rotate_left
    · intro w'
      go_simp
      with_reducible rfl
    rotate_left
    · simp only [Act.put, List.setIfInBounds_toArray, List.set_cons_zero, List.set_cons_succ, i64_w, i32_w]
      rfl
    refine pure_ (i := 2) (N := some 36) (v := ?_) (a' := ?_) #[true, true, true, false, false, false, false, false, false, false, false, false] rfl rfl (by kernel_rfl) (fun _ _ _ h => h) (Or.inl ⟨by rfl, ?_⟩) ?_ ?_
    rotate_left
    · intro w'
      go_simp
      with_reducible rfl
    rotate_left
    · simp only [Act.put, List.setIfInBounds_toArray, List.set_cons_zero, List.set_cons_succ, i64_w, i32_w]
      rfl
    refine pure_ (i := 3) (N := some 37) (v := ?_) (a' := ?_) #[true, true, true, true, false, false, false, false, false, false, false, false] rfl rfl (by kernel_rfl) (fun _ _ _ h => h) (Or.inl ⟨by rfl, ?_⟩) ?_ ?_
    rotate_left
    · intro w'
      go_simp
      with_reducible rfl
    rotate_left
    · simp only [Act.put, List.setIfInBounds_toArray, List.set_cons_zero, List.set_cons_succ, i64_w, i32_w]
      rfl
    refine pure_ (i := 5) (N := some 39) (v := ?_) (a' := ?_) #[true, true, true, true, false, true, false, false, false, false, false, false] rfl rfl (by kernel_rfl) (fun _ _ _ h => h) (Or.inl ⟨by rfl, ?_⟩) ?_ ?_
    rotate_left
    · intro w'
      go_simp
      with_reducible rfl
    rotate_left
    · simp only [Act.put, List.setIfInBounds_toArray, List.set_cons_zero, List.set_cons_succ, i64_w, i32_w]
      rfl
    refine take_ (i := 4) (N := some 38) (v := ?_) (a' := ?_) #[true, true, true, true, true, true, false, false, false, false, false, false] rfl rfl (by kernel_rfl) (fun _ _ _ h => h) (Or.inl ⟨by rfl, ?_⟩) hHeld ?_ ?_
    rotate_left
    · rintro w' s0
      go_simp
      with_reducible rfl
    rotate_left
    · simp only [Act.put, List.setIfInBounds_toArray, List.set_cons_zero, List.set_cons_succ, i64_w, i32_w]
      rfl
    refine one_ (i := 6) (N := some 40) #[true, true, true, true, true, true, true, false, false, false, false, false] rfl rfl (by kernel_rfl) (by decide) (fun K hK => ?_)
    refine goes_ Tryd.func41 (by kernel_rfl) rfl #[.string nm] (by rfl) rfl rfl (by (try simp only [List.map_toArray, List.map_cons, List.map_nil]); first | done | rfl) ?_
    with_reducible refine (lines_lower.calls nm _ _ HL.out).mono ?_
    rintro e w4 ⟨rfl, hb4⟩
    refine ⟨_, rfl, ?_⟩
    have HH4 := Aside0.mk (Kd.H_below HH3.out hb4)
    have HR04 := Aside0.mk (Kd.R_below HR03.out hb4)
    have HR14 := Aside0.mk (Kd.R_below HR13.out hb4)
    have Hm4 := Aside0.mk (blk_below Hm3.out hb4)
    have HB4 := Aside0.mk (below_step HB3.out hb4)
    have hcA4 := (hb4.cell (World.block_lt_of_cell? _ _ hcA3)).trans hcA3
    have hfr4 : w4.frozen? ⟨g1, (G.length - 1) * 3, none⟩ = false := (World.frozen?_of_block (w := w3) (hb4.block g1 (World.block_lt_of_cell? _ _ hcA3))).trans hfr3
    clear HH3 HR03 HR13 Hm3 HB3 hcA3 hfr3 hb4
    refine hK.out _ _ hcA4 (fun hHeld => ?_)
    clear hK K
    refine norm_ (a' := ?_) ?_ ?_
    rotate_left
    · show Act.put _ (some 40) _ = _
      simp only [Act.put, List.setIfInBounds_toArray, List.set_cons_zero, List.set_cons_succ, i64_w, i32_w]
      rfl
    refine one_ (i := 7) (N := some 41) #[true, true, true, true, true, true, true, true, false, false, false, false] rfl rfl (by kernel_rfl) (by decide) (fun K hK => ?_)
    refine value_ (w1 := ?_) (v := ?_) (by rfl) rfl ?_ ?_
    rotate_left 2
    · go_simp
      constructor
      · rfl
      · rfl
    refine hK.out _ _ ((World.cell?_alloc_lt _ _ _ (World.block_lt_of_cell? _ _ hcA4)).trans hcA4) (fun hHeld => ?_)
    clear hK K
    refine norm_ (a' := ?_) ?_ ?_
    rotate_left
    · show Act.put _ (some 41) _ = _
      simp only [Act.put, List.setIfInBounds_toArray, List.set_cons_zero, List.set_cons_succ, i64_w, i32_w]
      rfl
    refine one_ (i := 8) (N := some 42) #[true, true, true, true, true, true, true, true, true, false, false, false] rfl rfl (by kernel_rfl) (by decide) (fun K hK => ?_)
    refine Kd.R_append_step Kd.string (w0 := W0) W0.heap.size (by rfl) (.tmp 38) (.tmp 41) 49 9 (.string ⟨#[]⟩) 16 rfl Tryd.underlying49 info9 rfl (by decide) (by omega) e0 (G.getD (G.length - 1) z86).f0 ⟨(lowL nm.data.toList).toArray⟩ [.string ⟨(lowL nm.data.toList).toArray⟩] (fun k => oki k ∨ True ∧ w4.heap.size ≤ k) (fun _ => False) rfl rfl rfl (fun _ hk => hk.elim) (fun k hk => .inr ⟨trivial, hk⟩) (Kd.R_mono HR04.out (fun _ hk => .inl hk)) HB4.out HB4.out.size (by have := hl0'; simp only [lastG] at this; omega) ?_
    intro v1 w5 ho hb5 hg hat
    have hgne : some g1 ≠ e0.ownBlock := fun e => hne g1 (HR04.out.1 g1 e.symm) rfl
    have HH5 := Aside0.mk (Kd.H_grown (Kd.H_widen HH4.out) hg (fun k hk => .inl (HR04.out.1 k hk)))
    have HR15 := Aside0.mk (Kd.R_mono (ok' := fun k => oki k ∨ True ∧ w4.heap.size ≤ k) (Kd.R_over' HR14.out (Kd.R_typed HR04.out) (by decide) hg) (fun _ hk => .inl hk))
    have Hm5 := Aside0.mk (blk_grown Hm4.out hg (Kd.R_ne HR04.out Hm4.out (by decide)))
    have hbk := hg.block g1 (World.block_lt_of_cell? _ _ hcA4) hgne
    have hcA5 : w5.cell? ⟨g1, (G.length - 1) * 3, none⟩ = some e0 := (World.cell?_of_block (w := w4) hbk).trans hcA4
    have hfr5 : w5.frozen? ⟨g1, (G.length - 1) * 3, none⟩ = false := (World.frozen?_of_block (w := w4) hbk).trans hfr4
    have hlt4 : Hid (g1 < w4.heap.size) := World.block_lt_of_cell? _ _ hcA4
    have ho5 := Aside0.mk ho
    have hone := (Kd.R_val ho).2
    have hv1 : ∃ A n c, v1 = .slice A n c := by obtain ⟨A, c, e⟩ := Kd.R_slice ho; exact ⟨A, _, c, e⟩
    refine hK.out _ _ hcA5 (fun hHeld => ?_)
    clear hK K
    refine norm_ (a' := ?_) ?_ ?_
    rotate_left
    · show Act.put _ (some 42) _ = _
      simp only [Act.put, List.setIfInBounds_toArray, List.set_cons_zero, List.set_cons_succ, i64_w, i32_w]
      rfl
    clear HH4 HR04 HR14 Hm4 HB4 hcA4 hfr4 hgne hg hat hbk ho
    obtain ⟨A1, N1, c1, rfl⟩ := hv1
    refine pure_ (i := 9) (N := some 43) (v := ?_) (a' := ?_) #[true, true, true, true, true, true, true, true, true, true, false, false] rfl rfl (by kernel_rfl) (fun _ _ _ h => h) (Or.inl ⟨by rfl, ?_⟩) ?_ ?_
    rotate_left
    · intro w'
      go_simp
      with_reducible rfl
    rotate_left
    · simp only [Act.put, List.setIfInBounds_toArray, List.set_cons_zero, List.set_cons_succ, i64_w, i32_w]
      rfl
    refine pure_ (i := 10) (N := some 44) (v := ?_) (a' := ?_) #[true, true, true, true, true, true, true, true, true, true, true, false] rfl rfl (by kernel_rfl) (fun _ _ _ h => h) (Or.inl ⟨by rfl, ?_⟩) ?_ ?_
    rotate_left
    · intro w'
      go_simp
      with_reducible rfl
    rotate_left
    · simp only [Act.put, List.setIfInBounds_toArray, List.set_cons_zero, List.set_cons_succ, i64_w, i32_w]
      rfl
    refine last_ (i := 11) (N := none) #[true, true, true, true, true, true, true, true, true, true, true, true] rfl rfl (by kernel_rfl) (by decide) (fun K hK => ?_)
    refine skip_ (w1 := ?_) (by rfl) rfl ?_ ?_
    rotate_left
    · go_simp
      rfl
    refine hK.out _ _ ?_
    clear hK K
    refine done_ (by kernel_rfl) ?_
    go_wp2
    go_end0
    have hput := last_put86 HH5.out hgs 0 (by omega) _ hone { lastG G with f0 := (lastG G).f0 ++ [⟨(lowL nm.data.toList).toArray⟩] } (k86_mkM _ _ _ _ ho5.out HR15.out) (fun k hk => hk.elim (hne k) (fun h e => by have := hlt4.out; have := h.2; omega))
    rw [hfin]
    rw [Nat.add_zero] at hput
    exact ⟨rfl, _, ⟨blk_far Hm5.out (Ne.symm hg1m) _, hB, hput.1, hb5.setCell (hB1) _⟩⟩
  | true =>
    have hgs : 0 < gs.length := List.length_pos_iff.mpr (hop rfl)
    obtain ⟨g1, cap1, rfl, hg1, _, hg1m⟩ := h.form hgs
    have hB1 := hg1
    have hc1 := blk_cell h.box 1
    simp only [List.getElem?_toArray, List.getElem?_cons_zero, List.getElem?_cons_succ] at hc1
    have HMk := h
    clear h
    have hfin : agentG gs true nm = setG gs { lastG gs with f0 := (lastG gs).f0 ++ [⟨(lowL nm.data.toList).toArray⟩] } := rfl
    have hl0' : (lastG gs).f0.length < 1000000 := by
      have : lastG gs ∈ gs := by
        unfold lastG
        rw [List.getD_eq_getElem?_getD, List.getElem?_eq_getElem (by omega)]
        exact List.getElem_mem _
      exact hl0 _ this
    have hll : gs.length < 1000001 := by omega
    go_enter Tryd.func31, Tryd.ntmps31
    go_upto_region 2 with (fail)
    clear hc1
    obtain ⟨hm2, _, hS2, hb2⟩ := HMk
    obtain ⟨oki, e0, e1, R0, R1, hcA, hcB, hcC, hfr, hne, hH⟩ := last_open86 hS2 hgs
    have hw1 : wrap64 ((gs.length : Int) - 1) = ((gs.length - 1 : Nat) : Int) := by simp only [wrap64]; omega
    have hw2 : IntKind.i64.wrap ((gs.length : Int) - 1) = ((gs.length - 1 : Nat) : Int) := by rw [i64_w]; exact hw1
    have hlt1 : (((gs.length - 1 : Nat) : Int) < (gs.length : Int)) = True := eq_true (by omega)
    have hc0 := blk_cell hm2 0
    simp only [List.getElem?_toArray, List.getElem?_cons_zero] at hc0
    have hadd : (⟨g1, 0, none⟩ : Addr).add ((gs.length - 1) * 3) = ⟨g1, (gs.length - 1) * 3, none⟩ := by unfold Addr.add; split <;> simp_all
    have HH := Aside0.mk hH
    have HR0 := Aside0.mk R0
    have HR1 := Aside0.mk R1
    have Hm2 := Aside0.mk hm2
    clear hH R0 R1 hS2 hm2
    go_wp2
    go_region
    go_wp2
    have HH3 := Aside0.mk (Kd.H_drew (Kd.H_drew HH.out))
    have HR03 := Aside0.mk (Kd.R_drew (Kd.R_drew HR0.out))
    have HR13 := Aside0.mk (Kd.R_drew (Kd.R_drew HR1.out))
    have Hm3 := Aside0.mk (show w.drew.drew.heap[m]? = _ from Hm2.out)
    have HB3 := Aside0.mk (below_drew1 (below_drew1 hb2))
    have hcA3 : w.drew.drew.cell? ⟨g1, (gs.length - 1) * 3, none⟩ = some e0 := hcA
    have hfr3 : w.drew.drew.frozen? ⟨g1, (gs.length - 1) * 3, none⟩ = false := hfr 0
    refine start_ (n := 12) (S := fun w' => w'.cell? ⟨g1, (gs.length - 1) * 3, none⟩ = some e0) (ds := [11]) #[false, false, false, false, false, false, false, false, false, false, false, false] (by kernel_rfl) rfl rfl hcA3 (fun hHeld => ?_)
    generalize w.drew.drew = w3 at HH3 HR03 HR13 Hm3 HB3 hcA3 hfr3 hHeld ⊢
    clear HH HR0 HR1 Hm2 hcA hcB hcC hfr hc0
    refine pure_ (i := 0) (N := some 34) (v := ?_) (a' := ?_) #[true, false, false, false, false, false, false, false, false, false, false, false] rfl rfl (by kernel_rfl) (fun _ _ _ h => h) (Or.inl ⟨by rfl, ?_⟩) ?_ ?_
    rotate_left
    · intro w'
      go_simp
      with_reducible rfl
    rotate_left
    · simp only [Act.put, List.setIfInBounds_toArray, List.set_cons_zero, List.set_cons_succ, i64_w, i32_w]
      rfl
    refine pure_ (i := 1) (N := some 35) (v := ?_) (a' := ?_) #[true, true, false, false, false, false, false, false, false, false, false, false] rfl rfl (by kernel_rfl) (fun _ _ _ h => h) (Or.inl ⟨by rfl, ?_⟩) ?_ ?_
    rotate_left
    · intro w'
      go_simp
      with_reducible rfl
    rotate_left
    · simp only [Act.put, List.setIfInBounds_toArray, List.set_cons_zero, List.set_cons_succ, i64_w, i32_w]
      rfl
    refine pure_ (i := 2) (N := some 36) (v := ?_) (a' := ?_) #[true, true, true, false, false, false, false, false, false, false, false, false] rfl rfl (by kernel_rfl) (fun _ _ _ h => h) (Or.inl ⟨by rfl, ?_⟩) ?_ ?_
    rotate_left
    · intro w'
      go_simp
      with_reducible rfl
    rotate_left
    · simp only [Act.put, List.setIfInBounds_toArray, List.set_cons_zero, List.set_cons_succ, i64_w, i32_w]
      rfl
    refine pure_ (i := 3) (N := some 37) (v := ?_) (a' := ?_) #[true, true, true, true, false, false, false, false, false, false, false, false] rfl rfl (by kernel_rfl) (fun _ _ _ h => h) (Or.inl ⟨by rfl, ?_⟩) ?_ ?_
    rotate_left
    · intro w'
      go_simp
      with_reducible rfl
    rotate_left
    · simp only [Act.put, List.setIfInBounds_toArray, List.set_cons_zero, List.set_cons_succ, i64_w, i32_w]
      rfl
    refine pure_ (i := 5) (N := some 39) (v := ?_) (a' := ?_) #[true, true, true, true, false, true, false, false, false, false, false, false] rfl rfl (by kernel_rfl) (fun _ _ _ h => h) (Or.inl ⟨by rfl, ?_⟩) ?_ ?_
    rotate_left
    · intro w'
      go_simp
      with_reducible rfl
    rotate_left
    · simp only [Act.put, List.setIfInBounds_toArray, List.set_cons_zero, List.set_cons_succ, i64_w, i32_w]
      rfl
    refine take_ (i := 4) (N := some 38) (v := ?_) (a' := ?_) #[true, true, true, true, true, true, false, false, false, false, false, false] rfl rfl (by kernel_rfl) (fun _ _ _ h => h) (Or.inl ⟨by rfl, ?_⟩) hHeld ?_ ?_
    rotate_left
    · rintro w' s0
      go_simp
      with_reducible rfl
    rotate_left
    · simp only [Act.put, List.setIfInBounds_toArray, List.set_cons_zero, List.set_cons_succ, i64_w, i32_w]
      rfl
    refine one_ (i := 6) (N := some 40) #[true, true, true, true, true, true, true, false, false, false, false, false] rfl rfl (by kernel_rfl) (by decide) (fun K hK => ?_)
    refine goes_ Tryd.func41 (by kernel_rfl) rfl #[.string nm] (by rfl) rfl rfl (by (try simp only [List.map_toArray, List.map_cons, List.map_nil]); first | done | rfl) ?_
    with_reducible refine (lines_lower.calls nm _ _ HL.out).mono ?_
    rintro e w4 ⟨rfl, hb4⟩
    refine ⟨_, rfl, ?_⟩
    have HH4 := Aside0.mk (Kd.H_below HH3.out hb4)
    have HR04 := Aside0.mk (Kd.R_below HR03.out hb4)
    have HR14 := Aside0.mk (Kd.R_below HR13.out hb4)
    have Hm4 := Aside0.mk (blk_below Hm3.out hb4)
    have HB4 := Aside0.mk (below_step HB3.out hb4)
    have hcA4 := (hb4.cell (World.block_lt_of_cell? _ _ hcA3)).trans hcA3
    have hfr4 : w4.frozen? ⟨g1, (gs.length - 1) * 3, none⟩ = false := (World.frozen?_of_block (w := w3) (hb4.block g1 (World.block_lt_of_cell? _ _ hcA3))).trans hfr3
    clear HH3 HR03 HR13 Hm3 HB3 hcA3 hfr3 hb4
    refine hK.out _ _ hcA4 (fun hHeld => ?_)
    clear hK K
    refine norm_ (a' := ?_) ?_ ?_
    rotate_left
    · show Act.put _ (some 40) _ = _
      simp only [Act.put, List.setIfInBounds_toArray, List.set_cons_zero, List.set_cons_succ, i64_w, i32_w]
      rfl
    refine one_ (i := 7) (N := some 41) #[true, true, true, true, true, true, true, true, false, false, false, false] rfl rfl (by kernel_rfl) (by decide) (fun K hK => ?_)
    refine value_ (w1 := ?_) (v := ?_) (by rfl) rfl ?_ ?_
    rotate_left 2
    · go_simp
      constructor
      · rfl
      · rfl
    refine hK.out _ _ ((World.cell?_alloc_lt _ _ _ (World.block_lt_of_cell? _ _ hcA4)).trans hcA4) (fun hHeld => ?_)
    clear hK K
    refine norm_ (a' := ?_) ?_ ?_
    rotate_left
    · show Act.put _ (some 41) _ = _
      simp only [Act.put, List.setIfInBounds_toArray, List.set_cons_zero, List.set_cons_succ, i64_w, i32_w]
      rfl
    refine one_ (i := 8) (N := some 42) #[true, true, true, true, true, true, true, true, true, false, false, false] rfl rfl (by kernel_rfl) (by decide) (fun K hK => ?_)
    refine Kd.R_append_step Kd.string (w0 := W0) W0.heap.size (by rfl) (.tmp 38) (.tmp 41) 49 9 (.string ⟨#[]⟩) 16 rfl Tryd.underlying49 info9 rfl (by decide) (by omega) e0 (gs.getD (gs.length - 1) z86).f0 ⟨(lowL nm.data.toList).toArray⟩ [.string ⟨(lowL nm.data.toList).toArray⟩] (fun k => oki k ∨ True ∧ w4.heap.size ≤ k) (fun _ => False) rfl rfl rfl (fun _ hk => hk.elim) (fun k hk => .inr ⟨trivial, hk⟩) (Kd.R_mono HR04.out (fun _ hk => .inl hk)) HB4.out HB4.out.size (by have := hl0'; simp only [lastG] at this; omega) ?_
    intro v1 w5 ho hb5 hg hat
    have hgne : some g1 ≠ e0.ownBlock := fun e => hne g1 (HR04.out.1 g1 e.symm) rfl
    have HH5 := Aside0.mk (Kd.H_grown (Kd.H_widen HH4.out) hg (fun k hk => .inl (HR04.out.1 k hk)))
    have HR15 := Aside0.mk (Kd.R_mono (ok' := fun k => oki k ∨ True ∧ w4.heap.size ≤ k) (Kd.R_over' HR14.out (Kd.R_typed HR04.out) (by decide) hg) (fun _ hk => .inl hk))
    have Hm5 := Aside0.mk (blk_grown Hm4.out hg (Kd.R_ne HR04.out Hm4.out (by decide)))
    have hbk := hg.block g1 (World.block_lt_of_cell? _ _ hcA4) hgne
    have hcA5 : w5.cell? ⟨g1, (gs.length - 1) * 3, none⟩ = some e0 := (World.cell?_of_block (w := w4) hbk).trans hcA4
    have hfr5 : w5.frozen? ⟨g1, (gs.length - 1) * 3, none⟩ = false := (World.frozen?_of_block (w := w4) hbk).trans hfr4
    have hlt4 : Hid (g1 < w4.heap.size) := World.block_lt_of_cell? _ _ hcA4
    have ho5 := Aside0.mk ho
    have hone := (Kd.R_val ho).2
    have hv1 : ∃ A n c, v1 = .slice A n c := by obtain ⟨A, c, e⟩ := Kd.R_slice ho; exact ⟨A, _, c, e⟩
    refine hK.out _ _ hcA5 (fun hHeld => ?_)
    clear hK K
    refine norm_ (a' := ?_) ?_ ?_
    rotate_left
    · show Act.put _ (some 42) _ = _
      simp only [Act.put, List.setIfInBounds_toArray, List.set_cons_zero, List.set_cons_succ, i64_w, i32_w]
      rfl
    clear HH4 HR04 HR14 Hm4 HB4 hcA4 hfr4 hgne hg hat hbk ho
    obtain ⟨A1, N1, c1, rfl⟩ := hv1
    refine pure_ (i := 9) (N := some 43) (v := ?_) (a' := ?_) #[true, true, true, true, true, true, true, true, true, true, false, false] rfl rfl (by kernel_rfl) (fun _ _ _ h => h) (Or.inl ⟨by rfl, ?_⟩) ?_ ?_
    rotate_left
    · intro w'
      go_simp
      with_reducible rfl
    rotate_left
    · simp only [Act.put, List.setIfInBounds_toArray, List.set_cons_zero, List.set_cons_succ, i64_w, i32_w]
      rfl
    refine pure_ (i := 10) (N := some 44) (v := ?_) (a' := ?_) #[true, true, true, true, true, true, true, true, true, true, true, false] rfl rfl (by kernel_rfl) (fun _ _ _ h => h) (Or.inl ⟨by rfl, ?_⟩) ?_ ?_
    rotate_left
    · intro w'
      go_simp
      with_reducible rfl
    rotate_left
    · simp only [Act.put, List.setIfInBounds_toArray, List.set_cons_zero, List.set_cons_succ, i64_w, i32_w]
      rfl
    refine last_ (i := 11) (N := none) #[true, true, true, true, true, true, true, true, true, true, true, true] rfl rfl (by kernel_rfl) (by decide) (fun K hK => ?_)
    refine skip_ (w1 := ?_) (by rfl) rfl ?_ ?_
    rotate_left
    · go_simp
      rfl
    refine hK.out _ _ ?_
    clear hK K
    refine done_ (by kernel_rfl) ?_
    go_wp2
    go_end0
    have hput := last_put86 HH5.out hgs 0 (by omega) _ hone { lastG gs with f0 := (lastG gs).f0 ++ [⟨(lowL nm.data.toList).toArray⟩] } (k86_mkM _ _ _ _ ho5.out HR15.out) (fun k hk => hk.elim (hne k) (fun h e => by have := hlt4.out; have := h.2; omega))
    rw [hfin]
    rw [Nat.add_zero] at hput
    exact ⟨rfl, _, ⟨blk_far Hm5.out (Ne.symm hg1m) _, hB, hput.1, hb5.setCell (hB1) _⟩⟩

set_option maxHeartbeats 8000000 in
set_option maxRecDepth 1000000 in
theorem add_calls (W0 w : World) (m : Nat) (gs : List S86) (op : Bool) (v : Value) (l : S35) (h : Mk W0 m gs op v w) (hn : l.f1.size < 4294967281) (hl : gs.length < 1000000) (hS_ : Shp W0) :
    Calls Tryd.prog 32 #[.pointer (some ⟨m, 0, none⟩), .agg #[.string l.f0, .string l.f1]] w fun e w' => e = .returned (.tuple #[]) ∧ Mk W0 m (addG gs op l).1 (addG gs op l).2 v w' := by
  obtain ⟨kk, vv⟩ := l
  have hB := h.base
  have HSH := Aside0.mk hS_
  clear hS_
  have HM0 := Aside0.mk h
  by_cases hgs0 : gs = []
  · subst hgs0
    obtain ⟨A, c, rfl⟩ := h.len
    simp only [List.length_nil] at *
    clear h
    go_enter Tryd.func32, Tryd.ntmps32
    go_wp2_with (first | ((with_reducible refine gate_dst (N := 3) rfl ?_); refine box_event ?hg (N := 3) ?hd (cs := #[.string kk, .string vv]) (t := 35) ?hr ?_; (case hd => rfl); (case hg => rfl); (case hr => first | (go_simp; done) | (go_simp; rfl)); intro b3 hb3 w1 hbox hb; have HMK := Aside0.mk (HM0.out.step hb); have hc0 := blk_cell HMK.out.box 0; have hc1 := blk_cell HMK.out.box 1; have hf0 := blk_frozen HMK.out.box 0; have hf1 := blk_frozen HMK.out.box 1; simp only [List.getElem?_toArray, List.getElem?_cons_zero, List.getElem?_cons_succ] at hc0 hc1; have hk0 := blk_cell hbox 0; have hk1 := blk_cell hbox 1; simp only [List.getElem?_toArray, List.getElem?_cons_zero, List.getElem?_cons_succ] at hk0 hk1; have Hk := Aside0.mk hbox; clear hbox hb))
    refine bodyPost_ret (results_none rfl _ _ _) rfl ?_
    exact ⟨rfl, by simpa [addG] using HMK.out⟩
  have hgs : 0 < gs.length := List.length_pos_iff.mpr hgs0
  obtain ⟨g1, cap1, rfl, hg1, hg1l, hg1m⟩ := h.form hgs
  have hbm : w.heap.size ≠ m := by have := blk_lt h.box; omega
  have hbg : w.heap.size ≠ g1 := by omega
  clear h
  have hw1 : wrap64 ((gs.length : Int) - 1) = ((gs.length - 1 : Nat) : Int) := by simp only [wrap64]; omega
  have hw2 : IntKind.i64.wrap ((gs.length : Int) - 1) = ((gs.length - 1 : Nat) : Int) := by rw [i64_w]; exact hw1
  have hlt1 : (((gs.length - 1 : Nat) : Int) < (gs.length : Int)) = True := eq_true (by omega)
  have hadd : (⟨g1, 0, none⟩ : Addr).add ((gs.length - 1) * 3) = ⟨g1, (gs.length - 1) * 3, none⟩ := by unfold Addr.add; split <;> simp_all
  have hn0 : ((gs.length : Int) == 0) = false := by simp; exact hgs0
  go_enter Tryd.func32, Tryd.ntmps32
  go_upto_region 2 with (first | ((with_reducible refine gate_dst (N := 3) rfl ?_); refine box_event ?hg (N := 3) ?hd (cs := #[.string kk, .string vv]) (t := 35) ?hr ?_; (case hd => rfl); (case hg => rfl); (case hr => first | (go_simp; done) | (go_simp; rfl)); intro b3 hb3 w1 hbox hb; have HMK := Aside0.mk (HM0.out.step hb); have hc0 := blk_cell HMK.out.box 0; have hc1 := blk_cell HMK.out.box 1; have hf0 := blk_frozen HMK.out.box 0; have hf1 := blk_frozen HMK.out.box 1; simp only [List.getElem?_toArray, List.getElem?_cons_zero, List.getElem?_cons_succ] at hc0 hc1; have hk0 := blk_cell hbox 0; have hk1 := blk_cell hbox 1; simp only [List.getElem?_toArray, List.getElem?_cons_zero, List.getElem?_cons_succ] at hk0 hk1; have Hk := Aside0.mk hbox; clear hbox hb))
  go_wp2
  go_region
  have HMK2 : Aside0 (Mk W0 m gs op (.slice (some ⟨g1, 0, none⟩) gs.length cap1) w1.drew) := ⟨HMK.out.step (below_drew1 (Below.refl _ _))⟩
  have Hk2 : Aside0 (w1.drew.heap[w.heap.size]? = some (.cells #[.string kk, .string vv] 35 (0, 0))) := ⟨by rw [← hb3]; exact Hk.out⟩
  generalize w1.drew = w2 at HMK2 Hk2 ⊢
  clear hc0 hc1 hf0 hf1 hk0 hk1 HMK Hk
  have hc0 := blk_cell HMK2.out.box 0
  have hc1 := blk_cell HMK2.out.box 1
  have hf0 := blk_frozen HMK2.out.box 0
  have hf1 := blk_frozen HMK2.out.box 1
  have hk0 := blk_cell Hk2.out 0
  have hk1 := blk_cell Hk2.out 1
  simp only [List.getElem?_toArray, List.getElem?_cons_zero, List.getElem?_cons_succ] at hc0 hc1 hk0 hk1
  clear hb3
  try clear b3
  by_cases hA : (kk.toList == sAllow) = true ∨ (kk.toList == sDis) = true
  · have hAD : ∃ isA : Bool, (kk.toList == sAllow) = isA ∧ ((kk.toList == [97, 108, 108, 111, 119]) = true ∧ isA = true ∨ (kk.toList == [97, 108, 108, 111, 119]) = false ∧ (kk.toList == [100, 105, 115, 97, 108, 108, 111, 119]) = true ∧ isA = false) := by
      cases h1 : (kk.toList == sAllow) with
      | true => exact ⟨true, rfl, .inl ⟨h1, rfl⟩⟩
      | false => exact ⟨false, rfl, .inr ⟨h1, by rcases hA with h | h; rw [h1] at h; cases h; exact h, rfl⟩⟩
    obtain ⟨isA, hisA, hAD⟩ := hAD
    rcases hAD with ⟨hk, rfl⟩ | ⟨hk, hk', rfl⟩
    · have hfin1 : ∀ x, (if vv.toList.isEmpty = false ∧ (lastG gs).f1.length < 64 then setG gs { lastG gs with f1 := (lastG gs).f1 ++ [⟨kk.toList == sAllow, vv⟩] } else gs) = x → addG gs op ⟨kk, vv⟩ = (x, false) := by intro x hx; simp only [addG]; rw [if_neg hgs0, if_pos hA, hx]
      rw [hisA] at hfin1
      clear hA hisA
      go_upto_region 7 with (fail)
      have HM3 := Aside0.mk (HMK2.out.shut false)
      have Hk3 := Aside0.mk (blk_far Hk2.out (p := ⟨m, 1, none⟩) hbm (.bool false))
      generalize (w2.setCell ⟨m, 1, none⟩ (.bool false)) = w3 at HM3 Hk3 ⊢
      clear hc0 hc1 hf0 hf1 hk0 hk1 HMK2 Hk2
      have hk0 := blk_cell Hk3.out 0
      have hk1 := blk_cell Hk3.out 1
      simp only [List.getElem?_toArray, List.getElem?_cons_zero, List.getElem?_cons_succ] at hk0 hk1
      obtain ⟨oki, e0, e1, R0, R1, hcA, hcB, hcC, hfr, hne, hH⟩ := last_open86 HM3.out.row hgs
      obtain ⟨A1, c1, he1⟩ := Kd.R_slice R1
      obtain ⟨N1, hN1⟩ : ∃ N, N = (gs.getD (gs.length - 1) z86).f1.length := ⟨_, rfl⟩
      rw [← hN1] at he1
      subst he1
      replace hN1 : Hid (N1 = (gs.getD (gs.length - 1) z86).f1.length) := hN1
      by_cases hv : vv.toList.isEmpty = false ∧ N1 < 64
      · obtain ⟨hv1, hv2⟩ := hv
        have hfin := hfin1 _ (if_pos ⟨hv1, by have := hN1.out; show (gs.getD (gs.length - 1) z86).f1.length < 64; omega⟩)
        have hv3 : ((N1 : Int) < 64) = True := eq_true (by omega)
        have hv4 : (vv.toList = []) = False := eq_false (by intro e; rw [e] at hv1; cases hv1)
        have HH := Aside0.mk hH
        have HR0 := Aside0.mk R0
        have HR1 := Aside0.mk R1
        have hB2 := HM3.out.below
        have hcB0 := hcB
        have hfr1 := hfr 1
        clear hH R0 R1 hcA hcC hfr hfin1
        go_wp2
        have HH3 := Aside0.mk (Kd.H_drew HH.out)
        have HR03 := Aside0.mk (Kd.R_drew HR0.out)
        have HR13 := Aside0.mk (Kd.R_drew HR1.out)
        have HM4 := Aside0.mk (HM3.out.step (below_drew1 (Below.refl _ _)))
        have hcB3 : w3.drew.cell? ⟨g1, (gs.length - 1) * 3 + 1, none⟩ = some (.slice A1 N1 c1) := hcB
        have hfr3 : w3.drew.frozen? ⟨g1, (gs.length - 1) * 3 + 1, none⟩ = false := hfr1
        have hk03 : w3.drew.cell? ⟨w.heap.size, 0, none⟩ = some (.string kk) := hk0
        have hk13 : w3.drew.cell? ⟨w.heap.size, 1, none⟩ = some (.string vv) := hk1
        have Hk4 : Aside0 (w3.drew.heap[w.heap.size]? = some (.cells #[.string kk, .string vv] 35 (0, 0))) := ⟨Hk3.out⟩
        refine start_ (n := 16) (S := fun w' => w'.cell? ⟨g1, (gs.length - 1) * 3 + 1, none⟩ = some (.slice A1 N1 c1) ∧ w'.cell? ⟨w.heap.size, 0, none⟩ = some (.string kk) ∧ w'.cell? ⟨w.heap.size, 1, none⟩ = some (.string vv)) (ds := [15]) #[false, false, false, false, false, false, false, false, false, false, false, false, false, false, false, false] (by kernel_rfl) rfl rfl ⟨hcB3, hk03, hk13⟩ (fun hHeld => ?_)
        generalize w3.drew = w4 at HH3 HR03 HR13 HM4 Hk4 hcB3 hfr3 hk03 hk13 hHeld ⊢
        clear HH HR0 HR1 hcB hcB0 hfr1 hk0 hk1 HM3 Hk3
        refine pure_ (i := 0) (N := some 43) (v := ?_) (a' := ?_) #[true, false, false, false, false, false, false, false, false, false, false, false, false, false, false, false] rfl rfl (by kernel_rfl) (fun _ _ _ h => h) (Or.inl ⟨by rfl, ?_⟩) ?_ ?_
        rotate_left
        · intro w'
          go_simp
          with_reducible rfl
        rotate_left
        · simp only [Act.put, List.setIfInBounds_toArray, List.set_cons_zero, List.set_cons_succ, i64_w, i32_w]
          rfl
        refine pure_ (i := 1) (N := some 44) (v := ?_) (a' := ?_) #[true, true, false, false, false, false, false, false, false, false, false, false, false, false, false, false] rfl rfl (by kernel_rfl) (fun _ _ _ h => h) (Or.inl ⟨by rfl, ?_⟩) ?_ ?_
        rotate_left
        · intro w'
          go_simp
          with_reducible rfl
        rotate_left
        · simp only [Act.put, List.setIfInBounds_toArray, List.set_cons_zero, List.set_cons_succ, i64_w, i32_w]
          rfl
        refine pure_ (i := 2) (N := some 45) (v := ?_) (a' := ?_) #[true, true, true, false, false, false, false, false, false, false, false, false, false, false, false, false] rfl rfl (by kernel_rfl) (fun _ _ _ h => h) (Or.inl ⟨by rfl, ?_⟩) ?_ ?_
        rotate_left
        · intro w'
          go_simp
          with_reducible rfl
        rotate_left
        · simp only [Act.put, List.setIfInBounds_toArray, List.set_cons_zero, List.set_cons_succ, i64_w, i32_w]
          rfl
        refine pure_ (i := 3) (N := some 46) (v := ?_) (a' := ?_) #[true, true, true, true, false, false, false, false, false, false, false, false, false, false, false, false] rfl rfl (by kernel_rfl) (fun _ _ _ h => h) (Or.inl ⟨by rfl, ?_⟩) ?_ ?_
        rotate_left
        · intro w'
          go_simp
          with_reducible rfl
        rotate_left
        · simp only [Act.put, List.setIfInBounds_toArray, List.set_cons_zero, List.set_cons_succ, i64_w, i32_w]
          rfl
        refine pure_ (i := 5) (N := some 48) (v := ?_) (a' := ?_) #[true, true, true, true, false, true, false, false, false, false, false, false, false, false, false, false] rfl rfl (by kernel_rfl) (fun _ _ _ h => h) (Or.inl ⟨by rfl, ?_⟩) ?_ ?_
        rotate_left
        · intro w'
          go_simp
          with_reducible rfl
        rotate_left
        · simp only [Act.put, List.setIfInBounds_toArray, List.set_cons_zero, List.set_cons_succ, i64_w, i32_w]
          rfl
        refine pure_ (i := 8) (N := some 51) (v := ?_) (a' := ?_) #[true, true, true, true, false, true, false, false, true, false, false, false, false, false, false, false] rfl rfl (by kernel_rfl) (fun _ _ _ h => h) (Or.inl ⟨by rfl, ?_⟩) ?_ ?_
        rotate_left
        · intro w'
          go_simp
          with_reducible rfl
        rotate_left
        · simp only [Act.put, List.setIfInBounds_toArray, List.set_cons_zero, List.set_cons_succ, i64_w, i32_w]
          rfl
        refine take_ (i := 4) (N := some 47) (v := ?_) (a' := ?_) #[true, true, true, true, true, true, false, false, true, false, false, false, false, false, false, false] rfl rfl (by kernel_rfl) (fun _ _ _ h => h) (Or.inl ⟨by rfl, ?_⟩) hHeld ?_ ?_
        rotate_left
        · rintro w' ⟨s0, s1, s2⟩
          go_simp
          with_reducible rfl
        rotate_left
        · simp only [Act.put, List.setIfInBounds_toArray, List.set_cons_zero, List.set_cons_succ, i64_w, i32_w]
          rfl
        refine take_ (i := 6) (N := some 49) (v := ?_) (a' := ?_) #[true, true, true, true, true, true, true, false, true, false, false, false, false, false, false, false] rfl rfl (by kernel_rfl) (fun _ _ _ h => h) (Or.inl ⟨by rfl, ?_⟩) hHeld ?_ ?_
        rotate_left
        · rintro w' ⟨s0, s1, s2⟩
          go_simp
          with_reducible rfl
        rotate_left
        · simp only [Act.put, List.setIfInBounds_toArray, List.set_cons_zero, List.set_cons_succ, i64_w, i32_w]
          rfl
        refine take_ (i := 9) (N := some 52) (v := ?_) (a' := ?_) #[true, true, true, true, true, true, true, false, true, true, false, false, false, false, false, false] rfl rfl (by kernel_rfl) (fun _ _ _ h => h) (Or.inl ⟨by rfl, ?_⟩) hHeld ?_ ?_
        rotate_left
        · rintro w' ⟨s0, s1, s2⟩
          go_simp
          with_reducible rfl
        rotate_left
        · simp only [Act.put, List.setIfInBounds_toArray, List.set_cons_zero, List.set_cons_succ, i64_w, i32_w]
          rfl
        refine pure_ (i := 7) (N := some 50) (v := ?_) (a' := ?_) #[true, true, true, true, true, true, true, true, true, true, false, false, false, false, false, false] rfl rfl (by kernel_rfl) (fun _ _ _ h => h) (Or.inl ⟨by rfl, ?_⟩) ?_ ?_
        rotate_left
        · intro w'
          go_simp
          with_reducible rfl
        rotate_left
        · simp only [Act.put, List.setIfInBounds_toArray, List.set_cons_zero, List.set_cons_succ, i64_w, i32_w]
          rfl
        refine pure_ (i := 10) (N := some 53) (v := ?_) (a' := ?_) #[true, true, true, true, true, true, true, true, true, true, true, false, false, false, false, false] rfl rfl (by kernel_rfl) (fun _ _ _ h => h) (Or.inl ⟨by rfl, ?_⟩) ?_ ?_
        rotate_left
        · intro w'
          go_simp
          with_reducible rfl
        rotate_left
        · simp only [Act.put, List.setIfInBounds_toArray, List.set_cons_zero, List.set_cons_succ, i64_w, i32_w]
          rfl
        refine one_ (i := 11) (N := some 54) #[true, true, true, true, true, true, true, true, true, true, true, true, false, false, false, false] rfl rfl (by kernel_rfl) (by decide) (fun K hK => ?_)
        refine value_ (w1 := ?_) (v := ?_) (by rfl) rfl ?_ ?_
        rotate_left 2
        · go_simp
          constructor
          · rfl
          · rfl
        refine hK.out _ _ ⟨(World.cell?_alloc_lt _ _ _ (World.block_lt_of_cell? _ _ hcB3)).trans hcB3, (World.cell?_alloc_lt _ _ _ (World.block_lt_of_cell? _ _ hk03)).trans hk03, (World.cell?_alloc_lt _ _ _ (World.block_lt_of_cell? _ _ hk13)).trans hk13⟩ (fun hHeld => ?_)
        clear hK K
        refine norm_ (a' := ?_) ?_ ?_
        rotate_left
        · show Act.put _ (some 54) _ = _
          simp only [Act.put, List.setIfInBounds_toArray, List.set_cons_zero, List.set_cons_succ, i64_w, i32_w]
          rfl
        refine one_ (i := 12) (N := some 55) #[true, true, true, true, true, true, true, true, true, true, true, true, true, false, false, false] rfl rfl (by kernel_rfl) (by decide) (fun K hK => ?_)
        refine Kd.R_append_step k30 (w0 := W0) W0.heap.size (by rfl) (.tmp 47) (.tmp 54) 24 30 (.agg #[.bool false, .string ⟨#[]⟩]) 24 rfl Tryd.underlying24 info30 rfl (by decide) (by omega) (.slice A1 N1 c1) (gs.getD (gs.length - 1) z86).f1 ⟨true, vv⟩ [.bool true, .string vv] (fun k => oki k ∨ True ∧ w4.heap.size ≤ k) (fun _ => False) rfl rfl (k30_mkM _ _ _ _) (fun _ hk => hk.elim) (fun k hk => .inr ⟨trivial, hk⟩) (Kd.R_mono HR13.out (fun _ hk => .inl hk)) HM4.out.below HM4.out.below.size (by have := hN1.out; omega) ?_
        intro v1 w5 ho hb5 hg hat
        have hgne : some g1 ≠ (Value.slice A1 N1 c1).ownBlock := fun e => hne g1 (HR13.out.1 g1 e.symm) rfl
        have HH5 := Aside0.mk (Kd.H_grown (Kd.H_widen HH3.out) hg (fun k hk => .inl (HR13.out.1 k hk)))
        have HR05 := Aside0.mk (Kd.R_mono (ok' := fun k => oki k ∨ True ∧ w4.heap.size ≤ k) (Kd.R_over' HR03.out (Kd.R_typed HR13.out) (by decide) hg) (fun _ hk => .inl hk))
        have Hm5 := Aside0.mk (blk_grown HM4.out.box hg (Kd.R_ne HR13.out HM4.out.box (by decide)))
        have hbk := hg.block g1 (World.block_lt_of_cell? _ _ hcB3) hgne
        have hbk3 := hg.block w.heap.size (World.block_lt_of_cell? _ _ hk03) (Kd.R_ne HR13.out Hk4.out (by decide))
        have hcB5 : w5.cell? ⟨g1, (gs.length - 1) * 3 + 1, none⟩ = some (.slice A1 N1 c1) := (World.cell?_of_block (w := w4) hbk).trans hcB3
        have hfr5 : w5.frozen? ⟨g1, (gs.length - 1) * 3 + 1, none⟩ = false := (World.frozen?_of_block (w := w4) hbk).trans hfr3
        have hk05 : w5.cell? ⟨w.heap.size, 0, none⟩ = some (.string kk) := (World.cell?_of_block (w := w4) hbk3).trans hk03
        have hk15 : w5.cell? ⟨w.heap.size, 1, none⟩ = some (.string vv) := (World.cell?_of_block (w := w4) hbk3).trans hk13
        have hlt4 : Hid (g1 < w4.heap.size) := World.block_lt_of_cell? _ _ hcB3
        have ho5 := Aside0.mk ho
        have hone := (Kd.R_val ho).2
        have hv1 : ∃ A n c, v1 = .slice A n c := by obtain ⟨A, c, e⟩ := Kd.R_slice ho; exact ⟨A, _, c, e⟩
        refine hK.out _ _ ⟨hcB5, hk05, hk15⟩ (fun hHeld => ?_)
        clear hK K
        refine norm_ (a' := ?_) ?_ ?_
        rotate_left
        · show Act.put _ (some 55) _ = _
          simp only [Act.put, List.setIfInBounds_toArray, List.set_cons_zero, List.set_cons_succ, i64_w, i32_w]
          rfl
        clear HH3 HR03 HR13 HM4 hcB3 hfr3 hgne hg hat hbk hbk3 ho hk03 hk13
        obtain ⟨A2, N2, c2, rfl⟩ := hv1
        refine pure_ (i := 13) (N := some 56) (v := ?_) (a' := ?_) #[true, true, true, true, true, true, true, true, true, true, true, true, true, true, false, false] rfl rfl (by kernel_rfl) (fun _ _ _ h => h) (Or.inl ⟨by rfl, ?_⟩) ?_ ?_
        rotate_left
        · intro w'
          go_simp
          with_reducible rfl
        rotate_left
        · simp only [Act.put, List.setIfInBounds_toArray, List.set_cons_zero, List.set_cons_succ, i64_w, i32_w]
          rfl
        refine pure_ (i := 14) (N := some 57) (v := ?_) (a' := ?_) #[true, true, true, true, true, true, true, true, true, true, true, true, true, true, true, false] rfl rfl (by kernel_rfl) (fun _ _ _ h => h) (Or.inl ⟨by rfl, ?_⟩) ?_ ?_
        rotate_left
        · intro w'
          go_simp
          with_reducible rfl
        rotate_left
        · simp only [Act.put, List.setIfInBounds_toArray, List.set_cons_zero, List.set_cons_succ, i64_w, i32_w]
          rfl
        refine last_ (i := 15) (N := none) #[true, true, true, true, true, true, true, true, true, true, true, true, true, true, true, true] rfl rfl (by kernel_rfl) (by decide) (fun K hK => ?_)
        refine skip_ (w1 := ?_) (by rfl) rfl ?_ ?_
        rotate_left
        · go_simp
          rfl
        refine hK.out _ _ ?_
        clear hK K
        refine done_ (by kernel_rfl) ?_
        go_wp2
        go_end0
        have hput := last_put86 HH5.out hgs 1 (by omega) _ hone { lastG gs with f1 := (lastG gs).f1 ++ [⟨true, vv⟩] } (k86_mkM _ _ _ ({ lastG gs with f1 := (lastG gs).f1 ++ [⟨true, vv⟩] } : S86) HR05.out ho5.out) (fun k hk => hk.elim (hne k) (fun h e => by have := hlt4.out; have := h.2; omega))
        rw [hfin]
        exact ⟨rfl, ⟨blk_far Hm5.out (Ne.symm hg1m) _, hB, hput.1, hb5.setCell hg1 _⟩⟩
      · have hfin := hfin1 _ (if_neg (fun hh => hv ⟨hh.1, by have h2 : (gs.getD (gs.length - 1) z86).f1.length < 64 := hh.2; have := hN1.out; omega⟩))
        have key : vv.toList.isEmpty = true ∨ (vv.toList.isEmpty = false ∧ ((N1 : Int) < 64) = False) := by cases h : vv.toList.isEmpty; exact .inr ⟨rfl, eq_false (fun h2 => hv ⟨h, by omega⟩)⟩; exact .inl rfl
        clear hH R0 R1 hcA hcC hfr hfin1 hv
        rcases key with hv1 | ⟨hv1, hv3⟩
        · have hv4 : (vv.toList = []) = True := eq_true (by simpa using hv1)
          go_wp2
          go_end0
          rw [hfin]
          exact ⟨rfl, HM3.out⟩
        · have hv4 : (vv.toList = []) = False := eq_false (by intro e; rw [e] at hv1; cases hv1)
          go_wp2
          go_end0
          rw [hfin]
          exact ⟨rfl, HM3.out⟩
    · have hfin1 : ∀ x, (if vv.toList.isEmpty = false ∧ (lastG gs).f1.length < 64 then setG gs { lastG gs with f1 := (lastG gs).f1 ++ [⟨kk.toList == sAllow, vv⟩] } else gs) = x → addG gs op ⟨kk, vv⟩ = (x, false) := by intro x hx; simp only [addG]; rw [if_neg hgs0, if_pos hA, hx]
      rw [hisA] at hfin1
      clear hA hisA
      go_upto_region 7 with (fail)
      have HM3 := Aside0.mk (HMK2.out.shut false)
      have Hk3 := Aside0.mk (blk_far Hk2.out (p := ⟨m, 1, none⟩) hbm (.bool false))
      generalize (w2.setCell ⟨m, 1, none⟩ (.bool false)) = w3 at HM3 Hk3 ⊢
      clear hc0 hc1 hf0 hf1 hk0 hk1 HMK2 Hk2
      have hk0 := blk_cell Hk3.out 0
      have hk1 := blk_cell Hk3.out 1
      simp only [List.getElem?_toArray, List.getElem?_cons_zero, List.getElem?_cons_succ] at hk0 hk1
      obtain ⟨oki, e0, e1, R0, R1, hcA, hcB, hcC, hfr, hne, hH⟩ := last_open86 HM3.out.row hgs
      obtain ⟨A1, c1, he1⟩ := Kd.R_slice R1
      obtain ⟨N1, hN1⟩ : ∃ N, N = (gs.getD (gs.length - 1) z86).f1.length := ⟨_, rfl⟩
      rw [← hN1] at he1
      subst he1
      replace hN1 : Hid (N1 = (gs.getD (gs.length - 1) z86).f1.length) := hN1
      by_cases hv : vv.toList.isEmpty = false ∧ N1 < 64
      · obtain ⟨hv1, hv2⟩ := hv
        have hfin := hfin1 _ (if_pos ⟨hv1, by have := hN1.out; show (gs.getD (gs.length - 1) z86).f1.length < 64; omega⟩)
        have hv3 : ((N1 : Int) < 64) = True := eq_true (by omega)
        have hv4 : (vv.toList = []) = False := eq_false (by intro e; rw [e] at hv1; cases hv1)
        have HH := Aside0.mk hH
        have HR0 := Aside0.mk R0
        have HR1 := Aside0.mk R1
        have hB2 := HM3.out.below
        have hcB0 := hcB
        have hfr1 := hfr 1
        clear hH R0 R1 hcA hcC hfr hfin1
        go_wp2
        have HH3 := Aside0.mk (Kd.H_drew HH.out)
        have HR03 := Aside0.mk (Kd.R_drew HR0.out)
        have HR13 := Aside0.mk (Kd.R_drew HR1.out)
        have HM4 := Aside0.mk (HM3.out.step (below_drew1 (Below.refl _ _)))
        have hcB3 : w3.drew.cell? ⟨g1, (gs.length - 1) * 3 + 1, none⟩ = some (.slice A1 N1 c1) := hcB
        have hfr3 : w3.drew.frozen? ⟨g1, (gs.length - 1) * 3 + 1, none⟩ = false := hfr1
        have hk03 : w3.drew.cell? ⟨w.heap.size, 0, none⟩ = some (.string kk) := hk0
        have hk13 : w3.drew.cell? ⟨w.heap.size, 1, none⟩ = some (.string vv) := hk1
        have Hk4 : Aside0 (w3.drew.heap[w.heap.size]? = some (.cells #[.string kk, .string vv] 35 (0, 0))) := ⟨Hk3.out⟩
        refine start_ (n := 16) (S := fun w' => w'.cell? ⟨g1, (gs.length - 1) * 3 + 1, none⟩ = some (.slice A1 N1 c1) ∧ w'.cell? ⟨w.heap.size, 0, none⟩ = some (.string kk) ∧ w'.cell? ⟨w.heap.size, 1, none⟩ = some (.string vv)) (ds := [15]) #[false, false, false, false, false, false, false, false, false, false, false, false, false, false, false, false] (by kernel_rfl) rfl rfl ⟨hcB3, hk03, hk13⟩ (fun hHeld => ?_)
        generalize w3.drew = w4 at HH3 HR03 HR13 HM4 Hk4 hcB3 hfr3 hk03 hk13 hHeld ⊢
        clear HH HR0 HR1 hcB hcB0 hfr1 hk0 hk1 HM3 Hk3
        refine pure_ (i := 0) (N := some 43) (v := ?_) (a' := ?_) #[true, false, false, false, false, false, false, false, false, false, false, false, false, false, false, false] rfl rfl (by kernel_rfl) (fun _ _ _ h => h) (Or.inl ⟨by rfl, ?_⟩) ?_ ?_
        rotate_left
        · intro w'
          go_simp
          with_reducible rfl
        rotate_left
        · simp only [Act.put, List.setIfInBounds_toArray, List.set_cons_zero, List.set_cons_succ, i64_w, i32_w]
          rfl
        refine pure_ (i := 1) (N := some 44) (v := ?_) (a' := ?_) #[true, true, false, false, false, false, false, false, false, false, false, false, false, false, false, false] rfl rfl (by kernel_rfl) (fun _ _ _ h => h) (Or.inl ⟨by rfl, ?_⟩) ?_ ?_
        rotate_left
        · intro w'
          go_simp
          with_reducible rfl
        rotate_left
        · simp only [Act.put, List.setIfInBounds_toArray, List.set_cons_zero, List.set_cons_succ, i64_w, i32_w]
          rfl
        refine pure_ (i := 2) (N := some 45) (v := ?_) (a' := ?_) #[true, true, true, false, false, false, false, false, false, false, false, false, false, false, false, false] rfl rfl (by kernel_rfl) (fun _ _ _ h => h) (Or.inl ⟨by rfl, ?_⟩) ?_ ?_
        rotate_left
        · intro w'
          go_simp
          with_reducible rfl
        rotate_left
        · simp only [Act.put, List.setIfInBounds_toArray, List.set_cons_zero, List.set_cons_succ, i64_w, i32_w]
          rfl
        refine pure_ (i := 3) (N := some 46) (v := ?_) (a' := ?_) #[true, true, true, true, false, false, false, false, false, false, false, false, false, false, false, false] rfl rfl (by kernel_rfl) (fun _ _ _ h => h) (Or.inl ⟨by rfl, ?_⟩) ?_ ?_
        rotate_left
        · intro w'
          go_simp
          with_reducible rfl
        rotate_left
        · simp only [Act.put, List.setIfInBounds_toArray, List.set_cons_zero, List.set_cons_succ, i64_w, i32_w]
          rfl
        refine pure_ (i := 5) (N := some 48) (v := ?_) (a' := ?_) #[true, true, true, true, false, true, false, false, false, false, false, false, false, false, false, false] rfl rfl (by kernel_rfl) (fun _ _ _ h => h) (Or.inl ⟨by rfl, ?_⟩) ?_ ?_
        rotate_left
        · intro w'
          go_simp
          with_reducible rfl
        rotate_left
        · simp only [Act.put, List.setIfInBounds_toArray, List.set_cons_zero, List.set_cons_succ, i64_w, i32_w]
          rfl
        refine pure_ (i := 8) (N := some 51) (v := ?_) (a' := ?_) #[true, true, true, true, false, true, false, false, true, false, false, false, false, false, false, false] rfl rfl (by kernel_rfl) (fun _ _ _ h => h) (Or.inl ⟨by rfl, ?_⟩) ?_ ?_
        rotate_left
        · intro w'
          go_simp
          with_reducible rfl
        rotate_left
        · simp only [Act.put, List.setIfInBounds_toArray, List.set_cons_zero, List.set_cons_succ, i64_w, i32_w]
          rfl
        refine take_ (i := 4) (N := some 47) (v := ?_) (a' := ?_) #[true, true, true, true, true, true, false, false, true, false, false, false, false, false, false, false] rfl rfl (by kernel_rfl) (fun _ _ _ h => h) (Or.inl ⟨by rfl, ?_⟩) hHeld ?_ ?_
        rotate_left
        · rintro w' ⟨s0, s1, s2⟩
          go_simp
          with_reducible rfl
        rotate_left
        · simp only [Act.put, List.setIfInBounds_toArray, List.set_cons_zero, List.set_cons_succ, i64_w, i32_w]
          rfl
        refine take_ (i := 6) (N := some 49) (v := ?_) (a' := ?_) #[true, true, true, true, true, true, true, false, true, false, false, false, false, false, false, false] rfl rfl (by kernel_rfl) (fun _ _ _ h => h) (Or.inl ⟨by rfl, ?_⟩) hHeld ?_ ?_
        rotate_left
        · rintro w' ⟨s0, s1, s2⟩
          go_simp
          with_reducible rfl
        rotate_left
        · simp only [Act.put, List.setIfInBounds_toArray, List.set_cons_zero, List.set_cons_succ, i64_w, i32_w]
          rfl
        refine take_ (i := 9) (N := some 52) (v := ?_) (a' := ?_) #[true, true, true, true, true, true, true, false, true, true, false, false, false, false, false, false] rfl rfl (by kernel_rfl) (fun _ _ _ h => h) (Or.inl ⟨by rfl, ?_⟩) hHeld ?_ ?_
        rotate_left
        · rintro w' ⟨s0, s1, s2⟩
          go_simp
          with_reducible rfl
        rotate_left
        · simp only [Act.put, List.setIfInBounds_toArray, List.set_cons_zero, List.set_cons_succ, i64_w, i32_w]
          rfl
        refine pure_ (i := 7) (N := some 50) (v := ?_) (a' := ?_) #[true, true, true, true, true, true, true, true, true, true, false, false, false, false, false, false] rfl rfl (by kernel_rfl) (fun _ _ _ h => h) (Or.inl ⟨by rfl, ?_⟩) ?_ ?_
        rotate_left
        · intro w'
          go_simp
          with_reducible rfl
        rotate_left
        · simp only [Act.put, List.setIfInBounds_toArray, List.set_cons_zero, List.set_cons_succ, i64_w, i32_w]
          rfl
        refine pure_ (i := 10) (N := some 53) (v := ?_) (a' := ?_) #[true, true, true, true, true, true, true, true, true, true, true, false, false, false, false, false] rfl rfl (by kernel_rfl) (fun _ _ _ h => h) (Or.inl ⟨by rfl, ?_⟩) ?_ ?_
        rotate_left
        · intro w'
          go_simp
          with_reducible rfl
        rotate_left
        · simp only [Act.put, List.setIfInBounds_toArray, List.set_cons_zero, List.set_cons_succ, i64_w, i32_w]
          rfl
        refine one_ (i := 11) (N := some 54) #[true, true, true, true, true, true, true, true, true, true, true, true, false, false, false, false] rfl rfl (by kernel_rfl) (by decide) (fun K hK => ?_)
        refine value_ (w1 := ?_) (v := ?_) (by rfl) rfl ?_ ?_
        rotate_left 2
        · go_simp
          constructor
          · rfl
          · rfl
        refine hK.out _ _ ⟨(World.cell?_alloc_lt _ _ _ (World.block_lt_of_cell? _ _ hcB3)).trans hcB3, (World.cell?_alloc_lt _ _ _ (World.block_lt_of_cell? _ _ hk03)).trans hk03, (World.cell?_alloc_lt _ _ _ (World.block_lt_of_cell? _ _ hk13)).trans hk13⟩ (fun hHeld => ?_)
        clear hK K
        refine norm_ (a' := ?_) ?_ ?_
        rotate_left
        · show Act.put _ (some 54) _ = _
          simp only [Act.put, List.setIfInBounds_toArray, List.set_cons_zero, List.set_cons_succ, i64_w, i32_w]
          rfl
        refine one_ (i := 12) (N := some 55) #[true, true, true, true, true, true, true, true, true, true, true, true, true, false, false, false] rfl rfl (by kernel_rfl) (by decide) (fun K hK => ?_)
        refine Kd.R_append_step k30 (w0 := W0) W0.heap.size (by rfl) (.tmp 47) (.tmp 54) 24 30 (.agg #[.bool false, .string ⟨#[]⟩]) 24 rfl Tryd.underlying24 info30 rfl (by decide) (by omega) (.slice A1 N1 c1) (gs.getD (gs.length - 1) z86).f1 ⟨false, vv⟩ [.bool false, .string vv] (fun k => oki k ∨ True ∧ w4.heap.size ≤ k) (fun _ => False) rfl rfl (k30_mkM _ _ _ _) (fun _ hk => hk.elim) (fun k hk => .inr ⟨trivial, hk⟩) (Kd.R_mono HR13.out (fun _ hk => .inl hk)) HM4.out.below HM4.out.below.size (by have := hN1.out; omega) ?_
        intro v1 w5 ho hb5 hg hat
        have hgne : some g1 ≠ (Value.slice A1 N1 c1).ownBlock := fun e => hne g1 (HR13.out.1 g1 e.symm) rfl
        have HH5 := Aside0.mk (Kd.H_grown (Kd.H_widen HH3.out) hg (fun k hk => .inl (HR13.out.1 k hk)))
        have HR05 := Aside0.mk (Kd.R_mono (ok' := fun k => oki k ∨ True ∧ w4.heap.size ≤ k) (Kd.R_over' HR03.out (Kd.R_typed HR13.out) (by decide) hg) (fun _ hk => .inl hk))
        have Hm5 := Aside0.mk (blk_grown HM4.out.box hg (Kd.R_ne HR13.out HM4.out.box (by decide)))
        have hbk := hg.block g1 (World.block_lt_of_cell? _ _ hcB3) hgne
        have hbk3 := hg.block w.heap.size (World.block_lt_of_cell? _ _ hk03) (Kd.R_ne HR13.out Hk4.out (by decide))
        have hcB5 : w5.cell? ⟨g1, (gs.length - 1) * 3 + 1, none⟩ = some (.slice A1 N1 c1) := (World.cell?_of_block (w := w4) hbk).trans hcB3
        have hfr5 : w5.frozen? ⟨g1, (gs.length - 1) * 3 + 1, none⟩ = false := (World.frozen?_of_block (w := w4) hbk).trans hfr3
        have hk05 : w5.cell? ⟨w.heap.size, 0, none⟩ = some (.string kk) := (World.cell?_of_block (w := w4) hbk3).trans hk03
        have hk15 : w5.cell? ⟨w.heap.size, 1, none⟩ = some (.string vv) := (World.cell?_of_block (w := w4) hbk3).trans hk13
        have hlt4 : Hid (g1 < w4.heap.size) := World.block_lt_of_cell? _ _ hcB3
        have ho5 := Aside0.mk ho
        have hone := (Kd.R_val ho).2
        have hv1 : ∃ A n c, v1 = .slice A n c := by obtain ⟨A, c, e⟩ := Kd.R_slice ho; exact ⟨A, _, c, e⟩
        refine hK.out _ _ ⟨hcB5, hk05, hk15⟩ (fun hHeld => ?_)
        clear hK K
        refine norm_ (a' := ?_) ?_ ?_
        rotate_left
        · show Act.put _ (some 55) _ = _
          simp only [Act.put, List.setIfInBounds_toArray, List.set_cons_zero, List.set_cons_succ, i64_w, i32_w]
          rfl
        clear HH3 HR03 HR13 HM4 hcB3 hfr3 hgne hg hat hbk hbk3 ho hk03 hk13
        obtain ⟨A2, N2, c2, rfl⟩ := hv1
        refine pure_ (i := 13) (N := some 56) (v := ?_) (a' := ?_) #[true, true, true, true, true, true, true, true, true, true, true, true, true, true, false, false] rfl rfl (by kernel_rfl) (fun _ _ _ h => h) (Or.inl ⟨by rfl, ?_⟩) ?_ ?_
        rotate_left
        · intro w'
          go_simp
          with_reducible rfl
        rotate_left
        · simp only [Act.put, List.setIfInBounds_toArray, List.set_cons_zero, List.set_cons_succ, i64_w, i32_w]
          rfl
        refine pure_ (i := 14) (N := some 57) (v := ?_) (a' := ?_) #[true, true, true, true, true, true, true, true, true, true, true, true, true, true, true, false] rfl rfl (by kernel_rfl) (fun _ _ _ h => h) (Or.inl ⟨by rfl, ?_⟩) ?_ ?_
        rotate_left
        · intro w'
          go_simp
          with_reducible rfl
        rotate_left
        · simp only [Act.put, List.setIfInBounds_toArray, List.set_cons_zero, List.set_cons_succ, i64_w, i32_w]
          rfl
        refine last_ (i := 15) (N := none) #[true, true, true, true, true, true, true, true, true, true, true, true, true, true, true, true] rfl rfl (by kernel_rfl) (by decide) (fun K hK => ?_)
        refine skip_ (w1 := ?_) (by rfl) rfl ?_ ?_
        rotate_left
        · go_simp
          rfl
        refine hK.out _ _ ?_
        clear hK K
        refine done_ (by kernel_rfl) ?_
        go_wp2
        go_end0
        have hput := last_put86 HH5.out hgs 1 (by omega) _ hone { lastG gs with f1 := (lastG gs).f1 ++ [⟨false, vv⟩] } (k86_mkM _ _ _ ({ lastG gs with f1 := (lastG gs).f1 ++ [⟨false, vv⟩] } : S86) HR05.out ho5.out) (fun k hk => hk.elim (hne k) (fun h e => by have := hlt4.out; have := h.2; omega))
        rw [hfin]
        exact ⟨rfl, ⟨blk_far Hm5.out (Ne.symm hg1m) _, hB, hput.1, hb5.setCell hg1 _⟩⟩
      · have hfin := hfin1 _ (if_neg (fun hh => hv ⟨hh.1, by have h2 : (gs.getD (gs.length - 1) z86).f1.length < 64 := hh.2; have := hN1.out; omega⟩))
        have key : vv.toList.isEmpty = true ∨ (vv.toList.isEmpty = false ∧ ((N1 : Int) < 64) = False) := by cases h : vv.toList.isEmpty; exact .inr ⟨rfl, eq_false (fun h2 => hv ⟨h, by omega⟩)⟩; exact .inl rfl
        clear hH R0 R1 hcA hcC hfr hfin1 hv
        rcases key with hv1 | ⟨hv1, hv3⟩
        · have hv4 : (vv.toList = []) = True := eq_true (by simpa using hv1)
          go_wp2
          go_end0
          rw [hfin]
          exact ⟨rfl, HM3.out⟩
        · have hv4 : (vv.toList = []) = False := eq_false (by intro e; rw [e] at hv1; cases hv1)
          go_wp2
          go_end0
          rw [hfin]
          exact ⟨rfl, HM3.out⟩
  by_cases hC : (kk.toList == sDelay) = true
  · have e1 : (kk.toList == [97, 108, 108, 111, 119]) = false := by cases h : (kk.toList == [97, 108, 108, 111, 119]); rfl; exact absurd (.inl h) hA
    have e2 : (kk.toList == [100, 105, 115, 97, 108, 108, 111, 119]) = false := by cases h : (kk.toList == [100, 105, 115, 97, 108, 108, 111, 119]); rfl; exact absurd (.inr h) hA
    have e3 : (kk.toList == [99, 114, 97, 119, 108, 45, 100, 101, 108, 97, 121]) = true := hC
    have hfin1 : ∀ x, (if (delayV vv.data.toList).2 = true then setG gs { lastG gs with f2 := max (lastG gs).f2 ((delayV vv.data.toList).1 : Int) } else gs) = x → addG gs op ⟨kk, vv⟩ = (x, false) := by intro x hx; simp only [addG]; rw [if_neg hgs0, if_neg hA, if_pos hC, hx]
    clear hA hC
    go_upto_region 11 with (fail)
    have HM3 := Aside0.mk (HMK2.out.shut false)
    have Hk3 := Aside0.mk (blk_far Hk2.out (p := ⟨m, 1, none⟩) hbm (.bool false))
    generalize (w2.setCell ⟨m, 1, none⟩ (.bool false)) = w3 at HM3 Hk3 ⊢
    clear hc0 hc1 hf0 hf1 hk0 hk1 HMK2 Hk2
    have hk1 := blk_cell Hk3.out 1
    simp only [List.getElem?_toArray, List.getElem?_cons_zero, List.getElem?_cons_succ] at hk1
    have HSh := Aside0.mk (Shp.below HSH.out HM3.out.below)
    have HD := Aside0.mk (show lines_Delay.f vv = some (((delayV vv.data.toList).1 : Int), (delayV vv.data.toList).2) by rw [lines_Delay.f, if_pos hn])
    cases hok : (delayV vv.data.toList).2 with
    | true =>
      rw [hok] at HD hfin1
      have hfin := hfin1 _ (if_pos rfl)
      clear hfin1 hok
      generalize (delayV vv.data.toList).1 = n at HD hfin
      go_upto_region 13 with (first | ((with_reducible refine gate_callee (f := 47) rfl ?_); refine goesL_ (some 66) rfl rfl Tryd.func47 (by kernel_rfl) rfl #[.string vv] rfl (by (try simp only [List.map_toArray, List.map_cons, List.map_nil]); first | done | rfl) ?_; (with_reducible refine (lines_Delay.calls vv (n : Int) true _ HD.out HSh.out).mono ?_); rintro e w4 ⟨rfl, hb4⟩; refine ⟨_, rfl, ?_⟩; have HM4 := Aside0.mk (HM3.out.step hb4); clear hb4))
      obtain ⟨oki, e0, e1', R0, R1, hcA, hcB, hcC, hfr, hne, hH⟩ := last_open86 HM4.out.row hgs
      have hfr2 := hfr 2
      have HH := Aside0.mk hH
      have HR0 := Aside0.mk R0
      have HR1 := Aside0.mk R1
      clear hH R0 R1 hcA hcB hfr hk1 Hk3 HM3
      have hput : ∀ u : Int, u = max (lastG gs).f2 (n : Int) → Kd.S k86 86 (w4.setCell ⟨g1, (gs.length - 1) * 3 + 2, none⟩ (.int .i64 u)) W0.heap.size (fun _ => True) (.slice (some ⟨g1, 0, none⟩) gs.length cap1) (setG gs { lastG gs with f2 := max (lastG gs).f2 (n : Int) }) := by
        intro u hu
        subst hu
        exact (last_put86 HH.out hgs 2 (by omega) (.int .i64 (max (lastG gs).f2 (n : Int))) rfl { lastG gs with f2 := max (lastG gs).f2 (n : Int) } (k86_mkM _ _ _ ({ lastG gs with f2 := max (lastG gs).f2 (n : Int) } : S86) HR0.out HR1.out) hne).1
      have hput := Aside0.mk hput
      go_wp2
      all_goals go_end0
      all_goals try rw [hfin]
      all_goals
        refine ⟨rfl, ⟨blk_far HM4.out.box (Ne.symm hg1m) _, hB, hput.out _ ?_, HM4.out.below.setCell hg1 _⟩⟩
        show _ = max (gs.getD (gs.length - 1) z86).f2 _
        rw [List.getD_eq_getElem?_getD]
        omega
    | false =>
      rw [hok] at HD hfin1
      have hfin := hfin1 _ (if_neg (by decide))
      clear hfin1 hok
      generalize (delayV vv.data.toList).1 = n at HD
      go_wp2_with (first | ((with_reducible refine gate_callee (f := 47) rfl ?_); refine goesL_ (some 66) rfl rfl Tryd.func47 (by kernel_rfl) rfl #[.string vv] rfl (by (try simp only [List.map_toArray, List.map_cons, List.map_nil]); first | done | rfl) ?_; (with_reducible refine (lines_Delay.calls vv (n : Int) false _ HD.out HSh.out).mono ?_); rintro e w4 ⟨rfl, hb4⟩; refine ⟨_, rfl, ?_⟩; have HM4 := Aside0.mk (HM3.out.step hb4); clear hb4))
      go_end0
      try rw [hfin]
      exact ⟨rfl, HM4.out⟩
  · have e1 : (kk.toList == [97, 108, 108, 111, 119]) = false := by cases h : (kk.toList == [97, 108, 108, 111, 119]); rfl; exact absurd (.inl h) hA
    have e2 : (kk.toList == [100, 105, 115, 97, 108, 108, 111, 119]) = false := by cases h : (kk.toList == [100, 105, 115, 97, 108, 108, 111, 119]); rfl; exact absurd (.inr h) hA
    have e3 : (kk.toList == [99, 114, 97, 119, 108, 45, 100, 101, 108, 97, 121]) = false := by cases h : (kk.toList == [99, 114, 97, 119, 108, 45, 100, 101, 108, 97, 121]); rfl; exact absurd h hC
    have hfin : addG gs op ⟨kk, vv⟩ = (gs, op) := by simp only [addG]; rw [if_neg hgs0, if_neg hA, if_neg hC]
    clear hA hC
    go_wp2
    go_end0
    rw [hfin]
    exact ⟨rfl, HMK2.out⟩
end Go.Proofs.YtdnaddignhjihaaDoor.Given
namespace Go.Proofs.YtdnaddignhjihaaDoor.Given
open Go.RowKit Go.Proofs.YtdnaddignhjihaaDoor.QBase Go.Proofs.YtdnaddignhjihaaDoorW.PrintWords Go.Proofs.YtdnaddignhjihaaDoorW.PrintLast Go.Proofs.YtdnaddignhjihaaDoorW.PrintMore
set_option linter.unusedVariables false
set_option linter.unusedSimpArgs false
def sAgent : List UInt8 := [117, 115, 101, 114, 45, 97, 103, 101, 110, 116]
def stepG (st : List S86 × Bool) (l : S35) : List S86 × Bool := if (l.f0.toList == sAgent) = true then (agentG st.1 st.2 l.f1, true) else addG st.1 st.2 l
def lines_Groups.f (l0 : List S35) : Option (List S86) := if l0.length < 1000000 ∧ (∀ l ∈ l0, l.f1.size < 4294967281) then some (l0.foldl stepG ([], false)).1 else none

/-- What stays so from line to line. -/
structure InvG (i : Nat) (st : List S86 × Bool) : Prop where
  len : st.1.length ≤ i
  ags : ∀ x ∈ st.1, x.f0.length ≤ i
  op : st.2 = true → st.1 ≠ []
theorem mem_setG {gs : List S86} {x y : S86} (h : y ∈ setG gs x) : y = x ∨ y ∈ gs := by
  rcases List.mem_or_eq_of_mem_set h with h | h
  · exact .inr h
  · exact .inl h
theorem lastG_f0 {gs : List S86} {i : Nat} (h : ∀ x ∈ gs, x.f0.length ≤ i) : (lastG gs).f0.length ≤ i := by
  unfold lastG
  rw [List.getD_eq_getElem?_getD]
  by_cases hl : gs.length - 1 < gs.length
  · rw [List.getElem?_eq_getElem hl]
    exact h _ (List.getElem_mem hl)
  · rw [List.getElem?_eq_none (by omega)]
    exact Nat.zero_le _
theorem InvG.add {i : Nat} {st : List S86 × Bool} (h : InvG i st) (l : S35) : InvG (i + 1) (addG st.1 st.2 l) := by
  have h1 := lastG_f0 h.ags
  have set1 : ∀ x : S86, x.f0 = (lastG st.1).f0 → (setG st.1 x).length ≤ i + 1 ∧ ∀ y ∈ setG st.1 x, y.f0.length ≤ i + 1 := by
    intro x hx
    refine ⟨by have := h.len; simp [setG]; omega, fun y hy => ?_⟩
    rcases mem_setG hy with rfl | hy
    · rw [hx]; omega
    · have := h.ags y hy; omega
  have same : st.1.length ≤ i + 1 ∧ ∀ y ∈ st.1, y.f0.length ≤ i + 1 := ⟨by have := h.len; omega, fun y hy => by have := h.ags y hy; omega⟩
  unfold addG
  split
  · exact ⟨same.1, same.2, h.op⟩
  split
  · simp only
    split
    · exact ⟨(set1 _ (by rfl)).1, (set1 _ (by rfl)).2, fun h => (by cases h)⟩
    · exact ⟨same.1, same.2, fun h => (by cases h)⟩
  split
  · simp only
    split
    · exact ⟨(set1 _ (by rfl)).1, (set1 _ (by rfl)).2, fun h => (by cases h)⟩
    · exact ⟨same.1, same.2, fun h => (by cases h)⟩
  · exact ⟨same.1, same.2, h.op⟩
theorem InvG.agent {i : Nat} {st : List S86 × Bool} (h : InvG i st) (nm : ByteArray) : InvG (i + 1) (agentG st.1 st.2 nm, true) := by
  have key : ∀ G : List S86, G ≠ [] → G.length ≤ i + 1 → (∀ x ∈ G, x.f0.length ≤ i) → InvG (i + 1) (setG G { lastG G with f0 := (lastG G).f0 ++ [⟨(lowL nm.data.toList).toArray⟩] }, true) := by
    intro G hG hl ha
    refine ⟨by simp [setG]; exact hl, fun y hy => ?_, fun _ => ?_⟩
    · rcases mem_setG hy with rfl | hy
      · have := lastG_f0 ha; simp; omega
      · have := ha y hy; omega
    · intro e
      have := congrArg List.length e
      simp [setG] at this
      exact hG this
  unfold agentG
  by_cases ho : st.2 = true
  · rw [if_pos ho]
    exact key _ (h.op ho) (by have := h.len; omega) h.ags
  · rw [if_neg ho]
    refine key _ (by simp) (by have := h.len; simp; omega) ?_
    intro x hx
    rcases List.mem_append.mp hx with hx | hx
    · exact h.ags x hx
    · obtain rfl := List.mem_singleton.mp hx; exact Nat.zero_le _
theorem Mk.far {W0 w : World} {m b : Nat} {gs : List S86} {op : Bool} {v : Value} {cs : Array Value} (h : Mk W0 m gs op v w) (hb : w.heap[b]? = some (.cells cs 35 (0, 0))) (hB : W0.heap.size ≤ b) (j : Nat) (u : Value) : Mk W0 m gs op v (w.setCell ⟨b, j, none⟩ u) := by
  refine ⟨blk_far h.box (p := ⟨b, j, none⟩) ?_ u, h.base, Kd.S_set h.row hb (by decide) j u, below_set h.below hB⟩
  rintro rfl
  rw [h.box] at hb
  simp at hb

set_option maxHeartbeats 8000000 in
set_option maxRecDepth 1000000 in
theorem lines_Groups.calls (A0 : Option Addr) (c0 : Nat) (l0 : List S35) (r : List S86) (w : World) (hr0 : Kd.C k35 w A0 l0.length l0) (hc0 : l0.length ≤ c0) (h : lines_Groups.f l0 = some r) (hS_ : Shp w) :
    Calls Tryd.prog 17 #[.slice A0 l0.length c0] w fun e w' => ∃ v0_ : Value, e = .returned v0_ ∧ Kd.S k86 86 w' w.heap.size (fun _ => True) v0_ r ∧ Below w.heap.size w w' := by
  unfold lines_Groups.f at h
  split at h
  case isFalse => cases h
  rename_i hc
  obtain ⟨hl, hv⟩ := hc
  have hfin := Aside0.mk (Option.some.inj h)
  have HSH := Aside0.mk hS_
  have HR0 := Aside0.mk hr0
  have HV := Aside0.mk hv
  clear h hS_ hr0 hc0 hv
  go_enter Tryd.func17, Tryd.ntmps17
  go_wp2_with (first | ((with_reducible refine gate_dst (N := 7) rfl ?_); refine box_event ?hg (N := 7) ?hd (cs := #[.slice none 0 0, .bool false]) (t := 67) ?hr ?_; (case hd => rfl); (case hg => rfl); (case hr => first | (go_simp; done) | (go_simp; rfl)); intro m hm w1 hbox hb; subst hm; have HM := Aside0.mk (Mk.mk hbox (Nat.le_refl _) (Kd.S_nil k86 86 w1 w.heap.size (fun _ => True)) hb); clear hbox hb))
  go_loopw [10] (fun v10 wr => ∃ (i : Nat) (st : List S86 × Bool) (v : Value), v10 = .int .i64 i ∧ i ≤ l0.length ∧ Hid (InvG i st) ∧ Aside0 (((l0.drop i).foldl stepG st).1 = r) ∧ Aside0 (Mk w w.heap.size st.1 st.2 v wr)) (fun v10 wr => l0.length - (intOf v10).toNat)
  case atStart => exact ⟨0, ([], false), _, rfl, by omega, ⟨Nat.le_refl _, by simp, by simp⟩, hfin, HM⟩
  case round =>
    clear HM hfin
    obtain ⟨i, ⟨gs, op⟩, v, rfl, hi, hinv, hF, HM⟩ := hrel
    simp only at HM
    by_cases hlt : i < l0.length
    · have hlt' : ((i : Int) < (l0.length : Int)) = True := eq_true (by omega)
      obtain ⟨ad, rfl, hx0, hx1⟩ := at_T35 HR0.out (i : Int) (by omega) (by omega)
      have hrd : rd_T35 l0 (i : Int) = l0[i] := by simp [rd_T35, hlt]
      rw [hrd, Int.toNat_natCast] at hx0 hx1
      have hx0 := (HM.out.below.cell (World.block_lt_of_cell? w _ hx0)).trans hx0
      have hx1 := (HM.out.below.cell (World.block_lt_of_cell? w _ hx1)).trans hx1
      have hsz : Hid (l0[i].f1.size < 4294967281) := HV.out _ (List.getElem_mem hlt)
      have hF2 := hF.out
      rw [List.drop_eq_getElem_cons hlt, List.foldl_cons] at hF2
      have hF2 := Aside0.mk hF2
      obtain ⟨l, hl0⟩ : ∃ l, l = l0[i] := ⟨_, rfl⟩
      rw [← hl0] at hx0 hx1 hsz hF2
      obtain ⟨kk, vv⟩ := l
      simp only at hx0 hx1 hsz
      clear hF hrd hl0
      go_upto_region 5 with (first | ((with_reducible refine gate_dst (N := 5) rfl ?_); refine box_event ?hg (N := 5) ?hd (cs := #[.string (⟨#[]⟩ : ByteArray), .string (⟨#[]⟩ : ByteArray)]) (t := 35) ?hr ?_; (case hd => rfl); (case hg => rfl); (case hr => first | (go_simp; done) | (go_simp; rfl)); intro b5 hb5 w2 hbox hb; have HM2 := Aside0.mk (HM.out.step hb); have Hbx := Aside0.mk hbox; have hf50 := blk_frozen hbox 0; have hf51 := blk_frozen hbox 1; have hz0 := blk_cell hbox 0; have hz1 := blk_cell hbox 1; simp only [List.getElem?_toArray, List.getElem?_cons_zero, List.getElem?_cons_succ] at hz0 hz1; have hlb := Aside0.mk (by rw [hb5]; exact HM.out.below.size : w.heap.size ≤ b5); clear hbox hb hb5))
      have HM3 := Aside0.mk (Mk.far (Mk.far HM2.out Hbx.out hlb.out 0 (.string kk)) (blk_put Hbx.out 0 (.string kk) rfl) hlb.out 1 (.string vv))
      have Hb3 := Aside0.mk (show ((w2.setCell { block := b5, off := 0 } (Value.string kk)).setCell { block := b5, off := 1 } (Value.string vv)).heap[b5]? = some (Obj.cells #[.string kk, .string vv] 35 (0, 0)) from blk_put (blk_put Hbx.out 0 (.string kk) rfl) 1 (.string vv) rfl)
      clear HM HM2 Hbx hf50 hf51 hz0 hz1
      generalize ((w2.setCell { block := b5, off := 0 } (Value.string kk)).setCell { block := b5, off := 1 } (Value.string vv)) = w3 at *
      have hk0 : w3.cell? ⟨b5, 0, none⟩ = some (.string kk) := blk_cell Hb3.out 0
      have hk1 : w3.cell? ⟨b5, 1, none⟩ = some (.string vv) := blk_cell Hb3.out 1
      by_cases hk : (kk.toList == sAgent) = true
      · have hk' : (kk.toList == [117, 115, 101, 114, 45, 97, 103, 101, 110, 116]) = true := hk
        have hstep : stepG (gs, op) ⟨kk, vv⟩ = (agentG gs op vv, true) := by simp only [stepG]; exact if_pos hk
        rw [hstep] at hF2
        have hle : Aside0 (vv.size ≤ 140737488351232 ∧ gs.length < 1000000 ∧ (∀ x ∈ gs, x.f0.length < 1000000) ∧ (op = true → gs ≠ [])) := ⟨⟨by have h1 := hsz.out; omega, by have h1 : gs.length ≤ i := hinv.out.len; omega, fun x hx => by have h1 : x.f0.length ≤ i := hinv.out.ags x hx; omega, hinv.out.op⟩⟩
        have hinv : Hid (InvG (i + 1) (agentG gs op vv, true)) := InvG.agent hinv.out vv
        go_wp2_with (first
          | ((with_reducible refine gate_callee (f := 31) rfl ?_); refine goesL_ (some 20) rfl rfl Tryd.func31 (by kernel_rfl) rfl #[.pointer (some ⟨w.heap.size, 0, none⟩), .string vv] rfl (by (try simp only [List.map_toArray, List.map_cons, List.map_nil]); first | done | rfl) ?_; (with_reducible refine (agent_calls w _ w.heap.size gs op v vv HM3.out hle.out.1 hle.out.2.1 hle.out.2.2.1 hle.out.2.2.2).mono ?_); rintro e w4 ⟨rfl, v', HM4⟩; refine ⟨_, rfl, ?_⟩; have HM4 := Aside0.mk HM4; clear HM3 Hb3 hk0 hk1))
        go_roundw
        case rel => exact ⟨i + 1, (agentG gs op vv, true), v', by go_num, by omega, hinv, hF2, HM4⟩
        case measure => simp [intOf]; omega
      · have hk' : (kk.toList == [117, 115, 101, 114, 45, 97, 103, 101, 110, 116]) = false := by cases h : (kk.toList == [117, 115, 101, 114, 45, 97, 103, 101, 110, 116]); rfl; exact absurd h hk
        have hstep : stepG (gs, op) ⟨kk, vv⟩ = addG gs op ⟨kk, vv⟩ := by simp only [stepG]; exact if_neg hk
        rw [hstep] at hF2
        have hle : Aside0 (gs.length < 1000000) := ⟨by have h1 : gs.length ≤ i := hinv.out.len; omega⟩
        have hinv : Hid (InvG (i + 1) (addG gs op ⟨kk, vv⟩)) := InvG.add hinv.out ⟨kk, vv⟩
        go_wp2_with (first
          | ((with_reducible refine gate_callee (f := 32) rfl ?_); refine goesL_ (some 23) rfl rfl Tryd.func32 (by kernel_rfl) rfl #[.pointer (some ⟨w.heap.size, 0, none⟩), .agg #[.string kk, .string vv]] rfl (by (try simp only [List.map_toArray, List.map_cons, List.map_nil]); first | done | rfl) ?_; (with_reducible refine (add_calls w _ w.heap.size gs op v ⟨kk, vv⟩ HM3.out hsz.out hle.out HSH.out).mono ?_); rintro e w4 ⟨rfl, HM4⟩; refine ⟨_, rfl, ?_⟩; have HM4 := Aside0.mk HM4; clear HM3 Hb3 hk0 hk1))
        go_roundw
        case rel => exact ⟨i + 1, addG gs op ⟨kk, vv⟩, v, by go_num, by omega, hinv, hF2, HM4⟩
        case measure => simp [intOf]; omega
    · have hlt' : ((i : Int) < (l0.length : Int)) = False := eq_false (by omega)
      obtain rfl : i = l0.length := by omega
      have hr := hF.out
      rw [List.drop_length, List.foldl_nil] at hr
      simp only at hr
      subst hr
      have hc0 := blk_cell HM.out.box 0
      simp only [List.getElem?_toArray, List.getElem?_cons_zero] at hc0
      clear hF
      go_wp2
      go_ret
      exact ⟨_, rfl, HM.out.row, HM.out.below⟩
end Go.Proofs.YtdnaddignhjihaaDoor.Given
namespace Go.Proofs.YtdnaddignhjihaaDoor.QU
open Go.Proofs.YtdnaddignhjihaaDoor.Given Go.Proofs.YtdnaddignhjihaaDoor.GivenM Go.Proofs.YtdnaddignhjihaaDoor.QBase Go.Proofs.YtdnaddignhjihaaDoor.QMM
open Go.RowKit Go.Proofs.YtdnaddignhjihaaDoorW.PrintWords Go.Proofs.YtdnaddignhjihaaDoorW.PrintLast Go.Proofs.YtdnaddignhjihaaDoorW.PrintMore
attribute [local go_sem] max2_int min2_int max_two min_two max_three min_three max_four min_four   -- for this text's walks alone
set_option linter.unusedVariables false
set_option linter.unusedSimpArgs false
def errW : Option Int → Value
  | none => .nilIface
  | some c => .iface 0 (.int .i64 c)
theorem errW_none : errW none = .nilIface := rfl
theorem errW_some (c : Int) : errW (some c) = .iface 0 (.int .i64 c) := rfl

-- the values' own types

end Go.Proofs.YtdnaddignhjihaaDoor.QU
namespace Go.Proofs.YtdnaddignhjihaaDoor.QU
open Go.Proofs.YtdnaddignhjihaaDoor.Given Go.Proofs.YtdnaddignhjihaaDoor.GivenM Go.Proofs.YtdnaddignhjihaaDoor.QBase Go.Proofs.YtdnaddignhjihaaDoor.QMM
open Go.RowKit Go.Proofs.YtdnaddignhjihaaDoorW.PrintWords Go.Proofs.YtdnaddignhjihaaDoorW.PrintLast Go.Proofs.YtdnaddignhjihaaDoorW.PrintMore
attribute [local go_sem] max2_int min2_int max_two min_two max_three min_three max_four min_four   -- for this text's walks alone
set_option linter.unusedVariables false
set_option linter.unusedSimpArgs false
def match_Allowed.l0 : Nat → ByteArray → Int → Bool → List (S30) → Int → Int → Option (Bool)
  | 0, _, _, _, _, _, _ => none
  | k + 1, x1, x5, x6, x10, x11, x12 => if x12 < x11 then (if 0 ≤ x12 then (if x12 < (x10.length : Int) then ((match_one.f ((rd_T30 x10 x12).f1)).bind fun t103 => ((match_Match.f ((rd_T30 x10 x12).f1) x1).bind fun t104 => (if t104 = true then (if (t103.size : Int) < x5 then (match_Allowed.l0 k x1 x5 x6 x10 x11 (wrap64 (x12 + 1))) else (if (rd_T30 x10 x12).f0 = true then (match_Allowed.l0 k x1 (t103.size : Int) true x10 x11 (wrap64 (x12 + 1))) else (if (t103.size : Int) = x5 then (match_Allowed.l0 k x1 (t103.size : Int) x6 x10 x11 (wrap64 (x12 + 1))) else (match_Allowed.l0 k x1 (t103.size : Int) false x10 x11 (wrap64 (x12 + 1)))))) else (match_Allowed.l0 k x1 x5 x6 x10 x11 (wrap64 (x12 + 1)))))) else (none)) else (none)) else (some x6)
def match_Allowed.f (k : Nat) (l0 : List (S30)) (a1 : ByteArray) : Option (Bool) := match_Allowed.l0 k a1 (-1) true l0 (l0.length : Int) 0
set_option maxHeartbeats 8000000 in
set_option maxRecDepth 100000 in
theorem match_Allowed.calls (k : Nat) (A0 : Option Addr) (c0 : Nat) (l0 : List (S30)) (a1 : ByteArray) (r : Bool) (w : World) (hr0 : Kd.C k30 w A0 l0.length l0) (hc0 : l0.length ≤ c0) (h : match_Allowed.f k l0 a1 = some r) (hS_ : Shp w) :
    Calls Tryd.prog 21 #[.slice A0 l0.length c0, .string a1] w fun e w' => e = .returned (.bool r) ∧ Below w.heap.size w w' := by
  have hu30 := Tryd.underlying30
  have HR0 := Aside0.mk hr0
  have HC0 := Aside0.mk hc0
  clear hr0 hc0
  have HB := Aside0.mk (Below.refl w.heap.size w)
  have HS_ := Aside0.mk hS_
  clear hS_
  have H : (match_Allowed.l0 k a1 (-1) true l0 (l0.length : Int) 0) = some r := h
  clear h
  have H' := Aside0.mk H
  clear H
  go_enter Tryd.func21, Tryd.ntmps21
  go_wp2
  go_loopg [5, 6, 12] k (fun kq v5 v6 v12 w' => ∃ (x5_1 : Int) (x6_1 : Bool) (x12_1 : Int), v5 = .int .i64 x5_1 ∧ v6 = .bool x6_1 ∧ v12 = .int .i64 x12_1 ∧ Aside0 (match_Allowed.l0 kq a1 x5_1 x6_1 l0 (l0.length : Int) x12_1 = some r) ∧ Aside0 (kq ≤ k) ∧ Aside0 (Below w.heap.size w w'))
  case atStart => exact ⟨((-1)), (true), (0), (by first | rfl | (simp; done) | (simp [*]; done)), (by first | rfl | (simp; done) | (simp [*]; done)), (by first | rfl | (simp; done) | (simp [*]; done)), H', ⟨Nat.le_refl _⟩, ⟨by repeat (first | (with_reducible first | exact HB.out | apply below_alloc | apply pw_below_drewN | apply below_drew1) | exact HB.out)⟩⟩
  case round =>
    clear H'
    try clear c2
    try clear p2
    obtain ⟨x5_1, x6_1, x12_1, rfl, rfl, rfl, HA, HK1, HB⟩ := hrel
    cases gk with
    | zero => exact absurd HA.out (by simp [match_Allowed.l0])
    | succ k1 =>
      have H := HA.out
      clear HA
      simp only [match_Allowed.l0] at H
      by_cases c3 : x12_1 < (l0.length : Int)
      · rw [if_pos c3] at H
        have c3b0 : decide (x12_1 < (l0.length : Int)) = true := decide_eq_true c3
        clear c3
        by_cases c4 : 0 ≤ x12_1
        · rw [if_pos c4] at H
          have c4b0 : decide (0 ≤ x12_1) = true := decide_eq_true c4
          clear c4
          by_cases c5 : x12_1 < (l0.length : Int)
          · rw [if_pos c5] at H
            have c5b0 : decide (x12_1 < (l0.length : Int)) = true := decide_eq_true c5
            clear c5
            replace H := Option.bind_eq_some_iff.mp H
            obtain ⟨t103, A60, H⟩ := H
            replace H : ((match_Match.f ((rd_T30 l0 x12_1).f1) a1).bind fun t104 => (if t104 = true then (if (t103.size : Int) < x5_1 then (match_Allowed.l0 k1 a1 x5_1 x6_1 l0 (l0.length : Int) (wrap64 (x12_1 + 1))) else (if (rd_T30 l0 x12_1).f0 = true then (match_Allowed.l0 k1 a1 (t103.size : Int) true l0 (l0.length : Int) (wrap64 (x12_1 + 1))) else (if (t103.size : Int) = x5_1 then (match_Allowed.l0 k1 a1 (t103.size : Int) x6_1 l0 (l0.length : Int) (wrap64 (x12_1 + 1))) else (match_Allowed.l0 k1 a1 (t103.size : Int) false l0 (l0.length : Int) (wrap64 (x12_1 + 1)))))) else (match_Allowed.l0 k1 a1 x5_1 x6_1 l0 (l0.length : Int) (wrap64 (x12_1 + 1))))) = some r := H
            have A6 := Aside0.mk A60
            clear A60
            replace H := Option.bind_eq_some_iff.mp H
            obtain ⟨t104, A70, H⟩ := H
            replace H : (if t104 = true then (if (t103.size : Int) < x5_1 then (match_Allowed.l0 k1 a1 x5_1 x6_1 l0 (l0.length : Int) (wrap64 (x12_1 + 1))) else (if (rd_T30 l0 x12_1).f0 = true then (match_Allowed.l0 k1 a1 (t103.size : Int) true l0 (l0.length : Int) (wrap64 (x12_1 + 1))) else (if (t103.size : Int) = x5_1 then (match_Allowed.l0 k1 a1 (t103.size : Int) x6_1 l0 (l0.length : Int) (wrap64 (x12_1 + 1))) else (match_Allowed.l0 k1 a1 (t103.size : Int) false l0 (l0.length : Int) (wrap64 (x12_1 + 1)))))) else (match_Allowed.l0 k1 a1 x5_1 x6_1 l0 (l0.length : Int) (wrap64 (x12_1 + 1)))) = some r := H
            have A7 := Aside0.mk A70
            clear A70
            by_cases c8 : t104 = true
            · subst c8
              have H1 : (if (t103.size : Int) < x5_1 then (match_Allowed.l0 k1 a1 x5_1 x6_1 l0 (l0.length : Int) (wrap64 (x12_1 + 1))) else (if (rd_T30 l0 x12_1).f0 = true then (match_Allowed.l0 k1 a1 (t103.size : Int) true l0 (l0.length : Int) (wrap64 (x12_1 + 1))) else (if (t103.size : Int) = x5_1 then (match_Allowed.l0 k1 a1 (t103.size : Int) x6_1 l0 (l0.length : Int) (wrap64 (x12_1 + 1))) else (match_Allowed.l0 k1 a1 (t103.size : Int) false l0 (l0.length : Int) (wrap64 (x12_1 + 1)))))) = some r := by rw [if_pos rfl] at H; exact H
              clear H
              have H := H1
              clear H1
              by_cases c9 : (t103.size : Int) < x5_1
              · rw [if_pos c9] at H
                have c9b0 : decide ((t103.size : Int) < x5_1) = true := decide_eq_true c9
                clear c9
                have H' := Aside0.mk H
                clear H
                have p101 : 0 ≤ (x12_1 : Int) := of_decide_eq_true (by first | (with_reducible assumption) | assumption)
                have q101 : x12_1 < (l0.length : Int) := of_decide_eq_true (by first | (with_reducible assumption) | assumption)
                obtain ⟨ad101, e101, hx101_0, hx101_1⟩ := at_T30 HR0.out x12_1 p101 q101
                cases e101
                replace hx101_0 := (HB.out.cell (World.block_lt_of_cell? w _ hx101_0)).trans hx101_0
                replace hx101_1 := (HB.out.cell (World.block_lt_of_cell? w _ hx101_1)).trans hx101_1
                replace p101 := eq_true p101
                replace q101 := eq_true q101
                go_wp2_with (first | ((with_reducible refine gate_dst (N := 8) rfl ?_); refine box_event ?hg (N := 8) ?hd (cs := #[.bool false, .string (⟨#[]⟩ : ByteArray)]) (t := 30) ?hr ?_; (case hd => rfl); (case hg => rfl); (case hr => first | (go_simp; done) | (go_simp; rfl)); intro gb102 hg w10 hbox hb; have n0_ := Aside0.mk (below_step (by repeat (first | (with_reducible first | exact HB.out | apply below_alloc | apply pw_below_drewN | apply below_drew1) | exact HB.out)) hb); have n1_ := Aside0.mk (hbox); have n2_ := Aside0.mk ((by rw [hg]; exact (below_size (by repeat (first | (with_reducible first | exact HB.out | apply below_alloc | apply pw_below_drewN | apply below_drew1) | exact HB.out))) : w.heap.size ≤ gb102)); have n3_ := Aside0.mk ((by rw [hg]; exact (below_size (by repeat (first | (with_reducible first | exact HB.out | apply below_alloc | apply pw_below_drewN | apply below_drew1) | exact HB.out))) : w.heap.size ≤ gb102)); clear HB; have HB := n0_; have BK102 := n1_; have GW102 := n2_; have GE102 := n3_; clear n0_ n1_ n2_ n3_; clear hb hbox hg; have hcz11_0 : w10.cell? ⟨gb102, 0, none⟩ = some (.bool false) := (blk_cell BK102.out 0).trans rfl; have hcz11_1 : w10.cell? ⟨gb102, 1, none⟩ = some (.string (⟨#[]⟩ : ByteArray)) := (blk_cell BK102.out 1).trans rfl; have hfz11_0 := blk_frozen BK102.out 0; have hfz11_1 := blk_frozen BK102.out 1) | ((with_reducible refine gate_callee (f := 35) rfl ?_); refine goesL_ (some 18) rfl rfl Tryd.func35 (by kernel_rfl) rfl #[.string ((rd_T30 l0 x12_1).f1)] rfl (by (try simp only [List.map_toArray, List.map_cons, List.map_nil]); first | done | rfl | (simp only [List.length_drop, List.length_take]; rfl)) ?_; (with_reducible refine (match_one.calls ((rd_T30 l0 x12_1).f1) t103 _ A6.out).mono ?_); rintro e w12 ⟨rfl, hb⟩; refine ⟨_, rfl, ?_⟩; have n0_ := Aside0.mk (blk_below (g := gb102) (o := .cells #[.bool ((rd_T30 l0 x12_1).f0), .string ((rd_T30 l0 x12_1).f1)] 30 (0, 0)) (by (with_reducible repeat (first | refine blk_drewN ?_ _ | refine blk_drew ?_ | refine blk_alloc ?_ _)); refine blk_put (cs := #[.bool ((rd_T30 l0 x12_1).f0), .string (⟨#[]⟩ : ByteArray)]) ?_ 1 _ rfl; (with_reducible repeat (first | refine blk_drewN ?_ _ | refine blk_drew ?_ | refine blk_alloc ?_ _)); refine blk_put (cs := #[.bool false, .string (⟨#[]⟩ : ByteArray)]) ?_ 0 _ rfl; (with_reducible repeat (first | refine blk_drewN ?_ _ | refine blk_drew ?_ | refine blk_alloc ?_ _)); exact BK102.out) hb); have n1_ := Aside0.mk (below_step (by repeat (first | (with_reducible first | exact HB.out | apply below_alloc | apply pw_below_drewN | apply below_drew1 | refine below_set ?_ GE102.out) | exact HB.out)) hb); clear BK102; clear HB; have BK102 := n0_; have HB := n1_; clear n0_ n1_; (try clear hb); (try clear hb2); (try clear hk); (try clear hi); have hcz13_0 : w12.cell? ⟨gb102, 0, none⟩ = some (.bool ((rd_T30 l0 x12_1).f0)) := (blk_cell BK102.out 0).trans rfl; have hcz13_1 : w12.cell? ⟨gb102, 1, none⟩ = some (.string ((rd_T30 l0 x12_1).f1)) := (blk_cell BK102.out 1).trans rfl; have hfz13_0 := blk_frozen BK102.out 0; have hfz13_1 := blk_frozen BK102.out 1) | ((with_reducible refine gate_callee (f := 36) rfl ?_); refine goesL_ (some 23) rfl rfl Tryd.func36 (by kernel_rfl) rfl #[.string ((rd_T30 l0 x12_1).f1), .string a1] rfl (by (try simp only [List.map_toArray, List.map_cons, List.map_nil]); first | done | rfl | (simp only [List.length_drop, List.length_take]; rfl)) ?_; (with_reducible refine (match_Match.calls ((rd_T30 l0 x12_1).f1) a1 true _ A7.out (Shp.below HS_.out (by repeat (first | (with_reducible first | exact HB.out | apply below_alloc | apply pw_below_drewN | apply below_drew1 | refine below_set ?_ GE102.out) | exact HB.out)))).mono ?_); rintro e w14 ⟨rfl, hb⟩; refine ⟨_, rfl, ?_⟩; have n0_ := Aside0.mk (blk_below (g := gb102) (o := .cells #[.bool ((rd_T30 l0 x12_1).f0), .string ((rd_T30 l0 x12_1).f1)] 30 (0, 0)) (by (with_reducible repeat (first | refine blk_drewN ?_ _ | refine blk_drew ?_ | refine blk_alloc ?_ _)); exact BK102.out) hb); have n1_ := Aside0.mk (below_step (by repeat (first | (with_reducible first | exact HB.out | apply below_alloc | apply pw_below_drewN | apply below_drew1 | refine below_set ?_ GE102.out) | exact HB.out)) hb); clear BK102; clear HB; have BK102 := n0_; have HB := n1_; clear n0_ n1_; (try clear hb); (try clear hb2); (try clear hk); (try clear hi)))
                go_roundg k1
                case measure => have := HK1.out; omega
                case rel => exact ⟨(x5_1), (x6_1), (wrap64 (x12_1 + 1)), (by first | rfl | (simp; done) | (simp [*]; done)), (by first | rfl | (simp; done) | (simp [*]; done)), (by first | rfl | (simp; done) | (simp [*]; done)), H', ⟨by have := HK1.out; omega⟩, ⟨by repeat (first | (with_reducible first | exact HB.out | apply below_alloc | apply pw_below_drewN | apply below_drew1 | refine below_set ?_ GE102.out) | exact HB.out)⟩⟩
              · rw [if_neg c9] at H
                have c9b0 : decide ((t103.size : Int) < x5_1) = false := decide_eq_false c9
                clear c9
                obtain ⟨bq15, hbq15⟩ : ∃ b_ : Bool, b_ = ((rd_T30 l0 x12_1).f0) := ⟨_, rfl⟩
                replace H : (if bq15 = true then (match_Allowed.l0 k1 a1 (t103.size : Int) true l0 (l0.length : Int) (wrap64 (x12_1 + 1))) else (if (t103.size : Int) = x5_1 then (match_Allowed.l0 k1 a1 (t103.size : Int) x6_1 l0 (l0.length : Int) (wrap64 (x12_1 + 1))) else (match_Allowed.l0 k1 a1 (t103.size : Int) false l0 (l0.length : Int) (wrap64 (x12_1 + 1))))) = some r := by rw [← hbq15] at H; exact H
                have Nbq15 := Aside0.mk hbq15
                clear hbq15
                by_cases c16 : bq15 = true
                · subst c16
                  have H1 : (match_Allowed.l0 k1 a1 (t103.size : Int) true l0 (l0.length : Int) (wrap64 (x12_1 + 1))) = some r := by rw [if_pos rfl] at H; exact H
                  clear H
                  have H := H1
                  clear H1
                  have H' := Aside0.mk H
                  clear H
                  have p101 : 0 ≤ (x12_1 : Int) := of_decide_eq_true (by first | (with_reducible assumption) | assumption)
                  have q101 : x12_1 < (l0.length : Int) := of_decide_eq_true (by first | (with_reducible assumption) | assumption)
                  obtain ⟨ad101, e101, hx101_0, hx101_1⟩ := at_T30 HR0.out x12_1 p101 q101
                  (try rw [← Nbq15.out] at hx101_0)
                  cases e101
                  replace hx101_0 := (HB.out.cell (World.block_lt_of_cell? w _ hx101_0)).trans hx101_0
                  replace hx101_1 := (HB.out.cell (World.block_lt_of_cell? w _ hx101_1)).trans hx101_1
                  replace p101 := eq_true p101
                  replace q101 := eq_true q101
                  go_wp2_with (first | ((with_reducible refine gate_dst (N := 8) rfl ?_); refine box_event ?hg (N := 8) ?hd (cs := #[.bool false, .string (⟨#[]⟩ : ByteArray)]) (t := 30) ?hr ?_; (case hd => rfl); (case hg => rfl); (case hr => first | (go_simp; done) | (go_simp; rfl)); intro gb102 hg w17 hbox hb; have n0_ := Aside0.mk (below_step (by repeat (first | (with_reducible first | exact HB.out | apply below_alloc | apply pw_below_drewN | apply below_drew1) | exact HB.out)) hb); have n1_ := Aside0.mk (hbox); have n2_ := Aside0.mk ((by rw [hg]; exact (below_size (by repeat (first | (with_reducible first | exact HB.out | apply below_alloc | apply pw_below_drewN | apply below_drew1) | exact HB.out))) : w.heap.size ≤ gb102)); have n3_ := Aside0.mk ((by rw [hg]; exact (below_size (by repeat (first | (with_reducible first | exact HB.out | apply below_alloc | apply pw_below_drewN | apply below_drew1) | exact HB.out))) : w.heap.size ≤ gb102)); clear HB; have HB := n0_; have BK102 := n1_; have GW102 := n2_; have GE102 := n3_; clear n0_ n1_ n2_ n3_; clear hb hbox hg; have hcz18_0 : w17.cell? ⟨gb102, 0, none⟩ = some (.bool false) := (blk_cell BK102.out 0).trans rfl; have hcz18_1 : w17.cell? ⟨gb102, 1, none⟩ = some (.string (⟨#[]⟩ : ByteArray)) := (blk_cell BK102.out 1).trans rfl; have hfz18_0 := blk_frozen BK102.out 0; have hfz18_1 := blk_frozen BK102.out 1) | ((with_reducible refine gate_callee (f := 35) rfl ?_); refine goesL_ (some 18) rfl rfl Tryd.func35 (by kernel_rfl) rfl #[.string ((rd_T30 l0 x12_1).f1)] rfl (by (try simp only [List.map_toArray, List.map_cons, List.map_nil]); first | done | rfl | (simp only [List.length_drop, List.length_take]; rfl)) ?_; (with_reducible refine (match_one.calls ((rd_T30 l0 x12_1).f1) t103 _ A6.out).mono ?_); rintro e w19 ⟨rfl, hb⟩; refine ⟨_, rfl, ?_⟩; have n0_ := Aside0.mk (blk_below (g := gb102) (o := .cells #[.bool true, .string ((rd_T30 l0 x12_1).f1)] 30 (0, 0)) (by (with_reducible repeat (first | refine blk_drewN ?_ _ | refine blk_drew ?_ | refine blk_alloc ?_ _)); refine blk_put (cs := #[.bool true, .string (⟨#[]⟩ : ByteArray)]) ?_ 1 _ rfl; (with_reducible repeat (first | refine blk_drewN ?_ _ | refine blk_drew ?_ | refine blk_alloc ?_ _)); refine blk_put (cs := #[.bool false, .string (⟨#[]⟩ : ByteArray)]) ?_ 0 _ rfl; (with_reducible repeat (first | refine blk_drewN ?_ _ | refine blk_drew ?_ | refine blk_alloc ?_ _)); exact BK102.out) hb); have n1_ := Aside0.mk (below_step (by repeat (first | (with_reducible first | exact HB.out | apply below_alloc | apply pw_below_drewN | apply below_drew1 | refine below_set ?_ GE102.out) | exact HB.out)) hb); clear BK102; clear HB; have BK102 := n0_; have HB := n1_; clear n0_ n1_; (try clear hb); (try clear hb2); (try clear hk); (try clear hi); have hcz20_0 : w19.cell? ⟨gb102, 0, none⟩ = some (.bool true) := (blk_cell BK102.out 0).trans rfl; have hcz20_1 : w19.cell? ⟨gb102, 1, none⟩ = some (.string ((rd_T30 l0 x12_1).f1)) := (blk_cell BK102.out 1).trans rfl; have hfz20_0 := blk_frozen BK102.out 0; have hfz20_1 := blk_frozen BK102.out 1) | ((with_reducible refine gate_callee (f := 36) rfl ?_); refine goesL_ (some 23) rfl rfl Tryd.func36 (by kernel_rfl) rfl #[.string ((rd_T30 l0 x12_1).f1), .string a1] rfl (by (try simp only [List.map_toArray, List.map_cons, List.map_nil]); first | done | rfl | (simp only [List.length_drop, List.length_take]; rfl)) ?_; (with_reducible refine (match_Match.calls ((rd_T30 l0 x12_1).f1) a1 true _ A7.out (Shp.below HS_.out (by repeat (first | (with_reducible first | exact HB.out | apply below_alloc | apply pw_below_drewN | apply below_drew1 | refine below_set ?_ GE102.out) | exact HB.out)))).mono ?_); rintro e w21 ⟨rfl, hb⟩; refine ⟨_, rfl, ?_⟩; have n0_ := Aside0.mk (blk_below (g := gb102) (o := .cells #[.bool true, .string ((rd_T30 l0 x12_1).f1)] 30 (0, 0)) (by (with_reducible repeat (first | refine blk_drewN ?_ _ | refine blk_drew ?_ | refine blk_alloc ?_ _)); exact BK102.out) hb); have n1_ := Aside0.mk (below_step (by repeat (first | (with_reducible first | exact HB.out | apply below_alloc | apply pw_below_drewN | apply below_drew1 | refine below_set ?_ GE102.out) | exact HB.out)) hb); clear BK102; clear HB; have BK102 := n0_; have HB := n1_; clear n0_ n1_; (try clear hb); (try clear hb2); (try clear hk); (try clear hi); have hcz22_0 : w21.cell? ⟨gb102, 0, none⟩ = some (.bool true) := (blk_cell BK102.out 0).trans rfl; have hcz22_1 : w21.cell? ⟨gb102, 1, none⟩ = some (.string ((rd_T30 l0 x12_1).f1)) := (blk_cell BK102.out 1).trans rfl; have hfz22_0 := blk_frozen BK102.out 0; have hfz22_1 := blk_frozen BK102.out 1))
                  go_roundg k1
                  case measure => have := HK1.out; omega
                  case rel => exact ⟨((t103.size : Int)), (true), (wrap64 (x12_1 + 1)), (by first | rfl | (simp; done) | (simp [*]; done)), (by first | rfl | (simp; done) | (simp [*]; done)), (by first | rfl | (simp; done) | (simp [*]; done)), H', ⟨by have := HK1.out; omega⟩, ⟨by repeat (first | (with_reducible first | exact HB.out | apply below_alloc | apply pw_below_drewN | apply below_drew1 | refine below_set ?_ GE102.out) | exact HB.out)⟩⟩
                · replace c16 := Bool.eq_false_iff.mpr c16
                  subst c16
                  have H1 : (if (t103.size : Int) = x5_1 then (match_Allowed.l0 k1 a1 (t103.size : Int) x6_1 l0 (l0.length : Int) (wrap64 (x12_1 + 1))) else (match_Allowed.l0 k1 a1 (t103.size : Int) false l0 (l0.length : Int) (wrap64 (x12_1 + 1)))) = some r := by rw [if_neg (show ¬ (false = true) by decide)] at H; exact H
                  clear H
                  have H := H1
                  clear H1
                  by_cases c23 : (t103.size : Int) = x5_1
                  · rw [if_pos c23] at H
                    have c23b0 : ((t103.size : Int) == x5_1) = true := beq_iff_eq.mpr c23
                    have c23b1 : ((t103.size : Int) != x5_1) = false := bne_eq_false_iff_eq.mpr c23
                    clear c23
                    have H' := Aside0.mk H
                    clear H
                    have p101 : 0 ≤ (x12_1 : Int) := of_decide_eq_true (by first | (with_reducible assumption) | assumption)
                    have q101 : x12_1 < (l0.length : Int) := of_decide_eq_true (by first | (with_reducible assumption) | assumption)
                    obtain ⟨ad101, e101, hx101_0, hx101_1⟩ := at_T30 HR0.out x12_1 p101 q101
                    (try rw [← Nbq15.out] at hx101_0)
                    cases e101
                    replace hx101_0 := (HB.out.cell (World.block_lt_of_cell? w _ hx101_0)).trans hx101_0
                    replace hx101_1 := (HB.out.cell (World.block_lt_of_cell? w _ hx101_1)).trans hx101_1
                    replace p101 := eq_true p101
                    replace q101 := eq_true q101
                    go_wp2_with (first | ((with_reducible refine gate_dst (N := 8) rfl ?_); refine box_event ?hg (N := 8) ?hd (cs := #[.bool false, .string (⟨#[]⟩ : ByteArray)]) (t := 30) ?hr ?_; (case hd => rfl); (case hg => rfl); (case hr => first | (go_simp; done) | (go_simp; rfl)); intro gb102 hg w24 hbox hb; have n0_ := Aside0.mk (below_step (by repeat (first | (with_reducible first | exact HB.out | apply below_alloc | apply pw_below_drewN | apply below_drew1) | exact HB.out)) hb); have n1_ := Aside0.mk (hbox); have n2_ := Aside0.mk ((by rw [hg]; exact (below_size (by repeat (first | (with_reducible first | exact HB.out | apply below_alloc | apply pw_below_drewN | apply below_drew1) | exact HB.out))) : w.heap.size ≤ gb102)); have n3_ := Aside0.mk ((by rw [hg]; exact (below_size (by repeat (first | (with_reducible first | exact HB.out | apply below_alloc | apply pw_below_drewN | apply below_drew1) | exact HB.out))) : w.heap.size ≤ gb102)); clear HB; have HB := n0_; have BK102 := n1_; have GW102 := n2_; have GE102 := n3_; clear n0_ n1_ n2_ n3_; clear hb hbox hg; have hcz25_0 : w24.cell? ⟨gb102, 0, none⟩ = some (.bool false) := (blk_cell BK102.out 0).trans rfl; have hcz25_1 : w24.cell? ⟨gb102, 1, none⟩ = some (.string (⟨#[]⟩ : ByteArray)) := (blk_cell BK102.out 1).trans rfl; have hfz25_0 := blk_frozen BK102.out 0; have hfz25_1 := blk_frozen BK102.out 1) | ((with_reducible refine gate_callee (f := 35) rfl ?_); refine goesL_ (some 18) rfl rfl Tryd.func35 (by kernel_rfl) rfl #[.string ((rd_T30 l0 x12_1).f1)] rfl (by (try simp only [List.map_toArray, List.map_cons, List.map_nil]); first | done | rfl | (simp only [List.length_drop, List.length_take]; rfl)) ?_; (with_reducible refine (match_one.calls ((rd_T30 l0 x12_1).f1) t103 _ A6.out).mono ?_); rintro e w26 ⟨rfl, hb⟩; refine ⟨_, rfl, ?_⟩; have n0_ := Aside0.mk (blk_below (g := gb102) (o := .cells #[.bool false, .string ((rd_T30 l0 x12_1).f1)] 30 (0, 0)) (by (with_reducible repeat (first | refine blk_drewN ?_ _ | refine blk_drew ?_ | refine blk_alloc ?_ _)); refine blk_put (cs := #[.bool false, .string (⟨#[]⟩ : ByteArray)]) ?_ 1 _ rfl; (with_reducible repeat (first | refine blk_drewN ?_ _ | refine blk_drew ?_ | refine blk_alloc ?_ _)); refine blk_put (cs := #[.bool false, .string (⟨#[]⟩ : ByteArray)]) ?_ 0 _ rfl; (with_reducible repeat (first | refine blk_drewN ?_ _ | refine blk_drew ?_ | refine blk_alloc ?_ _)); exact BK102.out) hb); have n1_ := Aside0.mk (below_step (by repeat (first | (with_reducible first | exact HB.out | apply below_alloc | apply pw_below_drewN | apply below_drew1 | refine below_set ?_ GE102.out) | exact HB.out)) hb); clear BK102; clear HB; have BK102 := n0_; have HB := n1_; clear n0_ n1_; (try clear hb); (try clear hb2); (try clear hk); (try clear hi); have hcz27_0 : w26.cell? ⟨gb102, 0, none⟩ = some (.bool false) := (blk_cell BK102.out 0).trans rfl; have hcz27_1 : w26.cell? ⟨gb102, 1, none⟩ = some (.string ((rd_T30 l0 x12_1).f1)) := (blk_cell BK102.out 1).trans rfl; have hfz27_0 := blk_frozen BK102.out 0; have hfz27_1 := blk_frozen BK102.out 1) | ((with_reducible refine gate_callee (f := 36) rfl ?_); refine goesL_ (some 23) rfl rfl Tryd.func36 (by kernel_rfl) rfl #[.string ((rd_T30 l0 x12_1).f1), .string a1] rfl (by (try simp only [List.map_toArray, List.map_cons, List.map_nil]); first | done | rfl | (simp only [List.length_drop, List.length_take]; rfl)) ?_; (with_reducible refine (match_Match.calls ((rd_T30 l0 x12_1).f1) a1 true _ A7.out (Shp.below HS_.out (by repeat (first | (with_reducible first | exact HB.out | apply below_alloc | apply pw_below_drewN | apply below_drew1 | refine below_set ?_ GE102.out) | exact HB.out)))).mono ?_); rintro e w28 ⟨rfl, hb⟩; refine ⟨_, rfl, ?_⟩; have n0_ := Aside0.mk (blk_below (g := gb102) (o := .cells #[.bool false, .string ((rd_T30 l0 x12_1).f1)] 30 (0, 0)) (by (with_reducible repeat (first | refine blk_drewN ?_ _ | refine blk_drew ?_ | refine blk_alloc ?_ _)); exact BK102.out) hb); have n1_ := Aside0.mk (below_step (by repeat (first | (with_reducible first | exact HB.out | apply below_alloc | apply pw_below_drewN | apply below_drew1 | refine below_set ?_ GE102.out) | exact HB.out)) hb); clear BK102; clear HB; have BK102 := n0_; have HB := n1_; clear n0_ n1_; (try clear hb); (try clear hb2); (try clear hk); (try clear hi); have hcz29_0 : w28.cell? ⟨gb102, 0, none⟩ = some (.bool false) := (blk_cell BK102.out 0).trans rfl; have hcz29_1 : w28.cell? ⟨gb102, 1, none⟩ = some (.string ((rd_T30 l0 x12_1).f1)) := (blk_cell BK102.out 1).trans rfl; have hfz29_0 := blk_frozen BK102.out 0; have hfz29_1 := blk_frozen BK102.out 1))
                    go_roundg k1
                    case measure => have := HK1.out; omega
                    case rel => exact ⟨((t103.size : Int)), (x6_1), (wrap64 (x12_1 + 1)), (by first | rfl | (simp; done) | (simp [*]; done)), (by first | rfl | (simp; done) | (simp [*]; done)), (by first | rfl | (simp; done) | (simp [*]; done)), H', ⟨by have := HK1.out; omega⟩, ⟨by repeat (first | (with_reducible first | exact HB.out | apply below_alloc | apply pw_below_drewN | apply below_drew1 | refine below_set ?_ GE102.out) | exact HB.out)⟩⟩
                  · rw [if_neg c23] at H
                    have c23b0 : ((t103.size : Int) == x5_1) = false := beq_eq_false_iff_ne.mpr c23
                    have c23b1 : ((t103.size : Int) != x5_1) = true := bne_iff_ne.mpr c23
                    have H' := Aside0.mk H
                    clear H
                    have p101 : 0 ≤ (x12_1 : Int) := of_decide_eq_true (by first | (with_reducible assumption) | assumption)
                    have q101 : x12_1 < (l0.length : Int) := of_decide_eq_true (by first | (with_reducible assumption) | assumption)
                    obtain ⟨ad101, e101, hx101_0, hx101_1⟩ := at_T30 HR0.out x12_1 p101 q101
                    (try rw [← Nbq15.out] at hx101_0)
                    cases e101
                    replace hx101_0 := (HB.out.cell (World.block_lt_of_cell? w _ hx101_0)).trans hx101_0
                    replace hx101_1 := (HB.out.cell (World.block_lt_of_cell? w _ hx101_1)).trans hx101_1
                    replace p101 := eq_true p101
                    replace q101 := eq_true q101
                    go_wp2_with (first | ((with_reducible refine gate_dst (N := 8) rfl ?_); refine box_event ?hg (N := 8) ?hd (cs := #[.bool false, .string (⟨#[]⟩ : ByteArray)]) (t := 30) ?hr ?_; (case hd => rfl); (case hg => rfl); (case hr => first | (go_simp; done) | (go_simp; rfl)); intro gb102 hg w30 hbox hb; have n0_ := Aside0.mk (below_step (by repeat (first | (with_reducible first | exact HB.out | apply below_alloc | apply pw_below_drewN | apply below_drew1) | exact HB.out)) hb); have n1_ := Aside0.mk (hbox); have n2_ := Aside0.mk ((by rw [hg]; exact (below_size (by repeat (first | (with_reducible first | exact HB.out | apply below_alloc | apply pw_below_drewN | apply below_drew1) | exact HB.out))) : w.heap.size ≤ gb102)); have n3_ := Aside0.mk ((by rw [hg]; exact (below_size (by repeat (first | (with_reducible first | exact HB.out | apply below_alloc | apply pw_below_drewN | apply below_drew1) | exact HB.out))) : w.heap.size ≤ gb102)); clear HB; have HB := n0_; have BK102 := n1_; have GW102 := n2_; have GE102 := n3_; clear n0_ n1_ n2_ n3_; clear hb hbox hg; have hcz31_0 : w30.cell? ⟨gb102, 0, none⟩ = some (.bool false) := (blk_cell BK102.out 0).trans rfl; have hcz31_1 : w30.cell? ⟨gb102, 1, none⟩ = some (.string (⟨#[]⟩ : ByteArray)) := (blk_cell BK102.out 1).trans rfl; have hfz31_0 := blk_frozen BK102.out 0; have hfz31_1 := blk_frozen BK102.out 1) | ((with_reducible refine gate_callee (f := 35) rfl ?_); refine goesL_ (some 18) rfl rfl Tryd.func35 (by kernel_rfl) rfl #[.string ((rd_T30 l0 x12_1).f1)] rfl (by (try simp only [List.map_toArray, List.map_cons, List.map_nil]); first | done | rfl | (simp only [List.length_drop, List.length_take]; rfl)) ?_; (with_reducible refine (match_one.calls ((rd_T30 l0 x12_1).f1) t103 _ A6.out).mono ?_); rintro e w32 ⟨rfl, hb⟩; refine ⟨_, rfl, ?_⟩; have n0_ := Aside0.mk (blk_below (g := gb102) (o := .cells #[.bool false, .string ((rd_T30 l0 x12_1).f1)] 30 (0, 0)) (by (with_reducible repeat (first | refine blk_drewN ?_ _ | refine blk_drew ?_ | refine blk_alloc ?_ _)); refine blk_put (cs := #[.bool false, .string (⟨#[]⟩ : ByteArray)]) ?_ 1 _ rfl; (with_reducible repeat (first | refine blk_drewN ?_ _ | refine blk_drew ?_ | refine blk_alloc ?_ _)); refine blk_put (cs := #[.bool false, .string (⟨#[]⟩ : ByteArray)]) ?_ 0 _ rfl; (with_reducible repeat (first | refine blk_drewN ?_ _ | refine blk_drew ?_ | refine blk_alloc ?_ _)); exact BK102.out) hb); have n1_ := Aside0.mk (below_step (by repeat (first | (with_reducible first | exact HB.out | apply below_alloc | apply pw_below_drewN | apply below_drew1 | refine below_set ?_ GE102.out) | exact HB.out)) hb); clear BK102; clear HB; have BK102 := n0_; have HB := n1_; clear n0_ n1_; (try clear hb); (try clear hb2); (try clear hk); (try clear hi); have hcz33_0 : w32.cell? ⟨gb102, 0, none⟩ = some (.bool false) := (blk_cell BK102.out 0).trans rfl; have hcz33_1 : w32.cell? ⟨gb102, 1, none⟩ = some (.string ((rd_T30 l0 x12_1).f1)) := (blk_cell BK102.out 1).trans rfl; have hfz33_0 := blk_frozen BK102.out 0; have hfz33_1 := blk_frozen BK102.out 1) | ((with_reducible refine gate_callee (f := 36) rfl ?_); refine goesL_ (some 23) rfl rfl Tryd.func36 (by kernel_rfl) rfl #[.string ((rd_T30 l0 x12_1).f1), .string a1] rfl (by (try simp only [List.map_toArray, List.map_cons, List.map_nil]); first | done | rfl | (simp only [List.length_drop, List.length_take]; rfl)) ?_; (with_reducible refine (match_Match.calls ((rd_T30 l0 x12_1).f1) a1 true _ A7.out (Shp.below HS_.out (by repeat (first | (with_reducible first | exact HB.out | apply below_alloc | apply pw_below_drewN | apply below_drew1 | refine below_set ?_ GE102.out) | exact HB.out)))).mono ?_); rintro e w34 ⟨rfl, hb⟩; refine ⟨_, rfl, ?_⟩; have n0_ := Aside0.mk (blk_below (g := gb102) (o := .cells #[.bool false, .string ((rd_T30 l0 x12_1).f1)] 30 (0, 0)) (by (with_reducible repeat (first | refine blk_drewN ?_ _ | refine blk_drew ?_ | refine blk_alloc ?_ _)); exact BK102.out) hb); have n1_ := Aside0.mk (below_step (by repeat (first | (with_reducible first | exact HB.out | apply below_alloc | apply pw_below_drewN | apply below_drew1 | refine below_set ?_ GE102.out) | exact HB.out)) hb); clear BK102; clear HB; have BK102 := n0_; have HB := n1_; clear n0_ n1_; (try clear hb); (try clear hb2); (try clear hk); (try clear hi); have hcz35_0 : w34.cell? ⟨gb102, 0, none⟩ = some (.bool false) := (blk_cell BK102.out 0).trans rfl; have hcz35_1 : w34.cell? ⟨gb102, 1, none⟩ = some (.string ((rd_T30 l0 x12_1).f1)) := (blk_cell BK102.out 1).trans rfl; have hfz35_0 := blk_frozen BK102.out 0; have hfz35_1 := blk_frozen BK102.out 1))
                    go_roundg k1
                    case measure => have := HK1.out; omega
                    case rel => exact ⟨((t103.size : Int)), (false), (wrap64 (x12_1 + 1)), (by first | rfl | (simp; done) | (simp [*]; done)), (by first | rfl | (simp; done) | (simp [*]; done)), (by first | rfl | (simp; done) | (simp [*]; done)), H', ⟨by have := HK1.out; omega⟩, ⟨by repeat (first | (with_reducible first | exact HB.out | apply below_alloc | apply pw_below_drewN | apply below_drew1 | refine below_set ?_ GE102.out) | exact HB.out)⟩⟩
            · replace c8 := Bool.eq_false_iff.mpr c8
              subst c8
              have H1 : (match_Allowed.l0 k1 a1 x5_1 x6_1 l0 (l0.length : Int) (wrap64 (x12_1 + 1))) = some r := by rw [if_neg (show ¬ (false = true) by decide)] at H; exact H
              clear H
              have H := H1
              clear H1
              have H' := Aside0.mk H
              clear H
              have p101 : 0 ≤ (x12_1 : Int) := of_decide_eq_true (by first | (with_reducible assumption) | assumption)
              have q101 : x12_1 < (l0.length : Int) := of_decide_eq_true (by first | (with_reducible assumption) | assumption)
              obtain ⟨ad101, e101, hx101_0, hx101_1⟩ := at_T30 HR0.out x12_1 p101 q101
              cases e101
              replace hx101_0 := (HB.out.cell (World.block_lt_of_cell? w _ hx101_0)).trans hx101_0
              replace hx101_1 := (HB.out.cell (World.block_lt_of_cell? w _ hx101_1)).trans hx101_1
              replace p101 := eq_true p101
              replace q101 := eq_true q101
              go_wp2_with (first | ((with_reducible refine gate_dst (N := 8) rfl ?_); refine box_event ?hg (N := 8) ?hd (cs := #[.bool false, .string (⟨#[]⟩ : ByteArray)]) (t := 30) ?hr ?_; (case hd => rfl); (case hg => rfl); (case hr => first | (go_simp; done) | (go_simp; rfl)); intro gb102 hg w36 hbox hb; have n0_ := Aside0.mk (below_step (by repeat (first | (with_reducible first | exact HB.out | apply below_alloc | apply pw_below_drewN | apply below_drew1) | exact HB.out)) hb); have n1_ := Aside0.mk (hbox); have n2_ := Aside0.mk ((by rw [hg]; exact (below_size (by repeat (first | (with_reducible first | exact HB.out | apply below_alloc | apply pw_below_drewN | apply below_drew1) | exact HB.out))) : w.heap.size ≤ gb102)); have n3_ := Aside0.mk ((by rw [hg]; exact (below_size (by repeat (first | (with_reducible first | exact HB.out | apply below_alloc | apply pw_below_drewN | apply below_drew1) | exact HB.out))) : w.heap.size ≤ gb102)); clear HB; have HB := n0_; have BK102 := n1_; have GW102 := n2_; have GE102 := n3_; clear n0_ n1_ n2_ n3_; clear hb hbox hg; have hcz37_0 : w36.cell? ⟨gb102, 0, none⟩ = some (.bool false) := (blk_cell BK102.out 0).trans rfl; have hcz37_1 : w36.cell? ⟨gb102, 1, none⟩ = some (.string (⟨#[]⟩ : ByteArray)) := (blk_cell BK102.out 1).trans rfl; have hfz37_0 := blk_frozen BK102.out 0; have hfz37_1 := blk_frozen BK102.out 1) | ((with_reducible refine gate_callee (f := 35) rfl ?_); refine goesL_ (some 18) rfl rfl Tryd.func35 (by kernel_rfl) rfl #[.string ((rd_T30 l0 x12_1).f1)] rfl (by (try simp only [List.map_toArray, List.map_cons, List.map_nil]); first | done | rfl | (simp only [List.length_drop, List.length_take]; rfl)) ?_; (with_reducible refine (match_one.calls ((rd_T30 l0 x12_1).f1) t103 _ A6.out).mono ?_); rintro e w38 ⟨rfl, hb⟩; refine ⟨_, rfl, ?_⟩; have n0_ := Aside0.mk (blk_below (g := gb102) (o := .cells #[.bool ((rd_T30 l0 x12_1).f0), .string ((rd_T30 l0 x12_1).f1)] 30 (0, 0)) (by (with_reducible repeat (first | refine blk_drewN ?_ _ | refine blk_drew ?_ | refine blk_alloc ?_ _)); refine blk_put (cs := #[.bool ((rd_T30 l0 x12_1).f0), .string (⟨#[]⟩ : ByteArray)]) ?_ 1 _ rfl; (with_reducible repeat (first | refine blk_drewN ?_ _ | refine blk_drew ?_ | refine blk_alloc ?_ _)); refine blk_put (cs := #[.bool false, .string (⟨#[]⟩ : ByteArray)]) ?_ 0 _ rfl; (with_reducible repeat (first | refine blk_drewN ?_ _ | refine blk_drew ?_ | refine blk_alloc ?_ _)); exact BK102.out) hb); have n1_ := Aside0.mk (below_step (by repeat (first | (with_reducible first | exact HB.out | apply below_alloc | apply pw_below_drewN | apply below_drew1 | refine below_set ?_ GE102.out) | exact HB.out)) hb); clear BK102; clear HB; have BK102 := n0_; have HB := n1_; clear n0_ n1_; (try clear hb); (try clear hb2); (try clear hk); (try clear hi); have hcz39_0 : w38.cell? ⟨gb102, 0, none⟩ = some (.bool ((rd_T30 l0 x12_1).f0)) := (blk_cell BK102.out 0).trans rfl; have hcz39_1 : w38.cell? ⟨gb102, 1, none⟩ = some (.string ((rd_T30 l0 x12_1).f1)) := (blk_cell BK102.out 1).trans rfl; have hfz39_0 := blk_frozen BK102.out 0; have hfz39_1 := blk_frozen BK102.out 1) | ((with_reducible refine gate_callee (f := 36) rfl ?_); refine goesL_ (some 23) rfl rfl Tryd.func36 (by kernel_rfl) rfl #[.string ((rd_T30 l0 x12_1).f1), .string a1] rfl (by (try simp only [List.map_toArray, List.map_cons, List.map_nil]); first | done | rfl | (simp only [List.length_drop, List.length_take]; rfl)) ?_; (with_reducible refine (match_Match.calls ((rd_T30 l0 x12_1).f1) a1 false _ A7.out (Shp.below HS_.out (by repeat (first | (with_reducible first | exact HB.out | apply below_alloc | apply pw_below_drewN | apply below_drew1 | refine below_set ?_ GE102.out) | exact HB.out)))).mono ?_); rintro e w40 ⟨rfl, hb⟩; refine ⟨_, rfl, ?_⟩; have n0_ := Aside0.mk (blk_below (g := gb102) (o := .cells #[.bool ((rd_T30 l0 x12_1).f0), .string ((rd_T30 l0 x12_1).f1)] 30 (0, 0)) (by (with_reducible repeat (first | refine blk_drewN ?_ _ | refine blk_drew ?_ | refine blk_alloc ?_ _)); exact BK102.out) hb); have n1_ := Aside0.mk (below_step (by repeat (first | (with_reducible first | exact HB.out | apply below_alloc | apply pw_below_drewN | apply below_drew1 | refine below_set ?_ GE102.out) | exact HB.out)) hb); clear BK102; clear HB; have BK102 := n0_; have HB := n1_; clear n0_ n1_; (try clear hb); (try clear hb2); (try clear hk); (try clear hi)))
              go_roundg k1
              case measure => have := HK1.out; omega
              case rel => exact ⟨(x5_1), (x6_1), (wrap64 (x12_1 + 1)), (by first | rfl | (simp; done) | (simp [*]; done)), (by first | rfl | (simp; done) | (simp [*]; done)), (by first | rfl | (simp; done) | (simp [*]; done)), H', ⟨by have := HK1.out; omega⟩, ⟨by repeat (first | (with_reducible first | exact HB.out | apply below_alloc | apply pw_below_drewN | apply below_drew1 | refine below_set ?_ GE102.out) | exact HB.out)⟩⟩
          · rw [if_neg c5] at H
            exact absurd H (by simp)
        · rw [if_neg c4] at H
          exact absurd H (by simp)
      · rw [if_neg c3] at H
        have c3b0 : decide (x12_1 < (l0.length : Int)) = false := decide_eq_false c3
        clear c3
        obtain rfl := Option.some.inj H
        go_wp2
        go_ret
        exact ⟨by first | rfl | (simp [errW_none, errW_some] <;> rfl) | (simp [*, errW_none, errW_some] <;> rfl) | (simp [wrap64]; done), by repeat (first | (with_reducible first | exact HB.out | apply below_alloc | apply pw_below_drewN | apply below_drew1) | exact HB.out)⟩

def robots_Allowed.j0 : Nat → ByteArray → Bool → Bool → Bool → List (S30) → Int → Option (Bool)
  | 0, _, _, _, _, _, _ => none
  | k + 1, x1, x5, x106000, x106001, x106002, x106003 => if x5 = true then (some true) else (if x106001 = true then (some false) else ((match_Allowed.f k x106002 x1).bind fun t106 => (some t106)))
def robots_Allowed.f (k : Nat) (a0_0 : Bool) (a0_1 : Bool) (l0_2 : List (S30)) (a0_3 : Int) (a1 : ByteArray) : Option (Bool) := if a1.toList = ([47, 114, 111, 98, 111, 116, 115, 46, 116, 120, 116] : List UInt8) then (robots_Allowed.j0 k a1 true a0_0 a0_1 l0_2 a0_3) else (robots_Allowed.j0 k a1 a0_0 a0_0 a0_1 l0_2 a0_3)
set_option maxHeartbeats 8000000 in
set_option maxRecDepth 100000 in
theorem robots_Allowed.calls (k : Nat) (a0_0 : Bool) (a0_1 : Bool) (A0_2 : Option Addr) (c0_2 : Nat) (l0_2 : List (S30)) (a0_3 : Int) (a1 : ByteArray) (r : Bool) (w : World) (hr0_2 : Kd.C k30 w A0_2 l0_2.length l0_2) (hc0_2 : l0_2.length ≤ c0_2) (h : robots_Allowed.f k a0_0 a0_1 l0_2 a0_3 a1 = some r) (hS_ : Shp w) :
    Calls Tryd.prog 11 #[.agg #[.bool a0_0, .bool a0_1, .slice A0_2 l0_2.length c0_2, .int .i64 a0_3], .string a1] w fun e w' => e = .returned (.bool r) ∧ Below w.heap.size w w' := by
  have hu26 := Tryd.underlying26
  have HR0_2 := Aside0.mk hr0_2
  have HC0_2 := Aside0.mk hc0_2
  clear hr0_2 hc0_2
  have HB := Aside0.mk (Below.refl w.heap.size w)
  have HS_ := Aside0.mk hS_
  clear hS_
  have H : (if a1.toList = ([47, 114, 111, 98, 111, 116, 115, 46, 116, 120, 116] : List UInt8) then (robots_Allowed.j0 k a1 true a0_0 a0_1 l0_2 a0_3) else (robots_Allowed.j0 k a1 a0_0 a0_0 a0_1 l0_2 a0_3)) = some r := h
  clear h
  have HC3 := Aside0.mk H
  clear H
  go_enter Tryd.func11, Tryd.ntmps11
  go_upto_region 1 with (first | ((with_reducible refine gate_dst (N := 2) rfl ?_); refine box_event ?hg (N := 2) ?hd (cs := #[.bool a0_0, .bool a0_1, .slice A0_2 l0_2.length c0_2, .int .i64 a0_3]) (t := 26) ?hr ?_; (case hd => rfl); (case hg => rfl); (case hr => first | (go_simp; done) | (go_simp; rfl)); intro gb105 hg w4 hbox hb; have n0_ := Aside0.mk (below_step (by repeat (first | (with_reducible first | exact HB.out | apply below_alloc | apply pw_below_drewN | apply below_drew1) | exact HB.out)) hb); have n1_ := Aside0.mk (hbox); have n2_ := Aside0.mk ((by rw [hg]; exact (below_size (by repeat (first | (with_reducible first | exact HB.out | apply below_alloc | apply pw_below_drewN | apply below_drew1) | exact HB.out))) : w.heap.size ≤ gb105)); have n3_ := Aside0.mk ((by rw [hg]; exact (below_size (by repeat (first | (with_reducible first | exact HB.out | apply below_alloc | apply pw_below_drewN | apply below_drew1) | exact HB.out))) : w.heap.size ≤ gb105)); clear HB; have HB := n0_; have BK105 := n1_; have GW105 := n2_; have GE105 := n3_; clear n0_ n1_ n2_ n3_; clear hb hbox hg))
  (try simp only [Act.put, List.setIfInBounds_toArray, List.set_cons_zero, List.set_cons_succ])
  go_cut [5] (fun v5 wc => ∃ (kq : Nat) (x5_2 : Bool), v5 = .bool x5_2 ∧ Aside0 (robots_Allowed.j0 kq a1 x5_2 a0_0 a0_1 l0_2 a0_3 = some r) ∧ Aside0 (kq ≤ k) ∧ Aside0 (wc.heap[gb105]? = some (.cells #[.bool a0_0, .bool a0_1, (.slice A0_2 l0_2.length c0_2), .int .i64 a0_3] 26 (0, 0))) ∧ Aside0 (Below w.heap.size w wc))
  case first =>
    have H := HC3.out
    clear HC3
    by_cases c5 : a1.toList = ([47, 114, 111, 98, 111, 116, 115, 46, 116, 120, 116] : List UInt8)
    · rw [if_pos c5] at H
      have c5b0 : (a1.toList == ([47, 114, 111, 98, 111, 116, 115, 46, 116, 120, 116] : List UInt8)) = true := beq_iff_eq.mpr c5
      have c5b1 : (a1.toList != ([47, 114, 111, 98, 111, 116, 115, 46, 116, 120, 116] : List UInt8)) = false := bne_eq_false_iff_eq.mpr c5
      clear c5
      (first | rw [c5b0] | (simp only [i64_w, i32_w]; rw [c5b0]) | skip)
      have H' := Aside0.mk H
      clear H
      go_wp2
      go_meet
      case rel => exact ⟨_, (true), (by first | rfl | (simp; done) | (simp [*]; done)), H', ⟨by first | omega | exact Nat.le_refl _⟩, ⟨by (with_reducible repeat (first | refine blk_drewN ?_ _ | refine blk_drew ?_ | refine blk_alloc ?_ _)); exact BK105.out⟩, ⟨by repeat (first | (with_reducible first | exact HB.out | apply below_alloc | apply pw_below_drewN | apply below_drew1 | refine below_set ?_ GE105.out) | exact HB.out)⟩⟩
    · rw [if_neg c5] at H
      have c5b0 : (a1.toList == ([47, 114, 111, 98, 111, 116, 115, 46, 116, 120, 116] : List UInt8)) = false := beq_eq_false_iff_ne.mpr c5
      have c5b1 : (a1.toList != ([47, 114, 111, 98, 111, 116, 115, 46, 116, 120, 116] : List UInt8)) = true := bne_iff_ne.mpr c5
      (first | rw [c5b0] | (simp only [i64_w, i32_w]; rw [c5b0]) | skip)
      have H' := Aside0.mk H
      clear H
      have hcz6_0 : w4.cell? ⟨gb105, 0, none⟩ = some (.bool a0_0) := (blk_cell BK105.out 0).trans rfl
      have hcz6_1 : w4.cell? ⟨gb105, 1, none⟩ = some (.bool a0_1) := (blk_cell BK105.out 1).trans rfl
      have hcz6_2 : w4.cell? ⟨gb105, 2, none⟩ = some (.slice A0_2 l0_2.length c0_2) := (blk_cell BK105.out 2).trans rfl
      have hcz6_3 : w4.cell? ⟨gb105, 3, none⟩ = some (.int .i64 a0_3) := (blk_cell BK105.out 3).trans rfl
      have hfz6_0 := blk_frozen BK105.out 0
      have hfz6_1 := blk_frozen BK105.out 1
      have hfz6_2 := blk_frozen BK105.out 2
      have hfz6_3 := blk_frozen BK105.out 3
      go_wp2
      go_meet
      case rel => exact ⟨_, (a0_0), (by first | rfl | (simp; done) | (simp [*]; done)), H', ⟨by first | omega | exact Nat.le_refl _⟩, ⟨by (with_reducible repeat (first | refine blk_drewN ?_ _ | refine blk_drew ?_ | refine blk_alloc ?_ _)); exact BK105.out⟩, ⟨by repeat (first | (with_reducible first | exact HB.out | apply below_alloc | apply pw_below_drewN | apply below_drew1 | refine below_set ?_ GE105.out) | exact HB.out)⟩⟩
  case rest =>
    clear HC3
    try clear c1
    try clear p2
    try clear c5
    try clear c5b0
    try clear c5b1
    try clear hcz6_0
    try clear hcz6_1
    try clear hcz6_2
    try clear hcz6_3
    try clear hfz6_0
    try clear hfz6_1
    try clear hfz6_2
    try clear hfz6_3
    obtain ⟨kq, x5_2, rfl, HA, HJ2, BK105, HB⟩ := hcut
    cases kq with
    | zero => exact absurd HA.out (by simp [robots_Allowed.j0])
    | succ kj2 =>
      have H := HA.out
      clear HA
      simp only [robots_Allowed.j0] at H
      by_cases c7 : x5_2 = true
      · subst c7
        have H1 : (some true) = some r := by rw [if_pos rfl] at H; exact H
        clear H
        have H := H1
        clear H1
        obtain rfl := Option.some.inj H
        go_wp2
        go_ret
        exact ⟨by first | rfl | (simp [errW_none, errW_some] <;> rfl) | (simp [*, errW_none, errW_some] <;> rfl) | (simp [wrap64]; done), by repeat (first | (with_reducible first | exact HB.out | apply below_alloc | apply pw_below_drewN | apply below_drew1 | refine below_set ?_ GE105.out) | exact HB.out)⟩
      · replace c7 := Bool.eq_false_iff.mpr c7
        subst c7
        have H1 : (if a0_1 = true then (some false) else ((match_Allowed.f kj2 l0_2 a1).bind fun t106 => (some t106))) = some r := by rw [if_neg (show ¬ (false = true) by decide)] at H; exact H
        clear H
        have H := H1
        clear H1
        by_cases c8 : a0_1 = true
        · subst c8
          have H1 : (some false) = some r := by rw [if_pos rfl] at H; exact H
          clear H
          have H := H1
          clear H1
          obtain rfl := Option.some.inj H
          have hcz9_0 : wc.cell? ⟨gb105, 0, none⟩ = some (.bool a0_0) := (blk_cell BK105.out 0).trans rfl
          have hcz9_1 : wc.cell? ⟨gb105, 1, none⟩ = some (.bool true) := (blk_cell BK105.out 1).trans rfl
          have hcz9_2 : wc.cell? ⟨gb105, 2, none⟩ = some (.slice A0_2 l0_2.length c0_2) := (blk_cell BK105.out 2).trans rfl
          have hcz9_3 : wc.cell? ⟨gb105, 3, none⟩ = some (.int .i64 a0_3) := (blk_cell BK105.out 3).trans rfl
          have hfz9_0 := blk_frozen BK105.out 0
          have hfz9_1 := blk_frozen BK105.out 1
          have hfz9_2 := blk_frozen BK105.out 2
          have hfz9_3 := blk_frozen BK105.out 3
          go_wp2
          go_ret
          exact ⟨by first | rfl | (simp [errW_none, errW_some] <;> rfl) | (simp [*, errW_none, errW_some] <;> rfl) | (simp [wrap64]; done), by repeat (first | (with_reducible first | exact HB.out | apply below_alloc | apply pw_below_drewN | apply below_drew1 | refine below_set ?_ GE105.out) | exact HB.out)⟩
        · replace c8 := Bool.eq_false_iff.mpr c8
          subst c8
          have H1 : ((match_Allowed.f kj2 l0_2 a1).bind fun t106 => (some t106)) = some r := by rw [if_neg (show ¬ (false = true) by decide)] at H; exact H
          clear H
          have H := H1
          clear H1
          replace H := Option.bind_eq_some_iff.mp H
          obtain ⟨t106, A100, H⟩ := H
          replace H : (some t106) = some r := H
          have A10 := Aside0.mk A100
          clear A100
          obtain rfl := Option.some.inj H
          have hcz11_0 : wc.cell? ⟨gb105, 0, none⟩ = some (.bool a0_0) := (blk_cell BK105.out 0).trans rfl
          have hcz11_1 : wc.cell? ⟨gb105, 1, none⟩ = some (.bool false) := (blk_cell BK105.out 1).trans rfl
          have hcz11_2 : wc.cell? ⟨gb105, 2, none⟩ = some (.slice A0_2 l0_2.length c0_2) := (blk_cell BK105.out 2).trans rfl
          have hcz11_3 : wc.cell? ⟨gb105, 3, none⟩ = some (.int .i64 a0_3) := (blk_cell BK105.out 3).trans rfl
          have hfz11_0 := blk_frozen BK105.out 0
          have hfz11_1 := blk_frozen BK105.out 1
          have hfz11_2 := blk_frozen BK105.out 2
          have hfz11_3 := blk_frozen BK105.out 3
          go_wp2_with (first | ((with_reducible refine gate_callee (f := 21) rfl ?_); refine goesL_ (some 18) rfl rfl Tryd.func21 (by kernel_rfl) rfl #[.slice A0_2 l0_2.length c0_2, .string a1] rfl (by (try simp only [List.map_toArray, List.map_cons, List.map_nil]); first | done | rfl | (simp only [List.length_drop, List.length_take]; rfl)) ?_; (with_reducible refine (match_Allowed.calls kj2 _ _ l0_2 a1 t106 _ ?side1 ?side2 A10.out (Shp.below HS_.out (by repeat (first | (with_reducible first | exact HB.out | apply below_alloc | apply pw_below_drewN | apply below_drew1 | refine below_set ?_ GE105.out) | exact HB.out)))).mono ?_); (case side1 => repeat (first | exact (Kd.C_below HR0_2.out HB.out) | (with_reducible refine Kd.C_alloc ?_ _) | (with_reducible refine Kd.C_drewN ?_ _) | (with_reducible refine Kd.C_drew ?_))); (case side2 => exact HC0_2.out); rintro e w12 ⟨rfl, hb⟩; refine ⟨_, rfl, ?_⟩; have n0_ := Aside0.mk (blk_below (g := gb105) (o := .cells #[.bool a0_0, .bool false, .slice A0_2 l0_2.length c0_2, .int .i64 a0_3] 26 (0, 0)) (by (with_reducible repeat (first | refine blk_drewN ?_ _ | refine blk_drew ?_ | refine blk_alloc ?_ _)); exact BK105.out) hb); have n1_ := Aside0.mk (below_step (by repeat (first | (with_reducible first | exact HB.out | apply below_alloc | apply pw_below_drewN | apply below_drew1 | refine below_set ?_ GE105.out) | exact HB.out)) hb); clear BK105; clear HB; have BK105 := n0_; have HB := n1_; clear n0_ n1_; (try clear hb); (try clear hb2); (try clear hk); (try clear hi)))
          go_ret
          exact ⟨by first | rfl | (simp [errW_none, errW_some] <;> rfl) | (simp [*, errW_none, errW_some] <;> rfl) | (simp [wrap64]; done), by repeat (first | (with_reducible first | exact HB.out | apply below_alloc | apply pw_below_drewN | apply below_drew1 | refine below_set ?_ GE105.out) | exact HB.out)⟩

def decorumref09_May.f (k : Nat) (a0_0 : Bool) (a0_1 : Bool) (l0_2 : List (S30)) (a0_3 : Int) (a1 : ByteArray) : Option (Bool) := if a1.toList = ([47, 114, 111, 98, 111, 116, 115, 46, 116, 120, 116] : List UInt8) then (some true) else (if a0_0 = true then (some true) else (if a0_1 = true then (some false) else ((decorumref09_Allowed.f k l0_2 a1).bind fun t108 => (some t108))))
set_option maxHeartbeats 8000000 in
set_option maxRecDepth 100000 in
theorem decorumref09_May.calls (k : Nat) (a0_0 : Bool) (a0_1 : Bool) (A0_2 : Option Addr) (c0_2 : Nat) (l0_2 : List (S30)) (a0_3 : Int) (a1 : ByteArray) (r : Bool) (w : World) (hr0_2 : Kd.C k30 w A0_2 l0_2.length l0_2) (hc0_2 : l0_2.length ≤ c0_2) (h : decorumref09_May.f k a0_0 a0_1 l0_2 a0_3 a1 = some r) :
    Calls Tryd.prog 12 #[.agg #[.bool a0_0, .bool a0_1, .slice A0_2 l0_2.length c0_2, .int .i64 a0_3], .string a1] w fun e w' => e = .returned (.bool r) ∧ Below w.heap.size w w' := by
  have hu26 := Tryd.underlying26
  have HR0_2 := Aside0.mk hr0_2
  have HC0_2 := Aside0.mk hc0_2
  clear hr0_2 hc0_2
  have HB := Aside0.mk (Below.refl w.heap.size w)
  have H : (if a1.toList = ([47, 114, 111, 98, 111, 116, 115, 46, 116, 120, 116] : List UInt8) then (some true) else (if a0_0 = true then (some true) else (if a0_1 = true then (some false) else ((decorumref09_Allowed.f k l0_2 a1).bind fun t108 => (some t108))))) = some r := h
  clear h
  by_cases c3 : a1.toList = ([47, 114, 111, 98, 111, 116, 115, 46, 116, 120, 116] : List UInt8)
  · rw [if_pos c3] at H
    have c3b0 : (a1.toList == ([47, 114, 111, 98, 111, 116, 115, 46, 116, 120, 116] : List UInt8)) = true := beq_iff_eq.mpr c3
    have c3b1 : (a1.toList != ([47, 114, 111, 98, 111, 116, 115, 46, 116, 120, 116] : List UInt8)) = false := bne_eq_false_iff_eq.mpr c3
    clear c3
    obtain rfl := Option.some.inj H
    go_enter Tryd.func12, Tryd.ntmps12
    go_wp2_with (first | ((with_reducible refine gate_dst (N := 2) rfl ?_); refine box_event ?hg (N := 2) ?hd (cs := #[.bool a0_0, .bool a0_1, .slice A0_2 l0_2.length c0_2, .int .i64 a0_3]) (t := 26) ?hr ?_; (case hd => rfl); (case hg => rfl); (case hr => first | (go_simp; done) | (go_simp; rfl)); intro gb107 hg w4 hbox hb; have n0_ := Aside0.mk (below_step (by repeat (first | (with_reducible first | exact HB.out | apply below_alloc | apply pw_below_drewN | apply below_drew1) | exact HB.out)) hb); have n1_ := Aside0.mk (hbox); have n2_ := Aside0.mk ((by rw [hg]; exact (below_size (by repeat (first | (with_reducible first | exact HB.out | apply below_alloc | apply pw_below_drewN | apply below_drew1) | exact HB.out))) : w.heap.size ≤ gb107)); have n3_ := Aside0.mk ((by rw [hg]; exact (below_size (by repeat (first | (with_reducible first | exact HB.out | apply below_alloc | apply pw_below_drewN | apply below_drew1) | exact HB.out))) : w.heap.size ≤ gb107)); clear HB; have HB := n0_; have BK107 := n1_; have GW107 := n2_; have GE107 := n3_; clear n0_ n1_ n2_ n3_; clear hb hbox hg))
    go_ret
    exact ⟨by first | rfl | (simp [errW_none, errW_some] <;> rfl) | (simp [*, errW_none, errW_some] <;> rfl) | (simp [wrap64]; done), by repeat (first | (with_reducible first | exact HB.out | apply below_alloc | apply pw_below_drewN | apply below_drew1 | refine below_set ?_ GE107.out) | exact HB.out)⟩
  · rw [if_neg c3] at H
    have c3b0 : (a1.toList == ([47, 114, 111, 98, 111, 116, 115, 46, 116, 120, 116] : List UInt8)) = false := beq_eq_false_iff_ne.mpr c3
    have c3b1 : (a1.toList != ([47, 114, 111, 98, 111, 116, 115, 46, 116, 120, 116] : List UInt8)) = true := bne_iff_ne.mpr c3
    by_cases c5 : a0_0 = true
    · subst c5
      have H1 : (some true) = some r := by rw [if_pos rfl] at H; exact H
      clear H
      have H := H1
      clear H1
      obtain rfl := Option.some.inj H
      go_enter Tryd.func12, Tryd.ntmps12
      go_wp2_with (first | ((with_reducible refine gate_dst (N := 2) rfl ?_); refine box_event ?hg (N := 2) ?hd (cs := #[.bool true, .bool a0_1, .slice A0_2 l0_2.length c0_2, .int .i64 a0_3]) (t := 26) ?hr ?_; (case hd => rfl); (case hg => rfl); (case hr => first | (go_simp; done) | (go_simp; rfl)); intro gb107 hg w6 hbox hb; have n0_ := Aside0.mk (below_step (by repeat (first | (with_reducible first | exact HB.out | apply below_alloc | apply pw_below_drewN | apply below_drew1) | exact HB.out)) hb); have n1_ := Aside0.mk (hbox); have n2_ := Aside0.mk ((by rw [hg]; exact (below_size (by repeat (first | (with_reducible first | exact HB.out | apply below_alloc | apply pw_below_drewN | apply below_drew1) | exact HB.out))) : w.heap.size ≤ gb107)); have n3_ := Aside0.mk ((by rw [hg]; exact (below_size (by repeat (first | (with_reducible first | exact HB.out | apply below_alloc | apply pw_below_drewN | apply below_drew1) | exact HB.out))) : w.heap.size ≤ gb107)); clear HB; have HB := n0_; have BK107 := n1_; have GW107 := n2_; have GE107 := n3_; clear n0_ n1_ n2_ n3_; clear hb hbox hg; have hcz7_0 : w6.cell? ⟨gb107, 0, none⟩ = some (.bool true) := (blk_cell BK107.out 0).trans rfl; have hcz7_1 : w6.cell? ⟨gb107, 1, none⟩ = some (.bool a0_1) := (blk_cell BK107.out 1).trans rfl; have hcz7_2 : w6.cell? ⟨gb107, 2, none⟩ = some (.slice A0_2 l0_2.length c0_2) := (blk_cell BK107.out 2).trans rfl; have hcz7_3 : w6.cell? ⟨gb107, 3, none⟩ = some (.int .i64 a0_3) := (blk_cell BK107.out 3).trans rfl; have hfz7_0 := blk_frozen BK107.out 0; have hfz7_1 := blk_frozen BK107.out 1; have hfz7_2 := blk_frozen BK107.out 2; have hfz7_3 := blk_frozen BK107.out 3))
      go_ret
      exact ⟨by first | rfl | (simp [errW_none, errW_some] <;> rfl) | (simp [*, errW_none, errW_some] <;> rfl) | (simp [wrap64]; done), by repeat (first | (with_reducible first | exact HB.out | apply below_alloc | apply pw_below_drewN | apply below_drew1 | refine below_set ?_ GE107.out) | exact HB.out)⟩
    · replace c5 := Bool.eq_false_iff.mpr c5
      subst c5
      have H1 : (if a0_1 = true then (some false) else ((decorumref09_Allowed.f k l0_2 a1).bind fun t108 => (some t108))) = some r := by rw [if_neg (show ¬ (false = true) by decide)] at H; exact H
      clear H
      have H := H1
      clear H1
      by_cases c8 : a0_1 = true
      · subst c8
        have H1 : (some false) = some r := by rw [if_pos rfl] at H; exact H
        clear H
        have H := H1
        clear H1
        obtain rfl := Option.some.inj H
        go_enter Tryd.func12, Tryd.ntmps12
        go_wp2_with (first | ((with_reducible refine gate_dst (N := 2) rfl ?_); refine box_event ?hg (N := 2) ?hd (cs := #[.bool false, .bool true, .slice A0_2 l0_2.length c0_2, .int .i64 a0_3]) (t := 26) ?hr ?_; (case hd => rfl); (case hg => rfl); (case hr => first | (go_simp; done) | (go_simp; rfl)); intro gb107 hg w9 hbox hb; have n0_ := Aside0.mk (below_step (by repeat (first | (with_reducible first | exact HB.out | apply below_alloc | apply pw_below_drewN | apply below_drew1) | exact HB.out)) hb); have n1_ := Aside0.mk (hbox); have n2_ := Aside0.mk ((by rw [hg]; exact (below_size (by repeat (first | (with_reducible first | exact HB.out | apply below_alloc | apply pw_below_drewN | apply below_drew1) | exact HB.out))) : w.heap.size ≤ gb107)); have n3_ := Aside0.mk ((by rw [hg]; exact (below_size (by repeat (first | (with_reducible first | exact HB.out | apply below_alloc | apply pw_below_drewN | apply below_drew1) | exact HB.out))) : w.heap.size ≤ gb107)); clear HB; have HB := n0_; have BK107 := n1_; have GW107 := n2_; have GE107 := n3_; clear n0_ n1_ n2_ n3_; clear hb hbox hg; have hcz10_0 : w9.cell? ⟨gb107, 0, none⟩ = some (.bool false) := (blk_cell BK107.out 0).trans rfl; have hcz10_1 : w9.cell? ⟨gb107, 1, none⟩ = some (.bool true) := (blk_cell BK107.out 1).trans rfl; have hcz10_2 : w9.cell? ⟨gb107, 2, none⟩ = some (.slice A0_2 l0_2.length c0_2) := (blk_cell BK107.out 2).trans rfl; have hcz10_3 : w9.cell? ⟨gb107, 3, none⟩ = some (.int .i64 a0_3) := (blk_cell BK107.out 3).trans rfl; have hfz10_0 := blk_frozen BK107.out 0; have hfz10_1 := blk_frozen BK107.out 1; have hfz10_2 := blk_frozen BK107.out 2; have hfz10_3 := blk_frozen BK107.out 3))
        go_ret
        exact ⟨by first | rfl | (simp [errW_none, errW_some] <;> rfl) | (simp [*, errW_none, errW_some] <;> rfl) | (simp [wrap64]; done), by repeat (first | (with_reducible first | exact HB.out | apply below_alloc | apply pw_below_drewN | apply below_drew1 | refine below_set ?_ GE107.out) | exact HB.out)⟩
      · replace c8 := Bool.eq_false_iff.mpr c8
        subst c8
        have H1 : ((decorumref09_Allowed.f k l0_2 a1).bind fun t108 => (some t108)) = some r := by rw [if_neg (show ¬ (false = true) by decide)] at H; exact H
        clear H
        have H := H1
        clear H1
        replace H := Option.bind_eq_some_iff.mp H
        obtain ⟨t108, A110, H⟩ := H
        replace H : (some t108) = some r := H
        have A11 := Aside0.mk A110
        clear A110
        obtain rfl := Option.some.inj H
        go_enter Tryd.func12, Tryd.ntmps12
        go_wp2_with (first | ((with_reducible refine gate_dst (N := 2) rfl ?_); refine box_event ?hg (N := 2) ?hd (cs := #[.bool false, .bool false, .slice A0_2 l0_2.length c0_2, .int .i64 a0_3]) (t := 26) ?hr ?_; (case hd => rfl); (case hg => rfl); (case hr => first | (go_simp; done) | (go_simp; rfl)); intro gb107 hg w12 hbox hb; have n0_ := Aside0.mk (below_step (by repeat (first | (with_reducible first | exact HB.out | apply below_alloc | apply pw_below_drewN | apply below_drew1) | exact HB.out)) hb); have n1_ := Aside0.mk (hbox); have n2_ := Aside0.mk ((by rw [hg]; exact (below_size (by repeat (first | (with_reducible first | exact HB.out | apply below_alloc | apply pw_below_drewN | apply below_drew1) | exact HB.out))) : w.heap.size ≤ gb107)); have n3_ := Aside0.mk ((by rw [hg]; exact (below_size (by repeat (first | (with_reducible first | exact HB.out | apply below_alloc | apply pw_below_drewN | apply below_drew1) | exact HB.out))) : w.heap.size ≤ gb107)); clear HB; have HB := n0_; have BK107 := n1_; have GW107 := n2_; have GE107 := n3_; clear n0_ n1_ n2_ n3_; clear hb hbox hg; have hcz13_0 : w12.cell? ⟨gb107, 0, none⟩ = some (.bool false) := (blk_cell BK107.out 0).trans rfl; have hcz13_1 : w12.cell? ⟨gb107, 1, none⟩ = some (.bool false) := (blk_cell BK107.out 1).trans rfl; have hcz13_2 : w12.cell? ⟨gb107, 2, none⟩ = some (.slice A0_2 l0_2.length c0_2) := (blk_cell BK107.out 2).trans rfl; have hcz13_3 : w12.cell? ⟨gb107, 3, none⟩ = some (.int .i64 a0_3) := (blk_cell BK107.out 3).trans rfl; have hfz13_0 := blk_frozen BK107.out 0; have hfz13_1 := blk_frozen BK107.out 1; have hfz13_2 := blk_frozen BK107.out 2; have hfz13_3 := blk_frozen BK107.out 3) | (go_at_call 22; (with_reducible refine (decorumref09_Allowed.calls k _ _ l0_2 a1 t108 _ ?side1 ?side2 A11.out).mono ?_); (case side1 => repeat (first | exact (Kd.C_below HR0_2.out HB.out) | (with_reducible refine Kd.C_alloc ?_ _) | (with_reducible refine Kd.C_drewN ?_ _) | (with_reducible refine Kd.C_drew ?_))); (case side2 => exact HC0_2.out); rintro e w14 ⟨rfl, hb⟩; have n0_ := Aside0.mk (blk_below (g := gb107) (o := .cells #[.bool false, .bool false, .slice A0_2 l0_2.length c0_2, .int .i64 a0_3] 26 (0, 0)) (by (with_reducible repeat (first | refine blk_drewN ?_ _ | refine blk_drew ?_ | refine blk_alloc ?_ _)); exact BK107.out) hb); have n1_ := Aside0.mk (below_step (by repeat (first | (with_reducible first | exact HB.out | apply below_alloc | apply pw_below_drewN | apply below_drew1 | refine below_set ?_ GE107.out) | exact HB.out)) hb); clear BK107; clear HB; have BK107 := n0_; have HB := n1_; clear n0_ n1_; (try clear hb); (try clear hb2); (try clear hk); (try clear hi)))
        go_ret
        exact ⟨by first | rfl | (simp [errW_none, errW_some] <;> rfl) | (simp [*, errW_none, errW_some] <;> rfl) | (simp [wrap64]; done), by repeat (first | (with_reducible first | exact HB.out | apply below_alloc | apply pw_below_drewN | apply below_drew1 | refine below_set ?_ GE107.out) | exact HB.out)⟩

end Go.Proofs.YtdnaddignhjihaaDoor.QU
namespace Go.Proofs.YtdnaddignhjihaaDoor.Given
open Go.RowKit Go.Proofs.YtdnaddignhjihaaDoorW.PrintWords
set_option linter.unusedVariables false
def tokB (c : UInt8) : Bool := (decide (65 ≤ c.toNat) && decide (c.toNat ≤ 90)) || (decide (97 ≤ c.toNat) && decide (c.toNat ≤ 122)) || c.toNat == 45 || c.toNat == 95
def tokV (l : List UInt8) : List UInt8 := (l.takeWhile tokB).map lowB
theorem rune_one (c : UInt8) (r : Int) (hr : r = (c.toNat : Int)) (h : c.toNat < 128) : Lib.runeCells r = Lib.byteCells [c] := by
  subst hr
  rw [Lib.runeCells, Lib.encodeRuneZ_one (by omega) (by omega)]
  simp [Lib.byteCells]
theorem takeWhile_all {α : Type} (p : α → Bool) (l : List α) (n : Nat) (h : ∀ j (hj : j < l.length), j < n → p (l[j]) = true) (hn : ∀ hj : n < l.length, p (l[n]) = false) : l.takeWhile p = l.take n := by
  induction l generalizing n with
  | nil => simp
  | cons c t ih =>
    cases n with
    | zero =>
      have := hn (by simp)
      simp only [List.getElem_cons_zero] at this
      rw [List.takeWhile_cons, this]; simp
    | succ n =>
      have h0 := h 0 (by simp) (by omega)
      simp only [List.getElem_cons_zero] at h0
      rw [List.takeWhile_cons, h0, if_pos rfl, List.take_succ_cons, ih n (fun j hj hjn => by have := h (j + 1) (by simpa using hj) (by omega); simpa using this) (fun hj => by have := hn (by simpa using hj); simpa using this)]
theorem take_snoc (l : List UInt8) (i : Nat) (h : i < l.length) : (l.take (i + 1)).map lowB = (l.take i).map lowB ++ [lowB l[i]] := by
  rw [List.take_add_one, List.getElem?_eq_getElem h, List.map_append]; rfl

set_option maxHeartbeats 4000000 in
set_option maxRecDepth 1000000 in
theorem token_calls (s : ByteArray) (w : World) (hs : s.size ≤ 140737488351232) :
    Calls Tryd.prog 14 #[.string s] w fun e w' => e = .returned (.string ⟨(tokV s.data.toList).toArray⟩) ∧ Below w.heap.size w w' := by
  go_enter Tryd.func14, Tryd.ntmps14
  go_wp2
  go_loopw [] (fun wr => ∃ pos : Nat, wr.heap[w.heap.size + 1]? = some (.stringIter s pos) ∧ Hid (Below w.heap.size w wr) ∧ pos ≤ s.size ∧ Hid (Lib.IsBuilderF 57 5 w.heap.size w.heap.size (Lib.byteCells ((s.data.toList.take pos).map lowB)) wr) ∧ Hid (∀ j (h : j < s.data.toList.length), j < pos → tokB (s.data.toList[j]) = true)) (fun wr => s.size - wr.iterPos (w.heap.size + 1))
  case atStart =>
    have e : (w.alloc (Obj.cells #[Value.pointer none, Value.slice none 0 0] 57)).heap.size = w.heap.size + 1 := by show (w.heap.push _).size = _; exact Array.size_push ..
    have h1 := World.iter_heap (w.alloc (Obj.cells #[Value.pointer none, Value.slice none 0 0] 57)) s 0
    rw [e] at h1
    have b1 : Below w.heap.size w (w.alloc (Obj.cells #[Value.pointer none, Value.slice none 0 0] 57)) := (Below.refl _ w).alloc (Nat.le_refl _) _
    refine ⟨0, h1, b1.alloc (by rw [e]; omega) _, by omega, ?_, ?_⟩
    · exact ((Lib.IsBuilderF.of (Lib.fresh_isBuilder 57 5 w)).alloc _ : _)
    · intro j h hj; omega
  case round =>
    obtain ⟨pos, hit, hbw, hp0, hI, hdig⟩ := hrel
    have hsz : w.heap.size + 1 < wr.heap.size := (Array.getElem?_eq_some_iff.1 hit).1
    have hn1 : w.heap.size + 1 ≠ w.heap.size := by omega
    by_cases hp : pos < s.size
    · have hpl : pos < s.data.toList.length := by simpa using hp
      have hgt := get_list s pos hp
      have hxe : s[pos]'hp = s.data.toList[pos]'hpl := by simp; rfl
      obtain ⟨c, hc⟩ : ∃ c, c = s.data.toList[pos]'hpl := ⟨_, rfl⟩
      have hlen : Hid (∀ r : Int, (Lib.byteCells ((s.data.toList.take pos).map lowB)).length + 4 ≤ 140737488355328) := by
        intro _
        rw [Lib.byteCells_length, List.length_map]
        have := List.length_take_le pos s.data.toList
        omega
      by_cases hdg : tokB c = true
      · have hasc : c.toNat < 128 := by simp [tokB] at hdg; omega
        have hdig2 : Hid (∀ j (h : j < s.data.toList.length), j < pos + 1 → tokB (s.data.toList[j]) = true) := by
          intro j h hj
          by_cases e : j = pos
          · subst e; rw [← hc]; exact hdg
          · exact hdig.out j h (by omega)
        have hnx : ∀ ty, (Instr.next (.pointer (some ⟨w.heap.size + 1, 0, none⟩)) true ty).run Tryd.prog wr = _ := fun ty => Lib.run_next_ascii_at wr (w.heap.size + 1) s pos ty hit hp (by rw [hxe, ← hc]; exact hasc)
        rw [hxe, ← hc] at hnx
        have hit2 := Lib.iterAt_heap wr (w.heap.size + 1) s pos (pos + 1) hit
        have hI2 : Hid _ := Lib.IsBuilderF.iterAt hI.out hit (pos + 1)
        have hbw2 : Hid _ := Lib.below_iterAt hbw.out (k := w.heap.size + 1) (by omega) s (pos + 1)
        have hsz2 : Hid (w.heap.size ≤ (wr.iterAt (w.heap.size + 1) s (pos + 1)).heap.size) := by
          show _ ≤ _
          rw [Lib.iterAt_size]; omega
        have htk := take_snoc s.data.toList pos hpl
        rw [← hc] at htk
        have htk := Aside0.mk htk
        have hms : Hid (s.size - wr.iterPos (w.heap.size + 1) = s.size - pos) := by
          show _ = _
          simp only [World.iterPos, hit]
        clear hgt hI hbw hdig hxe
        by_cases hup : c.toNat ≤ 90 ∧ 65 ≤ c.toNat
        · have g1 : (65 ≤ (c.toNat : Int)) = True := eq_true (by omega)
          have g2 : ((c.toNat : Int) ≤ 90) = True := eq_true (by omega)
          have g3 : wrap32 ((c.toNat : Int) + 32) = (c.toNat : Int) + 32 := by simp only [wrap32]; omega
          have hl : (lowB c).toNat = c.toNat + 32 := by
            unfold lowB; rw [if_pos ⟨hup.2, hup.1⟩]; simp; omega
          have hrc := Aside0.mk (rune_one (lowB c) ((c.toNat : Int) + 32) (by rw [hl]; omega) (by rw [hl]; omega))
          clear hl hdg hc
          have hx1 : (-2147483648 : Int) ≤ (c.toNat : Int) + 32 := by omega
          have hx2 : (c.toNat : Int) + 32 ≤ (2147483647 : Int) := by omega
          have hcc := Tryd.Builder_WriteRune_k w.heap.size w.heap.size _ ((c.toNat : Int) + 32) hx1 hx2 _ hI2.out (hlen.out 0) hsz2.out
          go_wp2_with (go_at_call 27; with_reducible refine hcc.mono ?_; rintro e w1 ⟨rfl, h1, b1, k1⟩)
          have hit3 := k1.iter hit2 hn1
          have hI3 : Hid (Lib.IsBuilderF 57 5 w.heap.size w.heap.size (Lib.byteCells ((s.data.toList.take (pos + 1)).map lowB)) w1) := by
            show Lib.IsBuilderF _ _ _ _ _ _
            rw [htk.out, Lib.byteCells_append, ← hrc.out]
            exact Or.inr h1
          go_roundw
          case rel => exact ⟨pos + 1, hit3, hbw2.out.trans b1, by omega, hI3, hdig2⟩
          case measure =>
            rw [hms.out]
            simp only [World.iterPos, hit3]
            omega
        · have hl : lowB c = c := low_not c (fun h => hup ⟨h.2, h.1⟩)
          have hrc := Aside0.mk (rune_one (lowB c) (c.toNat : Int) (by rw [hl]) (by rw [hl]; omega))
          have hcs : (97 ≤ c.toNat ∧ c.toNat ≤ 122) ∨ c.toNat = 45 ∨ c.toNat = 95 := by simp [tokB] at hdg; omega
          clear hl hdg hc
          rcases hcs with hcs | hcs | hcs
          · have g1 : (65 ≤ (c.toNat : Int)) = True := eq_true (by omega)
            have g2 : ((c.toNat : Int) ≤ 90) = False := eq_false (by omega)
            have g3 : (97 ≤ (c.toNat : Int)) = True := eq_true (by omega)
            have g4 : ((c.toNat : Int) ≤ 122) = True := eq_true (by omega)
            have hx1 : (-2147483648 : Int) ≤ (c.toNat : Int) := by omega
            have hx2 : (c.toNat : Int) ≤ (2147483647 : Int) := by omega
            have hcc := Tryd.Builder_WriteRune_k w.heap.size w.heap.size _ ((c.toNat : Int)) hx1 hx2 _ hI2.out (hlen.out 0) hsz2.out
            go_wp2_with (go_at_call 27; with_reducible refine hcc.mono ?_; rintro e w1 ⟨rfl, h1, b1, k1⟩)
            have hit3 := k1.iter hit2 hn1
            have hI3 : Hid (Lib.IsBuilderF 57 5 w.heap.size w.heap.size (Lib.byteCells ((s.data.toList.take (pos + 1)).map lowB)) w1) := by
              show Lib.IsBuilderF _ _ _ _ _ _
              rw [htk.out, Lib.byteCells_append, ← hrc.out]
              exact Or.inr h1
            go_roundw
            case rel => exact ⟨pos + 1, hit3, hbw2.out.trans b1, by omega, hI3, hdig2⟩
            case measure =>
              rw [hms.out]
              simp only [World.iterPos, hit3]
              omega
          · have g1 : (65 ≤ (c.toNat : Int)) = False := eq_false (by omega)
            have g3 : (97 ≤ (c.toNat : Int)) = False := eq_false (by omega)
            have g5 : ((c.toNat : Int) == 45) = true := by simp; omega
            clear hcs
            have hx1 : (-2147483648 : Int) ≤ (c.toNat : Int) := by omega
            have hx2 : (c.toNat : Int) ≤ (2147483647 : Int) := by omega
            have hcc := Tryd.Builder_WriteRune_k w.heap.size w.heap.size _ ((c.toNat : Int)) hx1 hx2 _ hI2.out (hlen.out 0) hsz2.out
            go_wp2_with (go_at_call 27; with_reducible refine hcc.mono ?_; rintro e w1 ⟨rfl, h1, b1, k1⟩)
            have hit3 := k1.iter hit2 hn1
            have hI3 : Hid (Lib.IsBuilderF 57 5 w.heap.size w.heap.size (Lib.byteCells ((s.data.toList.take (pos + 1)).map lowB)) w1) := by
              show Lib.IsBuilderF _ _ _ _ _ _
              rw [htk.out, Lib.byteCells_append, ← hrc.out]
              exact Or.inr h1
            go_roundw
            case rel => exact ⟨pos + 1, hit3, hbw2.out.trans b1, by omega, hI3, hdig2⟩
            case measure =>
              rw [hms.out]
              simp only [World.iterPos, hit3]
              omega
          · have g1 : (65 ≤ (c.toNat : Int)) = True := eq_true (by omega)
            have g2 : ((c.toNat : Int) ≤ 90) = False := eq_false (by omega)
            have g3 : (97 ≤ (c.toNat : Int)) = False := eq_false (by omega)
            have g5 : ((c.toNat : Int) == 45) = false := by simp; omega
            have g6 : ((c.toNat : Int) == 95) = true := by simp; omega
            clear hcs
            have hx1 : (-2147483648 : Int) ≤ (c.toNat : Int) := by omega
            have hx2 : (c.toNat : Int) ≤ (2147483647 : Int) := by omega
            have hcc := Tryd.Builder_WriteRune_k w.heap.size w.heap.size _ ((c.toNat : Int)) hx1 hx2 _ hI2.out (hlen.out 0) hsz2.out
            go_wp2_with (go_at_call 27; with_reducible refine hcc.mono ?_; rintro e w1 ⟨rfl, h1, b1, k1⟩)
            have hit3 := k1.iter hit2 hn1
            have hI3 : Hid (Lib.IsBuilderF 57 5 w.heap.size w.heap.size (Lib.byteCells ((s.data.toList.take (pos + 1)).map lowB)) w1) := by
              show Lib.IsBuilderF _ _ _ _ _ _
              rw [htk.out, Lib.byteCells_append, ← hrc.out]
              exact Or.inr h1
            go_roundw
            case rel => exact ⟨pos + 1, hit3, hbw2.out.trans b1, by omega, hI3, hdig2⟩
            case measure =>
              rw [hms.out]
              simp only [World.iterPos, hit3]
              omega
      · obtain ⟨acc, hacc⟩ : ∃ acc, acc = (s.data.toList.take pos).map lowB := ⟨_, rfl⟩
        rw [← hacc] at hI
        have hv : Hid (acc = tokV s.data.toList) := by
          show _ = _
          rw [hacc, tokV, takeWhile_all tokB _ pos hdig.out (fun _ => by rw [← hc]; simpa using hdg)]
        obtain ⟨r, hr⟩ : ∃ r : Int, r = ((Utf8.decode s pos).1 : Int) := ⟨_, rfl⟩
        have hcs : r < 65 ∧ r ≠ 45 ∨ 90 < r ∧ r < 97 ∧ r ≠ 95 ∨ 122 < r := by
          by_cases hbig : 128 ≤ (s.get! pos).toNat
          · have := dec_big s pos hbig
            omega
          · have e2 := decode_ascii s pos hp (by rw [hxe, ← hgt]; omega)
            rw [e2, hxe, ← hc] at hr
            simp only at hr
            simp [tokB] at hdg
            omega
        have hnx : ∀ ty, (Instr.next (.pointer (some ⟨w.heap.size + 1, 0, none⟩)) true ty).run Tryd.prog wr = _ := fun ty => Lib.run_next_any_at wr (w.heap.size + 1) s pos ty hit hp
        have hI2 : Hid _ := Lib.IsBuilderF.iterAt hI.out hit (pos + (Utf8.decode s pos).2)
        have hbw2 : Hid _ := Lib.below_iterAt hbw.out (k := w.heap.size + 1) (by omega) s (pos + (Utf8.decode s pos).2)
        have hsz2 : Hid (w.heap.size ≤ (wr.iterAt (w.heap.size + 1) s (pos + (Utf8.decode s pos).2)).heap.size) := by
          show _ ≤ _
          rw [Lib.iterAt_size]; omega
        rw [← hr] at hnx
        generalize (wr.iterAt (w.heap.size + 1) s (pos + (Utf8.decode s pos).2)) = w2 at *
        clear hgt hI hbw hdig hxe hdg hc hr hacc hlen
        rcases hcs with ⟨q1, q2⟩ | ⟨q1, q2, q3⟩ | q1
        · have g1 : (65 ≤ r) = False := eq_false (by omega)
          have g3 : (97 ≤ r) = False := eq_false (by omega)
          have g5 : (r == 45) = false := by simp; omega
          have g6 : (r == 95) = false := by simp; omega
          have hcc := Tryd.Builder_String_any_k w.heap.size w.heap.size _ _ hI2.out hsz2.out
          go_wp2_with (go_at_call 28; with_reducible refine hcc.mono ?_; rintro e w1 ⟨rfl, h1, b1, k1⟩)
          go_ret
          rw [hv.out]
          exact ⟨rfl, hbw2.out.trans b1⟩
        · have g1 : (65 ≤ r) = True := eq_true (by omega)
          have g2 : (r ≤ 90) = False := eq_false (by omega)
          have g3 : (97 ≤ r) = False := eq_false (by omega)
          have g5 : (r == 45) = false := by simp; omega
          have g6 : (r == 95) = false := by simp; omega
          have hcc := Tryd.Builder_String_any_k w.heap.size w.heap.size _ _ hI2.out hsz2.out
          go_wp2_with (go_at_call 28; with_reducible refine hcc.mono ?_; rintro e w1 ⟨rfl, h1, b1, k1⟩)
          go_ret
          rw [hv.out]
          exact ⟨rfl, hbw2.out.trans b1⟩
        · have g1 : (65 ≤ r) = True := eq_true (by omega)
          have g2 : (r ≤ 90) = False := eq_false (by omega)
          have g3 : (97 ≤ r) = True := eq_true (by omega)
          have g4 : (r ≤ 122) = False := eq_false (by omega)
          have g5 : (r == 45) = false := by simp; omega
          have g6 : (r == 95) = false := by simp; omega
          have hcc := Tryd.Builder_String_any_k w.heap.size w.heap.size _ _ hI2.out hsz2.out
          go_wp2_with (go_at_call 28; with_reducible refine hcc.mono ?_; rintro e w1 ⟨rfl, h1, b1, k1⟩)
          go_ret
          rw [hv.out]
          exact ⟨rfl, hbw2.out.trans b1⟩
    · have hnx : ∀ ty, (Instr.next (.pointer (some ⟨w.heap.size + 1, 0, none⟩)) true ty).run Tryd.prog wr = _ := fun ty => Lib.run_next_end_at wr (w.heap.size + 1) s pos ty hit hp
      obtain ⟨acc, hacc⟩ : ∃ acc, acc = (s.data.toList.take pos).map lowB := ⟨_, rfl⟩
      rw [← hacc] at hI
      have hv : Hid (acc = tokV s.data.toList) := by
        show _ = _
        rw [hacc, tokV, takeWhile_all tokB _ pos hdig.out (fun h => absurd (by simpa using h) hp)]
      have hsz2 : Hid (w.heap.size ≤ wr.heap.size) := by show _ ≤ _; omega
      clear hdig hacc
      have hcc := Tryd.Builder_String_any_k w.heap.size w.heap.size _ _ hI.out hsz2.out
      go_wp2_with (go_at_call 28; with_reducible refine hcc.mono ?_; rintro e w1 ⟨rfl, h1, b1, k1⟩)
      go_ret
      rw [hv.out]
      exact ⟨rfl, hbw.out.trans b1⟩
end Go.Proofs.YtdnaddignhjihaaDoor.Given
namespace Go.Proofs.YtdnaddignhjihaaDoor.Given
open Go.RowKit Go.Proofs.YtdnaddignhjihaaDoor.QBase Go.Proofs.YtdnaddignhjihaaDoorW.PrintWords Go.Proofs.YtdnaddignhjihaaDoorW.PrintLast Go.Proofs.YtdnaddignhjihaaDoorW.PrintMore
set_option linter.unusedVariables false
def tokA (s : ByteArray) : ByteArray := ⟨(tokV s.data.toList).toArray⟩
theorem tokA_list (s : ByteArray) : (tokA s).toList = tokV s.data.toList := by rw [Lib.toList_data]; rfl
/-- Is a group's name one for whom one asks? -/
def isFor (nm s : ByteArray) : Bool := s.toList == nm.toList || (!(nm.toList == [42]) && (tokA s).toList == nm.toList)

theorem keep_nm {B b : Nat} {nm : ByteArray} {w w1 w2 : World} (hb : Below w1.heap.size w1 w2) (h : w1.cell? ⟨b, 0, none⟩ = some (.string nm)) (h2 : Aside0 (B ≤ w1.heap.size ∧ Below B w w1)) :
    w2.cell? ⟨b, 0, none⟩ = some (.string nm) ∧ Aside0 (B ≤ w2.heap.size ∧ Below B w w2) :=
  ⟨(hb.cell (World.block_lt_of_cell? w1 _ h)).trans h, ⟨Nat.le_trans h2.out.1 hb.size, h2.out.2.trans (hb.mono h2.out.1)⟩⟩

set_option maxHeartbeats 4000000 in
set_option maxRecDepth 1000000 in
theorem of1_calls (b : Nat) (s nm : ByteArray) (w : World) (hs : s.size ≤ 140737488351232) (hb : w.cell? ⟨b, 0, none⟩ = some (.string nm)) :
    Calls Tryd.prog 46 #[.string s, .pointer (some ⟨b, 0, none⟩)] w fun e w' => e = .returned (.bool (isFor nm s)) ∧ Below w.heap.size w w' := by
  have HB : Aside0 (w.heap.size ≤ w.heap.size ∧ Below w.heap.size w w) := ⟨Nat.le_refl _, Below.refl _ _⟩
  cases h1 : (s.toList == nm.toList) with
  | true =>
    have hr : isFor nm s = true := by simp [isFor, h1]
    rw [hr]
    clear hr
    go_enter Tryd.func46, Tryd.ntmps46
    go_wp2
    go_region
    go_wp2
    go_ret
    exact ⟨rfl, pw_below_drewN HB.out.2 1⟩
  | false =>
    cases h2 : (nm.toList == [42]) with
    | true =>
      have hr : isFor nm s = false := by simp [isFor, h1, h2]
      rw [hr]
      go_enter Tryd.func46, Tryd.ntmps46
      go_wp2
      go_region
      go_wp2
      go_ret
      exact ⟨rfl, pw_below_drewN HB.out.2 1⟩
    | false =>
      have hr : isFor nm s = (tokV s.data.toList == nm.toList) := by simp [isFor, h1, h2, tokA_list]
      rw [hr]
      have HB2 : Aside0 (w.heap.size ≤ w.drew.heap.size ∧ Below w.heap.size w w.drew) := ⟨Nat.le_refl _, pw_below_drewN HB.out.2 1⟩
      clear hr
      go_enter Tryd.func46, Tryd.ntmps46
      go_wp2
      go_region_held3 (fun w' => w'.cell? ⟨b, 0, none⟩ = some (.string nm) ∧ Aside0 (w.heap.size ≤ w'.heap.size ∧ Below w.heap.size w w'))
        (first | (exact ⟨k0, kC⟩) | (exact ⟨hb, HB2⟩) | go_keep)
        (first | (go_at_call 14; go_loud (refine (token_calls s _ hs).mono ?_; rintro e w1 ⟨rfl, b1⟩; obtain ⟨k0, kC⟩ := keep_nm b1 (by assumption) (by assumption))))
      go_wp2
      go_ret
      exact ⟨rfl, (show Aside0 (w.heap.size ≤ _ ∧ Below w.heap.size w _) by assumption).out.2⟩

theorem str_cell {w : World} {A : Option Addr} {n : Nat} {l : List ByteArray} (h : Kd.C Kd.string w A n l) (i : Nat) (hi : i < l.length) (hn : l.length = n) :
    ∃ ad, A = some ad ∧ w.cell? (ad.add i) = some (.string l[i]) := by
  subst hn
  obtain ⟨ad, c, e, _, hK, hc0⟩ := Kd.C_get h ByteArray.empty (i : Int) (by omega) (by omega)
  refine ⟨ad, e, ?_⟩
  obtain rfl : c = [.string (l.getD i ByteArray.empty)] := hK
  have := hc0 0 _ rfl
  rw [Int.toNat_natCast] at this
  have e : Kd.string.sz = 1 := rfl
  rw [e, Nat.mul_one] at this
  simpa [hi] using this
set_option maxHeartbeats 4000000 in
set_option maxRecDepth 1000000 in
theorem index_calls (A : Option Addr) (c b : Nat) (l : List ByteArray) (nm : ByteArray) (w : World) (hl : ∀ s ∈ l, s.size ≤ 140737488351232) (hn : l.length < 1000000) (hA : Kd.C Kd.string w A l.length l) (hb : w.cell? ⟨b, 0, none⟩ = some (.string nm)) :
    Calls Tryd.prog 66 #[.slice A l.length c, .func (.func 46) #[] #[.pointer (some ⟨b, 0, none⟩)]] w fun e w' => ∃ i : Int, e = .returned (.int .i64 i) ∧ (decide (0 ≤ i) = l.any (isFor nm)) ∧ Below w.heap.size w w' := by
  have HA := Aside0.mk hA
  have HL := Aside0.mk hl
  clear hA hl
  go_enter Tryd.func66, Tryd.ntmps66
  go_wp2
  go_loopw [8] (fun v8 wr => ∃ i : Nat, v8 = .int .i64 i ∧ i ≤ l.length ∧ Aside0 (Below w.heap.size w wr) ∧ Aside0 (∀ j (h : j < l.length), j < i → isFor nm l[j] = false)) (fun v8 _ => l.length - (intOf v8).toNat)
  case atStart => exact ⟨0, rfl, by omega, ⟨Below.refl _ _⟩, ⟨by intro j h hj; omega⟩⟩
  case round =>
    obtain ⟨i, rfl, hi, HB, hno⟩ := hrel
    by_cases hlt : i < l.length
    · have hlt' : ((i : Int) < (l.length : Int)) = True := eq_true (by omega)
      obtain ⟨ad, rfl, hc⟩ := str_cell HA.out i hlt rfl
      have hc := (HB.out.cell (World.block_lt_of_cell? w _ hc)).trans hc
      have hb2 := (HB.out.cell (World.block_lt_of_cell? w _ hb)).trans hb
      have hsz := HL.out _ (List.getElem_mem hlt)
      obtain ⟨s, hs⟩ : ∃ s, s = l[i] := ⟨_, rfl⟩
      rw [← hs] at hc hsz
      have hcc := of1_calls b s nm wr hsz hb2
      have Hs := Aside0.mk hs
      clear hb hs
      cases hf : isFor nm s with
      | true =>
        rw [hf] at hcc
        have hany : Aside0 (decide (0 ≤ (i : Int)) = l.any (isFor nm)) := ⟨by
          rw [List.any_eq_true.mpr ⟨s, by rw [Hs.out]; exact List.getElem_mem hlt, hf⟩]
          simp⟩
        clear hf
        go_wp2_with (go_at_call 46; with_reducible refine hcc.mono ?_; rintro e w1 ⟨rfl, b1⟩)
        go_ret
        exact ⟨i, rfl, hany.out, below_step HB.out b1⟩
      | false =>
        rw [hf] at hcc
        have hno2 : Aside0 (∀ j (h : j < l.length), j < i + 1 → isFor nm l[j] = false) := ⟨by
          intro j h hj
          by_cases e : j = i
          · subst e; rw [← Hs.out]; exact hf
          · exact hno.out j h (by omega)⟩
        clear hf
        go_wp2_with (go_at_call 46; with_reducible refine hcc.mono ?_; rintro e w1 ⟨rfl, b1⟩)
        go_roundw
        case rel => exact ⟨i + 1, by go_num, by omega, ⟨below_step HB.out b1⟩, hno2⟩
        case measure => simp [intOf]; omega
    · have hlt' : ((i : Int) < (l.length : Int)) = False := eq_false (by omega)
      have hany : Aside0 (decide (0 ≤ (-1 : Int)) = l.any (isFor nm)) := ⟨by
        have : l.any (isFor nm) = false := by
          rw [Bool.eq_false_iff]
          intro h
          obtain ⟨x, hx, hy⟩ := List.any_eq_true.mp h
          obtain ⟨j, hj, rfl⟩ := List.getElem_of_mem hx
          rw [hno.out j hj (by omega)] at hy
          cases hy
        rw [this]; rfl⟩
      go_wp2
      go_ret
      exact ⟨-1, rfl, hany.out, HB.out⟩

set_option maxHeartbeats 4000000 in
set_option maxRecDepth 1000000 in
theorem contains_calls (A : Option Addr) (c b : Nat) (l : List ByteArray) (nm : ByteArray) (w : World) (hl : ∀ s ∈ l, s.size ≤ 140737488351232) (hn : l.length < 1000000) (hA : Kd.C Kd.string w A l.length l) (hb : w.cell? ⟨b, 0, none⟩ = some (.string nm)) :
    Calls Tryd.prog 45 #[.slice A l.length c, .func (.func 46) #[] #[.pointer (some ⟨b, 0, none⟩)]] w fun e w' => e = .returned (.bool (l.any (isFor nm))) ∧ Below w.heap.size w w' := by
  have hcc := index_calls A c b l nm w hl hn hA hb
  clear hl hn hA hb
  go_enter Tryd.func45, Tryd.ntmps45
  go_wp2_with (go_at_call 66; with_reducible refine hcc.mono ?_; rintro e w1 ⟨i, rfl, hi, b1⟩)
  go_ret
  exact ⟨by rw [← hi]; rfl, b1⟩
end Go.Proofs.YtdnaddignhjihaaDoor.Given
