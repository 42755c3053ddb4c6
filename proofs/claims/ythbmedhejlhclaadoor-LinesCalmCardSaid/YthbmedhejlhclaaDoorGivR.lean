/- lines.Groups: what it answers. -/
import Derived.Test.YthbmedhejlhclaaDoorGivG
namespace Go.Proofs.YthbmedhejlhclaaDoor.Given
open Go.RowKit Go.Proofs.YthbmedhejlhclaaDoor.QBase Go.Proofs.YthbmedhejlhclaaDoorW.PrintWords Go.Proofs.YthbmedhejlhclaaDoorW.PrintLast Go.Proofs.YthbmedhejlhclaaDoorW.PrintMore
set_option linter.unusedVariables false
set_option linter.unusedSimpArgs false

def sAgent : List UInt8 := [117, 115, 101, 114, 45, 97, 103, 101, 110, 116]
def stepG (st : List S53 × Bool) (l : S40) : List S53 × Bool := if (l.f0.toList == sAgent) = true then (agentG st.1 st.2 l.f1, true) else addG st.1 st.2 l
def lines_Groups.f (l0 : List S40) : Option (List S53) := if l0.length < 1000000 ∧ (∀ l ∈ l0, l.f1.size < 4294967281) then some (l0.foldl stepG ([], false)).1 else none

/-- What stays so from line to line. -/
structure InvG (i : Nat) (st : List S53 × Bool) : Prop where
  len : st.1.length ≤ i
  ags : ∀ x ∈ st.1, x.f0.length ≤ i
  op : st.2 = true → st.1 ≠ []
theorem mem_setG {gs : List S53} {x y : S53} (h : y ∈ setG gs x) : y = x ∨ y ∈ gs := by
  rcases List.mem_or_eq_of_mem_set h with h | h
  · exact .inr h
  · exact .inl h
theorem lastG_f0 {gs : List S53} {i : Nat} (h : ∀ x ∈ gs, x.f0.length ≤ i) : (lastG gs).f0.length ≤ i := by
  unfold lastG
  rw [List.getD_eq_getElem?_getD]
  by_cases hl : gs.length - 1 < gs.length
  · rw [List.getElem?_eq_getElem hl]
    exact h _ (List.getElem_mem hl)
  · rw [List.getElem?_eq_none (by omega)]
    exact Nat.zero_le _
theorem InvG.add {i : Nat} {st : List S53 × Bool} (h : InvG i st) (l : S40) : InvG (i + 1) (addG st.1 st.2 l) := by
  have h1 := lastG_f0 h.ags
  have set1 : ∀ x : S53, x.f0 = (lastG st.1).f0 → (setG st.1 x).length ≤ i + 1 ∧ ∀ y ∈ setG st.1 x, y.f0.length ≤ i + 1 := by
    intro x hx
    refine ⟨by have := h.len; simp [setG]; omega, fun y hy => ?_⟩
    rcases mem_setG hy with rfl | hy
    · rw [hx]; omega
    · have := h.ags y hy; omega
  have same : st.1.length ≤ i + 1 ∧ ∀ y ∈ st.1, y.f0.length ≤ i + 1 := ⟨by have := h.len; omega, fun y hy => by have := h.ags y hy; omega⟩
  unfold addG
  split
  · exact ⟨same.1, same.2, h.op⟩
  split
  · simp only
    split
    · exact ⟨(set1 _ (by rfl)).1, (set1 _ (by rfl)).2, fun h => (by cases h)⟩
    · exact ⟨same.1, same.2, fun h => (by cases h)⟩
  split
  · simp only
    split
    · exact ⟨(set1 _ (by rfl)).1, (set1 _ (by rfl)).2, fun h => (by cases h)⟩
    · exact ⟨same.1, same.2, fun h => (by cases h)⟩
  · exact ⟨same.1, same.2, h.op⟩
theorem InvG.agent {i : Nat} {st : List S53 × Bool} (h : InvG i st) (nm : ByteArray) : InvG (i + 1) (agentG st.1 st.2 nm, true) := by
  have key : ∀ G : List S53, G ≠ [] → G.length ≤ i + 1 → (∀ x ∈ G, x.f0.length ≤ i) → InvG (i + 1) (setG G { lastG G with f0 := (lastG G).f0 ++ [⟨(lowL nm.data.toList).toArray⟩] }, true) := by
    intro G hG hl ha
    refine ⟨by simp [setG]; exact hl, fun y hy => ?_, fun _ => ?_⟩
    · rcases mem_setG hy with rfl | hy
      · have := lastG_f0 ha; simp; omega
      · have := ha y hy; omega
    · intro e
      have := congrArg List.length e
      simp [setG] at this
      exact hG this
  unfold agentG
  by_cases ho : st.2 = true
  · rw [if_pos ho]
    exact key _ (h.op ho) (by have := h.len; omega) h.ags
  · rw [if_neg ho]
    refine key _ (by simp) (by have := h.len; simp; omega) ?_
    intro x hx
    rcases List.mem_append.mp hx with hx | hx
    · exact h.ags x hx
    · obtain rfl := List.mem_singleton.mp hx; exact Nat.zero_le _
theorem Mk.far {W0 w : World} {m b : Nat} {gs : List S53} {op : Bool} {v : Value} {cs : Array Value} (h : Mk W0 m gs op v w) (hb : w.heap[b]? = some (.cells cs 40 (0, 0))) (hB : W0.heap.size ≤ b) (j : Nat) (u : Value) : Mk W0 m gs op v (w.setCell ⟨b, j, none⟩ u) := by
  refine ⟨blk_far h.box (p := ⟨b, j, none⟩) ?_ u, h.base, Kd.S_set h.row hb (by decide) j u, below_set h.below hB⟩
  rintro rfl
  rw [h.box] at hb
  simp at hb

set_option maxHeartbeats 8000000 in
set_option maxRecDepth 1000000 in
theorem lines_Groups.calls (A0 : Option Addr) (c0 : Nat) (l0 : List S40) (r : List S53) (w : World) (hr0 : Kd.C k40 w A0 l0.length l0) (hc0 : l0.length ≤ c0) (h : lines_Groups.f l0 = some r) (hS_ : Shp w) :
    Calls Tryd.prog 16 #[.slice A0 l0.length c0] w fun e w' => ∃ v0_ : Value, e = .returned v0_ ∧ Kd.S k53 53 w' w.heap.size (fun _ => True) v0_ r ∧ Below w.heap.size w w' := by
  unfold lines_Groups.f at h
  split at h
  case isFalse => cases h
  rename_i hc
  obtain ⟨hl, hv⟩ := hc
  have hfin := Aside0.mk (Option.some.inj h)
  have HSH := Aside0.mk hS_
  have HR0 := Aside0.mk hr0
  have HV := Aside0.mk hv
  clear h hS_ hr0 hc0 hv
  go_enter Tryd.func16, Tryd.ntmps16
  go_wp2_with (first | ((with_reducible refine gate_dst (N := 7) rfl ?_); refine box_event ?hg (N := 7) ?hd (cs := #[.slice none 0 0, .bool false]) (t := 62) ?hr ?_; (case hd => rfl); (case hg => rfl); (case hr => first | (go_simp; done) | (go_simp; rfl)); intro m hm w1 hbox hb; subst hm; have HM := Aside0.mk (Mk.mk hbox (Nat.le_refl _) (Kd.S_nil k53 53 w1 w.heap.size (fun _ => True)) hb); clear hbox hb))
  go_loopw [10] (fun v10 wr => ∃ (i : Nat) (st : List S53 × Bool) (v : Value), v10 = .int .i64 i ∧ i ≤ l0.length ∧ Hid (InvG i st) ∧ Aside0 (((l0.drop i).foldl stepG st).1 = r) ∧ Aside0 (Mk w w.heap.size st.1 st.2 v wr)) (fun v10 wr => l0.length - (intOf v10).toNat)
  case atStart => exact ⟨0, ([], false), _, rfl, by omega, ⟨Nat.le_refl _, by simp, by simp⟩, hfin, HM⟩
  case round =>
    clear HM hfin
    obtain ⟨i, ⟨gs, op⟩, v, rfl, hi, hinv, hF, HM⟩ := hrel
    simp only at HM
    by_cases hlt : i < l0.length
    · have hlt' : ((i : Int) < (l0.length : Int)) = True := eq_true (by omega)
      obtain ⟨ad, rfl, hx0, hx1⟩ := at_T40 HR0.out (i : Int) (by omega) (by omega)
      have hrd : rd_T40 l0 (i : Int) = l0[i] := by simp [rd_T40, hlt]
      rw [hrd, Int.toNat_natCast] at hx0 hx1
      have hx0 := (HM.out.below.cell (World.block_lt_of_cell? w _ hx0)).trans hx0
      have hx1 := (HM.out.below.cell (World.block_lt_of_cell? w _ hx1)).trans hx1
      have hsz : Hid (l0[i].f1.size < 4294967281) := HV.out _ (List.getElem_mem hlt)
      have hF2 := hF.out
      rw [List.drop_eq_getElem_cons hlt, List.foldl_cons] at hF2
      have hF2 := Aside0.mk hF2
      obtain ⟨l, hl0⟩ : ∃ l, l = l0[i] := ⟨_, rfl⟩
      rw [← hl0] at hx0 hx1 hsz hF2
      obtain ⟨kk, vv⟩ := l
      simp only at hx0 hx1 hsz
      clear hF hrd hl0
      go_upto_region 5 with (first | ((with_reducible refine gate_dst (N := 5) rfl ?_); refine box_event ?hg (N := 5) ?hd (cs := #[.string (⟨#[]⟩ : ByteArray), .string (⟨#[]⟩ : ByteArray)]) (t := 40) ?hr ?_; (case hd => rfl); (case hg => rfl); (case hr => first | (go_simp; done) | (go_simp; rfl)); intro b5 hb5 w2 hbox hb; have HM2 := Aside0.mk (HM.out.step hb); have Hbx := Aside0.mk hbox; have hf50 := blk_frozen hbox 0; have hf51 := blk_frozen hbox 1; have hz0 := blk_cell hbox 0; have hz1 := blk_cell hbox 1; simp only [List.getElem?_toArray, List.getElem?_cons_zero, List.getElem?_cons_succ] at hz0 hz1; have hlb := Aside0.mk (by rw [hb5]; exact HM.out.below.size : w.heap.size ≤ b5); clear hbox hb hb5))
      have HM3 := Aside0.mk (Mk.far (Mk.far HM2.out Hbx.out hlb.out 0 (.string kk)) (blk_put Hbx.out 0 (.string kk) rfl) hlb.out 1 (.string vv))
      have Hb3 := Aside0.mk (show ((w2.setCell { block := b5, off := 0 } (Value.string kk)).setCell { block := b5, off := 1 } (Value.string vv)).heap[b5]? = some (Obj.cells #[.string kk, .string vv] 40 (0, 0)) from blk_put (blk_put Hbx.out 0 (.string kk) rfl) 1 (.string vv) rfl)
      clear HM HM2 Hbx hf50 hf51 hz0 hz1
      generalize ((w2.setCell { block := b5, off := 0 } (Value.string kk)).setCell { block := b5, off := 1 } (Value.string vv)) = w3 at *
      have hk0 : w3.cell? ⟨b5, 0, none⟩ = some (.string kk) := blk_cell Hb3.out 0
      have hk1 : w3.cell? ⟨b5, 1, none⟩ = some (.string vv) := blk_cell Hb3.out 1
      by_cases hk : (kk.toList == sAgent) = true
      · have hk' : (kk.toList == [117, 115, 101, 114, 45, 97, 103, 101, 110, 116]) = true := hk
        have hstep : stepG (gs, op) ⟨kk, vv⟩ = (agentG gs op vv, true) := by simp only [stepG]; exact if_pos hk
        rw [hstep] at hF2
        have hle : Aside0 (vv.size ≤ 1099511627776 ∧ gs.length < 1000000 ∧ (∀ x ∈ gs, x.f0.length < 1000000) ∧ (op = true → gs ≠ [])) := ⟨⟨by have h1 := hsz.out; omega, by have h1 : gs.length ≤ i := hinv.out.len; omega, fun x hx => by have h1 : x.f0.length ≤ i := hinv.out.ags x hx; omega, hinv.out.op⟩⟩
        have hinv : Hid (InvG (i + 1) (agentG gs op vv, true)) := InvG.agent hinv.out vv
        go_wp2_with (first
          | ((with_reducible refine gate_callee (f := 25) rfl ?_); refine goesL_ (some 20) rfl rfl Tryd.func25 (by kernel_rfl) rfl #[.pointer (some ⟨w.heap.size, 0, none⟩), .string vv] rfl (by (try simp only [List.map_toArray, List.map_cons, List.map_nil]); first | done | rfl) ?_; (with_reducible refine (agent_calls w _ w.heap.size gs op v vv HM3.out hle.out.1 hle.out.2.1 hle.out.2.2.1 hle.out.2.2.2).mono ?_); rintro e w4 ⟨rfl, v', HM4⟩; refine ⟨_, rfl, ?_⟩; have HM4 := Aside0.mk HM4; clear HM3 Hb3 hk0 hk1))
        go_roundw
        case rel => exact ⟨i + 1, (agentG gs op vv, true), v', by go_num, by omega, hinv, hF2, HM4⟩
        case measure => simp [intOf]; omega
      · have hk' : (kk.toList == [117, 115, 101, 114, 45, 97, 103, 101, 110, 116]) = false := by cases h : (kk.toList == [117, 115, 101, 114, 45, 97, 103, 101, 110, 116]); rfl; exact absurd h hk
        have hstep : stepG (gs, op) ⟨kk, vv⟩ = addG gs op ⟨kk, vv⟩ := by simp only [stepG]; exact if_neg hk
        rw [hstep] at hF2
        have hle : Aside0 (gs.length < 1000000) := ⟨by have h1 : gs.length ≤ i := hinv.out.len; omega⟩
        have hinv : Hid (InvG (i + 1) (addG gs op ⟨kk, vv⟩)) := InvG.add hinv.out ⟨kk, vv⟩
        go_wp2_with (first
          | ((with_reducible refine gate_callee (f := 26) rfl ?_); refine goesL_ (some 23) rfl rfl Tryd.func26 (by kernel_rfl) rfl #[.pointer (some ⟨w.heap.size, 0, none⟩), .agg #[.string kk, .string vv]] rfl (by (try simp only [List.map_toArray, List.map_cons, List.map_nil]); first | done | rfl) ?_; (with_reducible refine (add_calls w _ w.heap.size gs op v ⟨kk, vv⟩ HM3.out hsz.out hle.out HSH.out).mono ?_); rintro e w4 ⟨rfl, HM4⟩; refine ⟨_, rfl, ?_⟩; have HM4 := Aside0.mk HM4; clear HM3 Hb3 hk0 hk1))
        go_roundw
        case rel => exact ⟨i + 1, addG gs op ⟨kk, vv⟩, v, by go_num, by omega, hinv, hF2, HM4⟩
        case measure => simp [intOf]; omega
    · have hlt' : ((i : Int) < (l0.length : Int)) = False := eq_false (by omega)
      obtain rfl : i = l0.length := by omega
      have hr := hF.out
      rw [List.drop_length, List.foldl_nil] at hr
      simp only at hr
      subst hr
      have hc0 := blk_cell HM.out.box 0
      simp only [List.getElem?_toArray, List.getElem?_cons_zero] at hc0
      clear hF
      go_wp2
      go_ret
      exact ⟨_, rfl, HM.out.row, HM.out.below⟩
end Go.Proofs.YthbmedhejlhclaaDoor.Given
