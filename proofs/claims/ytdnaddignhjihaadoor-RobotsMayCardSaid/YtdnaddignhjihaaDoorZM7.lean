/- robotsMay_holds: a part of its proof (the texts OfB, GivP, PureP, PureT, RdA, AwA, AwB, QM2x0, QM2x1, QO2x0, PureAl, WalkRobotsMay, Lift, RowRobotsMay without what this claim does not lean on). -/
import Derived.Test.YtdnaddignhjihaaDoorProg
import Derived.Below
import Derived.Deep.Draws
import Derived.Deep.AppendLies
import Derived.Maps.AppendAt
import Derived.OwnWalk
import Derived.Laws.BytesArg
import Derived.Laws.MakeOwn
import Derived.Laws.OwnMore
import Derived.Deep.OwnRows
import Derived.Tactics
import Derived.Lib.ConvBytes
import Derived.Laws.Slices
import Derived.WalkKit
import Derived.KernelRfl
import Derived.RowKit3
import Derived.Deep.LoopGhost
import Derived.Deep.QuietTactic
import Derived.BigQuiet
import Derived.WideLaws
import Derived.Deep.DeepCutAuto
import Derived.Deep.CutBlock
import Derived.Deep.RegionHeld3
import Derived.Laws.Rows
import Derived.Lib.AppendStr
import Derived.ArgAppend
import Derived.Laws.IdiomCopy
import Derived.OrdersHeld
import Derived.Laws.BitsLemmas
import Derived.RowKit
import Derived.HandedShaped
import Derived.Handed
import Derived.Test.YtdnaddignhjihaaDoorRows
import Derived.ProofKit
import Derived.OpenShut
import Derived.ShutString
import Derived.ChangeOld
import Derived.SizedLaws
import Derived.LaidMore
import Derived.Lay
import Derived.SevenTiedAt
import Derived.Stop.Joined
import Derived.Test.YtdnaddignhjihaaDoorCards
import Derived.Test.YtdnaddignhjihaaDoorTie
import Derived.Test.YtdnaddignhjihaaDoorZM6
namespace Go.Proofs.YtdnaddignhjihaaDoor.Given
open Go.RowKit Go.Proofs.YtdnaddignhjihaaDoor.QBase Go.Proofs.YtdnaddignhjihaaDoorW.PrintWords Go.Proofs.YtdnaddignhjihaaDoorW.PrintLast Go.Proofs.YtdnaddignhjihaaDoorW.PrintMore
set_option linter.unusedVariables false
set_option linter.unusedSimpArgs false
attribute [local go_sem] max2_int min2_int max_two min_two max_three min_three max_four min_four
/-- What groups say of somebody: whether any does, the rules, the delay. -/
def ofStep (nm : ByteArray) (st : Bool × List S30 × Int) (g : S86) : Bool × List S30 × Int :=
  if g.f0.any (isFor nm) = true then (true, st.2.1 ++ g.f1, if st.2.2 < g.f2 then g.f2 else st.2.2) else st
def ofL (nm : ByteArray) (l : List S86) : Bool × List S30 × Int := l.foldl (ofStep nm) (false, [], 0)
def ofOk (l : List S86) : Prop := l.length < 1000000 ∧ ∀ g ∈ l, g.f1.length ≤ 1000000 ∧ g.f0.length < 1000000 ∧ ∀ s ∈ g.f0, s.size ≤ 140737488351232

structure OfI (W : World) (nm : ByteArray) (u : Value) (rs : List S30) (dl : Int) (w : World) : Prop where
  nmc : w.heap[W.heap.size]? = some (.cells #[.string nm] 9 (0, 0))
  res : w.heap[W.heap.size + 1]? = some (.cells #[.bool false, .bool false, .slice none 0 0, .int .i64 0] 26 (0, 0))
  out : w.heap[W.heap.size + 1 + 1]? = some (.cells #[.bool false, .bool false, u, .int .i64 dl] 26 (0, 0))
  row : Kd.R k30 30 w W.heap.size (fun _ => True) u rs
  below : Below W.heap.size W w
theorem OfI.step {W w w' : World} {nm : ByteArray} {u : Value} {rs : List S30} {dl : Int} (h : OfI W nm u rs dl w) (hb : Below w.heap.size w w') : OfI W nm u rs dl w' :=
  ⟨blk_below h.nmc hb, blk_below h.res hb, blk_below h.out hb, Kd.R_below h.row hb, below_step h.below hb⟩
theorem OfI.far {W w : World} {nm : ByteArray} {u : Value} {rs : List S30} {dl : Int} (h : OfI W nm u rs dl w) {b : Nat} {cs : Array Value} (hb : w.heap[b]? = some (.cells cs 86 (0, 0))) (hB : W.heap.size ≤ b) (j : Nat) (v : Value) : OfI W nm u rs dl (w.setCell ⟨b, j, none⟩ v) :=
  ⟨blk_far h.nmc (p := ⟨b, j, none⟩) (blk_ne h.nmc hb (by decide)) v, blk_far h.res (p := ⟨b, j, none⟩) (blk_ne h.res hb (by decide)) v, blk_far h.out (p := ⟨b, j, none⟩) (blk_ne h.out hb (by decide)) v,
    Kd.R_set h.row hb (by decide) j v, below_set h.below hB⟩
theorem OfI.app {W w w1 : World} {nm : ByteArray} {u v1 : Value} {rs rs' : List S30} {dl : Int} (h : OfI W nm u rs dl w) (hr : Kd.R k30 30 w1 W.heap.size (fun _ => True) v1 rs') (hb : Below W.heap.size W w1) (hg : w.grownBy w1 u.ownBlock) :
    OfI W nm v1 rs' dl (w1.setCell ⟨W.heap.size + 1 + 1, 2, none⟩ v1) := by
  have ho := blk_grown h.out hg (Kd.R_ne h.row h.out (by decide))
  have hn := blk_grown h.nmc hg (Kd.R_ne h.row h.nmc (by decide))
  have hs := blk_grown h.res hg (Kd.R_ne h.row h.res (by decide))
  refine ⟨blk_far hn (p := ⟨W.heap.size + 1 + 1, 2, none⟩) (by show W.heap.size ≠ W.heap.size + 1 + 1; omega) v1, blk_far hs (p := ⟨W.heap.size + 1 + 1, 2, none⟩) (by show W.heap.size + 1 ≠ W.heap.size + 1 + 1; omega) v1, blk_put ho 2 v1 rfl, Kd.R_set hr ho (by decide) 2 v1, below_set hb (by omega)⟩
theorem OfI.dly {W w : World} {nm : ByteArray} {u : Value} {rs : List S30} {dl : Int} (h : OfI W nm u rs dl w) (d : Int) : OfI W nm u rs d (w.setCell ⟨W.heap.size + 1 + 1, 3, none⟩ (.int .i64 d)) := by
  refine ⟨blk_far h.nmc (p := ⟨W.heap.size + 1 + 1, 3, none⟩) (by show W.heap.size ≠ W.heap.size + 1 + 1; omega) _, blk_far h.res (p := ⟨W.heap.size + 1 + 1, 3, none⟩) (by show W.heap.size + 1 ≠ W.heap.size + 1 + 1; omega) _, blk_put h.out 3 _ rfl, Kd.R_set h.row h.out (by decide) 3 _, below_set h.below (by omega)⟩

/-- Rules that a call made, and handed back with what room it chose to tell. -/
def Rls (base : Nat) (w : World) (A : Option Addr) (c : Nat) (rs : List S30) : Prop := rs.length ≤ c ∧ ∃ c', Kd.R k30 30 w base (fun _ => True) (.slice A rs.length c') rs
theorem Rls.C {base : Nat} {w : World} {A : Option Addr} {c : Nat} {rs : List S30} (h : Rls base w A c rs) : Kd.C k30 w A rs.length rs := by
  obtain ⟨_, c', h⟩ := h; exact (Kd.R_reads' h).2.2
theorem Rls.below {base : Nat} {w w' : World} {A : Option Addr} {c : Nat} {rs : List S30} (h : Rls base w A c rs) (hb : Below w.heap.size w w') : Rls base w' A c rs := ⟨h.1, h.2.elim fun c' h => ⟨c', Kd.R_below h hb⟩⟩
theorem Rls.lower {base base' : Nat} {w : World} {A : Option Addr} {c : Nat} {rs : List S30} (h : Rls base w A c rs) (hb : base' ≤ base) : Rls base' w A c rs := ⟨h.1, h.2.elim fun c' h => ⟨c', Kd.R_lower h hb⟩⟩
theorem Rls.set {base : Nat} {w : World} {A : Option Addr} {c : Nat} {rs : List S30} (h : Rls base w A c rs) {g : Nat} {cells : Array Value} (hb : w.heap[g]? = some (.cells cells 26 (0, 0))) (j : Nat) (u : Value) : Rls base (w.setCell ⟨g, j, none⟩ u) A c rs :=
  ⟨h.1, h.2.elim fun c' h => ⟨c', Kd.R_set h hb (by decide) j u⟩⟩

set_option maxHeartbeats 8000000 in
set_option maxRecDepth 1000000 in
theorem of_calls (A0 : Option Addr) (c0 : Nat) (l0 : List S86) (nm : ByteArray) (w : World) (hr0 : Kd.C k86 w A0 l0.length l0) (hok : ofOk l0) :
    Calls Tryd.prog 30 #[.slice A0 l0.length c0, .string nm] w fun e w' => ∃ (A : Option Addr) (c : Nat) (rs : List S30),
      e = .returned (.tuple #[.agg #[.bool false, .bool false, .slice A rs.length c, .int .i64 (ofL nm l0).2.2], .bool (ofL nm l0).1]) ∧ rs = (ofL nm l0).2.1.take 64 ∧ Rls w.heap.size w' A c rs ∧ Below w.heap.size w w' := by
  have HR0 := Aside0.mk hr0
  have HOK := Aside0.mk hok
  have hfin : Aside0 ((l0.drop 0).foldl (ofStep nm) (false, [], 0) = ofL nm l0) := ⟨rfl⟩
  have hl := hok.1
  clear hr0 hok
  go_enter Tryd.func30, Tryd.ntmps30
  go_wp2
  go_loopw [7, 13] (fun v7 v13 wr => ∃ (i : Nat) (any : Bool) (rs : List S30) (dl : Int) (u : Value), v7 = .bool any ∧ v13 = .int .i64 i ∧ i ≤ l0.length ∧ Hid (rs.length ≤ i * 1000000) ∧ Aside0 ((l0.drop i).foldl (ofStep nm) (any, rs, dl) = ofL nm l0) ∧ Aside0 (OfI w nm u rs dl wr)) (fun _ v13 _ => l0.length - (intOf v13).toNat)
  case atStart =>
    refine ⟨0, false, [], 0, .slice none 0 0, rfl, rfl, by omega, Nat.le_refl _, hfin, ⟨?_⟩⟩
    have e1 : (w.alloc (Obj.cells #[Value.string nm] 9)).heap.size = w.heap.size + 1 := by show (w.heap.push _).size = _; exact Array.size_push ..
    have e2 : ((w.alloc (Obj.cells #[Value.string nm] 9)).alloc (Obj.cells #[Value.bool false, Value.bool false, Value.slice none 0 0, Value.int IntKind.i64 0] 26)).heap.size = w.heap.size + 1 + 1 := by rw [← e1]; show ((w.alloc (Obj.cells #[Value.string nm] 9)).heap.push _).size = _; exact Array.size_push ..
    have b1 := blk_new w (Obj.cells #[Value.string nm] 9)
    have b2 := blk_new (w.alloc (Obj.cells #[Value.string nm] 9)) (Obj.cells #[Value.bool false, Value.bool false, Value.slice none 0 0, Value.int IntKind.i64 0] 26)
    have b3 := blk_new ((w.alloc (Obj.cells #[Value.string nm] 9)).alloc (Obj.cells #[Value.bool false, Value.bool false, Value.slice none 0 0, Value.int IntKind.i64 0] 26)) (Obj.cells #[Value.bool false, Value.bool false, Value.slice none 0 0, Value.int IntKind.i64 0] 26)
    rw [e1] at b2
    rw [e2] at b3
    exact ⟨blk_alloc (blk_alloc b1 _) _, blk_alloc b2 _, b3, Kd.R_nil _ _ _ _ _, below_alloc (below_alloc (below_alloc (Below.refl _ _) _) _) _⟩
  case round =>
    clear hfin
    obtain ⟨i, any, rs, dl, u, rfl, rfl, hi, hlen, hF, HM⟩ := hrel
    by_cases hlt : i < l0.length
    · have hlt' : ((i : Int) < (l0.length : Int)) = True := eq_true (by omega)
      obtain ⟨ad, B0, d0, B1, d1, rfl, hx0, hx1, hx2, hl0, hC0, hl1, hC1⟩ := at_T86 HR0.out (i : Int) (by omega) (by omega)
      have hrd : rd_T86 l0 (i : Int) = l0[i] := by simp [rd_T86, hlt]
      rw [hrd, Int.toNat_natCast] at hx0 hx1 hx2
      rw [hrd] at hl0 hC0 hl1 hC1
      have hx0 := (HM.out.below.cell (World.block_lt_of_cell? w _ hx0)).trans hx0
      have hx1 := (HM.out.below.cell (World.block_lt_of_cell? w _ hx1)).trans hx1
      have hx2 := (HM.out.below.cell (World.block_lt_of_cell? w _ hx2)).trans hx2
      have hC0 := Aside0.mk (Kd.C_below hC0 HM.out.below)
      have hC1 := Aside0.mk (Kd.C_below hC1 HM.out.below)
      have hsz := Aside0.mk (HOK.out.2 _ (List.getElem_mem hlt))
      have hF2 := hF.out
      rw [List.drop_eq_getElem_cons hlt, List.foldl_cons] at hF2
      have hF2 := Aside0.mk hF2
      obtain ⟨g, hg0⟩ : ∃ g, g = l0[i] := ⟨_, rfl⟩
      rw [← hg0] at hx0 hx1 hx2 hsz hF2 hl0 hl1 hC0 hC1
      obtain ⟨ag, ru, de⟩ := g
      simp only at hx0 hx1 hx2 hsz hl0 hl1 hC0 hC1
      clear hF hrd hg0
      go_upto_region 6 with (first | ((with_reducible refine gate_dst (N := 9) rfl ?_); refine box_event ?hg (N := 9) ?hd (cs := #[.slice none 0 0, .slice none 0 0, .int .i64 0]) (t := 86) ?hr ?_; (case hd => rfl); (case hg => rfl); (case hr => first | (go_simp; done) | (go_simp; rfl)); intro b5 hb5 w2 hbox hb; have HM2 := Aside0.mk (HM.out.step hb); have Hbx := Aside0.mk hbox; have hf50 := blk_frozen hbox 0; have hf51 := blk_frozen hbox 1; have hf52 := blk_frozen hbox 2; have hz0 := blk_cell hbox 0; have hz1 := blk_cell hbox 1; have hz2 := blk_cell hbox 2; simp only [List.getElem?_toArray, List.getElem?_cons_zero, List.getElem?_cons_succ] at hz0 hz1 hz2; have hlb := Aside0.mk (by rw [hb5]; exact HM.out.below.size : w.heap.size ≤ b5); have HBw := Aside0.mk (show wr.heap.size ≤ b5 ∧ Below wr.heap.size wr w2 from ⟨by rw [hb5]; exact Nat.le_refl _, hb⟩); clear hbox hb hb5))
      have Hb3 := Aside0.mk (show (((w2.setCell ⟨b5, 0, none⟩ (.slice B0 ag.length d0)).setCell ⟨b5, 1, none⟩ (.slice B1 ru.length d1)).setCell ⟨b5, 2, none⟩ (.int .i64 de)).heap[b5]? = some (Obj.cells #[.slice B0 ag.length d0, .slice B1 ru.length d1, .int .i64 de] 86 (0, 0)) from blk_put (blk_put (blk_put Hbx.out 0 (.slice B0 ag.length d0) rfl) 1 (.slice B1 ru.length d1) rfl) 2 (.int .i64 de) rfl)
      have HM3 := Aside0.mk (OfI.far (OfI.far (OfI.far HM2.out Hbx.out hlb.out 0 (.slice B0 ag.length d0)) (blk_put Hbx.out 0 (.slice B0 ag.length d0) rfl) hlb.out 1 (.slice B1 ru.length d1)) (blk_put (blk_put Hbx.out 0 (.slice B0 ag.length d0) rfl) 1 (.slice B1 ru.length d1) rfl) hlb.out 2 (.int .i64 de))
      have HBw3 := Aside0.mk (show Below wr.heap.size wr (((w2.setCell ⟨b5, 0, none⟩ (.slice B0 ag.length d0)).setCell ⟨b5, 1, none⟩ (.slice B1 ru.length d1)).setCell ⟨b5, 2, none⟩ (.int .i64 de)) from below_set (below_set (below_set HBw.out.2 HBw.out.1) HBw.out.1) HBw.out.1)
      clear HM2 Hbx HBw hf50 hf51 hf52 hz0 hz1 hz2
      generalize (((w2.setCell ⟨b5, 0, none⟩ (.slice B0 ag.length d0)).setCell ⟨b5, 1, none⟩ (.slice B1 ru.length d1)).setCell ⟨b5, 2, none⟩ (.int .i64 de)) = w3 at *
      have hC03 := Aside0.mk (Kd.C_below hC0.out HBw3.out)
      have hC13 := Aside0.mk (Kd.C_below hC1.out HBw3.out)
      have hk0 : w3.cell? ⟨b5, 0, none⟩ = some (.slice B0 ag.length d0) := blk_cell Hb3.out 0
      have hnm : w3.cell? ⟨w.heap.size, 0, none⟩ = some (.string nm) := blk_cell HM3.out.nmc 0
      have hcc := contains_calls B0 d0 w.heap.size ag nm w3 hsz.out.2.2 hsz.out.2.1 hC03.out hnm
      cases hany : ag.any (isFor nm) with
      | true =>
        rw [hany] at hcc
        have hst : ofStep nm (any, rs, dl) ⟨ag, ru, de⟩ = (true, rs ++ ru, (if dl < de then de else dl)) := by simp only [ofStep]; rw [if_pos hany]
        rw [hst] at hF2
        have hlen2 : Hid ((rs ++ ru).length ≤ (i + 1) * 1000000) := by
          show _ ≤ _
          have h1 := hlen.out
          have h2 := hsz.out.1
          rw [List.length_append]; omega
        clear hst hany HM HBw3 hC0 hC1
        go_upto_region 8 with (go_at_call 45; with_reducible refine hcc.mono ?_; rintro e w4 ⟨rfl, b4⟩; have HM4 := Aside0.mk (HM3.out.step b4); have hC14 := Aside0.mk (Kd.C_below hC13.out b4); have Hb4 := Aside0.mk (blk_below Hb3.out b4); clear hk0 hnm HM3 Hb3 hC13 hC03 b4)
        have hk1 : w4.cell? ⟨b5, 1, none⟩ = some (.slice B1 ru.length d1) := blk_cell Hb4.out 1
        have hk2 : w4.cell? ⟨w.heap.size + 1 + 1, 2, none⟩ = some u := blk_cell HM4.out.out 2
        obtain ⟨Au, cu, hu⟩ := Kd.R_slice HM4.out.row
        subst hu
        have hCr : Aside0 (Kd.C k30 w4 B1 ru.length ru) := hC14
        have hbd : Aside0 ((rs.length + ru.length) * 24 ≤ 140737488355328) := ⟨by
          have h1 := hlen.out
          have h2 := hsz.out.1
          omega⟩
        have hf2 := blk_frozen HM4.out.out 2
        go_upto_region 9 with (first
          | ((with_reducible refine gate_builtin (b := .append) (xs := #[.tmp 23, .tmp 25]) rfl ?_); at_builtin; go_loud (refine Kd.R_append_rows k30 (w0 := w) w.heap.size rfl (.tmp 23) (.tmp 25) 24 30 (.agg #[(.bool false), (.string ⟨#[]⟩)]) 24 rfl Tryd.underlying24 info30 rfl (by decide) (by omega) (.slice Au rs.length cu) rs ru _ _ _ (fun _ => True) (fun _ => False) rfl rfl ?aO ?aR (fun _ _ h => h) (fun _ h => h.elim) ?aF ?aB ?aS ?aL ?_; (case aR => exact hCr.out); (case aB => exact HM4.out.below); (case aF => exact (fun _ _ => trivial)); (case aO => exact HM4.out.row); (case aS => exact HM4.out.below.size); (case aL => exact hbd.out); intro v5 w5 ho hb hg hat; obtain ⟨Av, cv, hv5⟩ := Kd.R_slice ho; subst hv5; have HM5 := Aside0.mk (HM4.out.app ho hb hg); have hf5 := blk_frozen (blk_grown HM4.out.out hg (Kd.R_ne HM4.out.row HM4.out.out (by decide))) 2; have hc5 := blk_cell (blk_grown HM4.out.out hg (Kd.R_ne HM4.out.row HM4.out.out (by decide))) 2; have Hb5 := Aside0.mk (blk_far (blk_grown Hb4.out hg (Kd.R_ne HM4.out.row Hb4.out (by decide))) (p := ⟨w.heap.size + 1 + 1, 2, none⟩) (blk_ne Hb4.out HM4.out.out (by decide)) (.slice Av (rs ++ ru).length cv)); clear hk1 hk2 hf2 HM4 Hb4 hC14 hCr ho hb hg hat)))
        rw [List.length_append] at HM5 Hb5
        generalize (w5.setCell ⟨w.heap.size + 1 + 1, 2, none⟩ (.slice Av (rs.length + ru.length) cv)) = w6 at *
        have hk3 : w6.cell? ⟨b5, 2, none⟩ = some (.int .i64 de) := blk_cell Hb5.out 2
        have hk4 : w6.cell? ⟨w.heap.size + 1 + 1, 3, none⟩ = some (.int .i64 dl) := blk_cell HM5.out.out 3
        have hf6 := blk_frozen HM5.out.out 3
        have HM7 := Aside0.mk (HM5.out.dly (if dl < de then de else dl))
        clear HM5 Hb5 hc5 hf5
        go_wp2
        go_roundw
        case rel => exact ⟨i + 1, true, rs ++ ru, (if dl < de then de else dl), _, rfl, by go_num, by omega, hlen2, hF2, HM7⟩
        case measure => simp [intOf]; omega
      | false =>
        rw [hany] at hcc
        have hlen2 : Hid (rs.length ≤ (i + 1) * 1000000) := Hid.mk_ (Nat.le_trans hlen.out (Nat.mul_le_mul_right _ (Nat.le_succ i)))
        have hst : ofStep nm (any, rs, dl) ⟨ag, ru, de⟩ = (any, rs, dl) := by simp only [ofStep]; rw [if_neg (by rw [hany]; decide)]
        rw [hst] at hF2
        clear hst hany HM HBw3 hC0 hC1
        go_wp2_with (go_at_call 45; with_reducible refine hcc.mono ?_; rintro e w4 ⟨rfl, b4⟩; have HM4 := Aside0.mk (HM3.out.step b4); clear hk0 hnm HM3 Hb3 hC13 hC03 b4)
        go_roundw
        case rel => exact ⟨i + 1, any, rs, dl, u, rfl, by go_num, by omega, hlen2, hF2, HM4⟩
        case measure => simp [intOf]; omega
    · have hlt' : ((i : Int) < (l0.length : Int)) = False := eq_false (by omega)
      obtain rfl : i = l0.length := by omega
      have hr := hF.out
      rw [List.drop_length, List.foldl_nil] at hr
      have Hr := Aside0.mk hr
      clear hF hr
      have hk4 : wr.cell? ⟨w.heap.size + 1 + 1, 2, none⟩ = some u := blk_cell HM.out.out 2
      have hf6 := blk_frozen HM.out.out 2
      obtain ⟨Au, cu, hu⟩ := Kd.R_slice HM.out.row
      subst hu
      have hcu := (Kd.R_reads' HM.out.row).2.1
      by_cases h64 : 64 < rs.length
      · have g1 : (64 < (rs.length : Int)) = True := eq_true (by omega)
        go_upto_region 13 with (fail)
        have Ho8 := Aside0.mk (blk_put HM.out.out 2 (.slice Au 64 64) rfl)
        have Hs8 := Aside0.mk (blk_far HM.out.res (p := ⟨w.heap.size + 1 + 1, 2, none⟩) (by show w.heap.size + 1 ≠ w.heap.size + 1 + 1; omega) (.slice Au 64 64))
        have HR8 := Aside0.mk (Kd.R_set HM.out.row HM.out.out (by decide) 2 (.slice Au 64 64))
        have HB8 := Aside0.mk (below_set HM.out.below (show w.heap.size ≤ w.heap.size + 1 + 1 by omega) (j := 2) (v := .slice Au 64 64))
        have hm : 64 ≤ rs.length := by omega
        clear HM hk4 hf6 g1
        generalize (wr.setCell ⟨w.heap.size + 1 + 1, 2, none⟩ (.slice Au 64 64)) = w8 at *
        have k0 : w8.cell? ⟨w.heap.size + 1 + 1, 0, none⟩ = some (.bool false) := blk_cell Ho8.out 0
        have k1 : w8.cell? ⟨w.heap.size + 1 + 1, 1, none⟩ = some (.bool false) := blk_cell Ho8.out 1
        have k2 : w8.cell? ⟨w.heap.size + 1 + 1, 2, none⟩ = some (.slice Au 64 64) := blk_cell Ho8.out 2
        have k3 : w8.cell? ⟨w.heap.size + 1 + 1, 3, none⟩ = some (.int .i64 dl) := blk_cell Ho8.out 3
        have n0 : w8.cell? ⟨w.heap.size + 1, 0, none⟩ = some (.bool false) := blk_cell Hs8.out 0
        have n1 : w8.cell? ⟨w.heap.size + 1, 1, none⟩ = some (.bool false) := blk_cell Hs8.out 1
        have n2 : w8.cell? ⟨w.heap.size + 1, 2, none⟩ = some (.slice none 0 0) := blk_cell Hs8.out 2
        have n3 : w8.cell? ⟨w.heap.size + 1, 3, none⟩ = some (.int .i64 0) := blk_cell Hs8.out 3
        have f0 := blk_frozen Hs8.out 0
        have f1 := blk_frozen Hs8.out 1
        have f2 := blk_frozen Hs8.out 2
        have f3 := blk_frozen Hs8.out 3
        go_wp2
        have b0 := blk_put Hs8.out 0 (.bool false) (cs' := #[.bool false, .bool false, .slice none 0 0, .int .i64 0]) rfl
        have b1 := blk_put b0 1 (.bool false) (cs' := #[.bool false, .bool false, .slice none 0 0, .int .i64 0]) rfl
        have b2 := blk_put b1 2 (.slice Au 64 64) (cs' := #[.bool false, .bool false, .slice Au 64 64, .int .i64 0]) rfl
        have b3 := blk_put b2 3 (.int .i64 dl) (cs' := #[.bool false, .bool false, .slice Au 64 64, .int .i64 dl]) rfl
        have hR := Kd.R_take (m := 64) (Kd.R_set (Kd.R_set (Kd.R_set (Kd.R_set HR8.out Hs8.out (by decide) 0 (.bool false)) b0 (by decide) 1 (.bool false)) b1 (by decide) 2 (.slice Au 64 64)) b2 (by decide) 3 (.int .i64 dl)) hm
        have hB := below_set (below_set (below_set (below_set HB8.out (show w.heap.size ≤ w.heap.size + 1 by omega) (j := 0) (v := .bool false)) (show w.heap.size ≤ w.heap.size + 1 by omega) (j := 1) (v := .bool false)) (show w.heap.size ≤ w.heap.size + 1 by omega) (j := 2) (v := .slice Au 64 64)) (show w.heap.size ≤ w.heap.size + 1 by omega) (j := 3) (v := .int .i64 dl)
        refine bodyPost_ret (results_ct rfl _ _ (w.heap.size + 1) 26 #[.bool false, .bool false, .slice Au 64 64, .int .i64 dl] (0, 0) _ rfl b3 Tryd.underlying26 rfl (by kernel_rfl)) rfl ?_
        have hlen3 : (rs.take 64).length = 64 := by rw [List.length_take]; omega
        rw [← Hr.out]
        refine ⟨Au, 64, rs.take 64, ?_, rfl, ⟨by omega, cu, ?_⟩, hB⟩
        · rw [hlen3]; rfl
        · rw [hlen3]; exact hR
      · have g1 : (64 < (rs.length : Int)) = False := eq_false (by omega)
        go_upto_region 13 with (fail)
        have Ho8 := Aside0.mk (blk_put HM.out.out 2 (.slice Au rs.length rs.length) rfl)
        have Hs8 := Aside0.mk (blk_far HM.out.res (p := ⟨w.heap.size + 1 + 1, 2, none⟩) (by show w.heap.size + 1 ≠ w.heap.size + 1 + 1; omega) (.slice Au rs.length rs.length))
        have HR8 := Aside0.mk (Kd.R_set HM.out.row HM.out.out (by decide) 2 (.slice Au rs.length rs.length))
        have HB8 := Aside0.mk (below_set HM.out.below (show w.heap.size ≤ w.heap.size + 1 + 1 by omega) (j := 2) (v := .slice Au rs.length rs.length))
        have hm : rs.length ≤ rs.length := by omega
        clear HM hk4 hf6 g1
        generalize (wr.setCell ⟨w.heap.size + 1 + 1, 2, none⟩ (.slice Au rs.length rs.length)) = w8 at *
        have k0 : w8.cell? ⟨w.heap.size + 1 + 1, 0, none⟩ = some (.bool false) := blk_cell Ho8.out 0
        have k1 : w8.cell? ⟨w.heap.size + 1 + 1, 1, none⟩ = some (.bool false) := blk_cell Ho8.out 1
        have k2 : w8.cell? ⟨w.heap.size + 1 + 1, 2, none⟩ = some (.slice Au rs.length rs.length) := blk_cell Ho8.out 2
        have k3 : w8.cell? ⟨w.heap.size + 1 + 1, 3, none⟩ = some (.int .i64 dl) := blk_cell Ho8.out 3
        have n0 : w8.cell? ⟨w.heap.size + 1, 0, none⟩ = some (.bool false) := blk_cell Hs8.out 0
        have n1 : w8.cell? ⟨w.heap.size + 1, 1, none⟩ = some (.bool false) := blk_cell Hs8.out 1
        have n2 : w8.cell? ⟨w.heap.size + 1, 2, none⟩ = some (.slice none 0 0) := blk_cell Hs8.out 2
        have n3 : w8.cell? ⟨w.heap.size + 1, 3, none⟩ = some (.int .i64 0) := blk_cell Hs8.out 3
        have f0 := blk_frozen Hs8.out 0
        have f1 := blk_frozen Hs8.out 1
        have f2 := blk_frozen Hs8.out 2
        have f3 := blk_frozen Hs8.out 3
        go_wp2
        have b0 := blk_put Hs8.out 0 (.bool false) (cs' := #[.bool false, .bool false, .slice none 0 0, .int .i64 0]) rfl
        have b1 := blk_put b0 1 (.bool false) (cs' := #[.bool false, .bool false, .slice none 0 0, .int .i64 0]) rfl
        have b2 := blk_put b1 2 (.slice Au rs.length rs.length) (cs' := #[.bool false, .bool false, .slice Au rs.length rs.length, .int .i64 0]) rfl
        have b3 := blk_put b2 3 (.int .i64 dl) (cs' := #[.bool false, .bool false, .slice Au rs.length rs.length, .int .i64 dl]) rfl
        have hR := Kd.R_take (m := rs.length) (Kd.R_set (Kd.R_set (Kd.R_set (Kd.R_set HR8.out Hs8.out (by decide) 0 (.bool false)) b0 (by decide) 1 (.bool false)) b1 (by decide) 2 (.slice Au rs.length rs.length)) b2 (by decide) 3 (.int .i64 dl)) hm
        have hB := below_set (below_set (below_set (below_set HB8.out (show w.heap.size ≤ w.heap.size + 1 by omega) (j := 0) (v := .bool false)) (show w.heap.size ≤ w.heap.size + 1 by omega) (j := 1) (v := .bool false)) (show w.heap.size ≤ w.heap.size + 1 by omega) (j := 2) (v := .slice Au rs.length rs.length)) (show w.heap.size ≤ w.heap.size + 1 by omega) (j := 3) (v := .int .i64 dl)
        refine bodyPost_ret (results_ct rfl _ _ (w.heap.size + 1) 26 #[.bool false, .bool false, .slice Au rs.length rs.length, .int .i64 dl] (0, 0) _ rfl b3 Tryd.underlying26 rfl (by kernel_rfl)) rfl ?_
        have hlen3 : (rs.take rs.length).length = rs.length := by rw [List.length_take]; omega
        rw [← Hr.out]
        refine ⟨Au, rs.length, rs.take rs.length, ?_, (by show rs.take rs.length = rs.take 64; rw [List.take_of_length_le (Nat.le_refl _), List.take_of_length_le (by omega : rs.length ≤ 64)]), ⟨by omega, cu, ?_⟩, hB⟩
        · rw [hlen3]; rfl
        · rw [hlen3]; exact hR

/-- What is said to somebody. -/
def pickV (l : List S86) (ag : ByteArray) : List S30 × Int :=
  if (tokV ag.data.toList).isEmpty = false ∧ (ofL (tokA ag) l).1 = true then ((ofL (tokA ag) l).2.1.take 64, (ofL (tokA ag) l).2.2) else ((ofL ⟨#[42]⟩ l).2.1.take 64, (ofL ⟨#[42]⟩ l).2.2)

structure PkI (W : World) (w : World) : Prop where
  res : w.heap[W.heap.size]? = some (.cells #[.bool false, .bool false, .slice none 0 0, .int .i64 0] 26 (0, 0))
  below : Below W.heap.size W w
theorem PkI.step {W w w' : World} (h : PkI W w) (hb : Below w.heap.size w w') : PkI W w' := ⟨blk_below h.res hb, below_step h.below hb⟩
theorem PkI.far {W w : World} (h : PkI W w) {b : Nat} {cs : Array Value} {t : TypeId} (hb : w.heap[b]? = some (.cells cs t (0, 0))) (hB : W.heap.size < b) (j : Nat) (v : Value) : PkI W (w.setCell ⟨b, j, none⟩ v) :=
  ⟨blk_far h.res (p := ⟨b, j, none⟩) (by show W.heap.size ≠ b; omega) v, below_set h.below (by omega)⟩
set_option maxHeartbeats 8000000 in
set_option maxRecDepth 1000000 in
theorem pick_calls (A0 : Option Addr) (c0 : Nat) (l0 : List S86) (ag : ByteArray) (w : World) (hr0 : Kd.C k86 w A0 l0.length l0) (hok : ofOk l0) (ha : ag.size ≤ 140737488351232) :
    Calls Tryd.prog 16 #[.slice A0 l0.length c0, .string ag] w fun e w' => ∃ (A : Option Addr) (c : Nat) (rs : List S30),
      e = .returned (.agg #[.bool false, .bool false, .slice A rs.length c, .int .i64 (pickV l0 ag).2]) ∧ rs = (pickV l0 ag).1 ∧ Rls w.heap.size w' A c rs ∧ Below w.heap.size w w' := by
  have HR0 := Aside0.mk hr0
  have HOK := Aside0.mk hok
  have htk := fun w1 => token_calls ag w1 ha
  have b1 := blk_new w (Obj.cells #[.bool false, .bool false, .slice none 0 0, .int .i64 0] 26)
  have HI : Aside0 (PkI w (w.alloc (Obj.cells #[.bool false, .bool false, .slice none 0 0, .int .i64 0] 26))) := ⟨⟨b1, below_alloc (Below.refl _ _) _⟩⟩
  clear hr0 hok ha b1
  cases h1 : (tokV ag.data.toList).isEmpty with
  | false =>
    obtain ⟨r, hr⟩ : ∃ r, r = ofL (tokA ag) l0 := ⟨_, rfl⟩
    obtain ⟨ok, rs0, dl⟩ := r
    have hpv : Aside0 (pickV l0 ag = if ok = true then (rs0.take 64, dl) else ((ofL ⟨#[42]⟩ l0).2.1.take 64, (ofL ⟨#[42]⟩ l0).2.2)) := ⟨by simp [pickV, h1, ← hr]⟩
    have hof := fun (w1 : World) (hb : Below w.heap.size w w1) => of_calls A0 c0 l0 (tokA ag) w1 (Kd.C_below HR0.out hb) HOK.out
    rw [← hr] at hof
    have hof2 := fun (w1 : World) (hb : Below w.heap.size w w1) => of_calls A0 c0 l0 ⟨#[42]⟩ w1 (Kd.C_below HR0.out hb) HOK.out
    have hof := Aside0.mk hof
    have hof2 := Aside0.mk hof2
    clear hr
    go_enter Tryd.func16, Tryd.ntmps16
    go_upto_region 4 with (first
      | (go_at_call 14; refine (htk _).mono ?_; rintro e w1 ⟨rfl, b1⟩; have HI1 := Aside0.mk (HI.out.step b1); clear HI b1)
      | (go_at_call 30; refine (hof.out _ HI1.out.below).mono ?_; rintro e w2 ⟨A, c, rs, rfl, hrs0, hR0, b2⟩; have HI2 := Aside0.mk (HI1.out.step b2); have hrs := Aside0.mk hrs0; have hR := Aside0.mk (hR0.lower HI1.out.below.size); clear HI1 b2 hrs0 hR0)
      | ((with_reducible refine gate_dst (N := 6) rfl ?_); refine box_event ?hg (N := 6) ?hd (cs := #[.bool false, .bool false, .slice none 0 0, .int .i64 0]) (t := 26) ?hr ?_; (case hd => rfl); (case hg => rfl); (case hr => first | (go_simp; done) | (go_simp; rfl)); intro b5 hb5 w3 hbox hb; have HI3 := Aside0.mk (HI2.out.step hb); have hR3 := Aside0.mk (hR.out.below hb); have Hbx := Aside0.mk hbox; have hf50 := blk_frozen hbox 0; have hf51 := blk_frozen hbox 1; have hf52 := blk_frozen hbox 2; have hf53 := blk_frozen hbox 3; have hz0 := blk_cell hbox 0; have hz1 := blk_cell hbox 1; have hz2 := blk_cell hbox 2; have hz3 := blk_cell hbox 3; simp only [List.getElem?_toArray, List.getElem?_cons_zero, List.getElem?_cons_succ] at hz0 hz1 hz2 hz3; have hlb := Aside0.mk (by rw [hb5]; exact blk_lt HI2.out.res : w.heap.size < b5); clear HI2 hR hbox hb hb5))
    have x0 := blk_put Hbx.out 0 (.bool false) (cs' := #[.bool false, .bool false, .slice none 0 0, .int .i64 0]) rfl
    have x1 := blk_put x0 1 (.bool false) (cs' := #[.bool false, .bool false, .slice none 0 0, .int .i64 0]) rfl
    have x2 := blk_put x1 2 (.slice A rs.length c) (cs' := #[.bool false, .bool false, .slice A rs.length c, .int .i64 0]) rfl
    have Hbx4 := Aside0.mk (blk_put x2 3 (.int .i64 dl) (cs' := #[.bool false, .bool false, .slice A rs.length c, .int .i64 dl]) rfl)
    have HI4 := Aside0.mk ((((HI3.out.far Hbx.out hlb.out 0 (.bool false)).far x0 hlb.out 1 (.bool false)).far x1 hlb.out 2 (.slice A rs.length c)).far x2 hlb.out 3 (.int .i64 dl))
    have hR4 := Aside0.mk ((((hR3.out.set Hbx.out 0 (.bool false)).set x0 1 (.bool false)).set x1 2 (.slice A rs.length c)).set x2 3 (.int .i64 dl))
    clear x0 x1 x2 HI3 Hbx hR3 hf50 hf51 hf52 hf53 hz0 hz1 hz2 hz3
    generalize ((((w3.setCell ⟨b5, 0, none⟩ (.bool false)).setCell ⟨b5, 1, none⟩ (.bool false)).setCell ⟨b5, 2, none⟩ (.slice A rs.length c)).setCell ⟨b5, 3, none⟩ (.int .i64 dl)) = w4 at *
    cases ok with
    | true =>
      have k0 : w4.cell? ⟨b5, 0, none⟩ = some (.bool false) := blk_cell Hbx4.out 0
      have k1 : w4.cell? ⟨b5, 1, none⟩ = some (.bool false) := blk_cell Hbx4.out 1
      have k2 : w4.cell? ⟨b5, 2, none⟩ = some (.slice A rs.length c) := blk_cell Hbx4.out 2
      have k3 : w4.cell? ⟨b5, 3, none⟩ = some (.int .i64 dl) := blk_cell Hbx4.out 3
      have n0 : w4.cell? ⟨w.heap.size, 0, none⟩ = some (.bool false) := blk_cell HI4.out.res 0
      have n1 : w4.cell? ⟨w.heap.size, 1, none⟩ = some (.bool false) := blk_cell HI4.out.res 1
      have n2 : w4.cell? ⟨w.heap.size, 2, none⟩ = some (.slice none 0 0) := blk_cell HI4.out.res 2
      have n3 : w4.cell? ⟨w.heap.size, 3, none⟩ = some (.int .i64 0) := blk_cell HI4.out.res 3
      have f0 := blk_frozen HI4.out.res 0
      have f1 := blk_frozen HI4.out.res 1
      have f2 := blk_frozen HI4.out.res 2
      have f3 := blk_frozen HI4.out.res 3
      go_wp2
      have b0 := blk_put HI4.out.res 0 (.bool false) (cs' := #[.bool false, .bool false, .slice none 0 0, .int .i64 0]) rfl
      have b1 := blk_put b0 1 (.bool false) (cs' := #[.bool false, .bool false, .slice none 0 0, .int .i64 0]) rfl
      have b2 := blk_put b1 2 (.slice A rs.length c) (cs' := #[.bool false, .bool false, .slice A rs.length c, .int .i64 0]) rfl
      have b3 := blk_put b2 3 (.int .i64 dl) (cs' := #[.bool false, .bool false, .slice A rs.length c, .int .i64 dl]) rfl
      have hR5 := (((hR4.out.set HI4.out.res 0 (.bool false)).set b0 1 (.bool false)).set b1 2 (.slice A rs.length c)).set b2 3 (.int .i64 dl)
      have hB := below_set (below_set (below_set (below_set HI4.out.below (Nat.le_refl _) (j := 0) (v := .bool false)) (Nat.le_refl _) (j := 1) (v := .bool false)) (Nat.le_refl _) (j := 2) (v := .slice A rs.length c)) (Nat.le_refl _) (j := 3) (v := .int .i64 dl)
      refine bodyPost_ret (results_cell_row rfl _ _ w.heap.size 26 #[.bool false, .bool false, .slice A rs.length c, .int .i64 dl] (0, 0) _ rfl b3 Tryd.underlying26 rfl (by kernel_rfl)) rfl ?_
      rw [hpv.out]
      exact ⟨A, c, rs, rfl, hrs.out, hR5, hB⟩
    | false =>
      clear hR4 hrs Hbx4 hlb
      obtain ⟨dl2, hdl⟩ : ∃ d, d = (ofL ⟨#[42]⟩ l0).2.2 := ⟨_, rfl⟩
      rw [← hdl] at hof2 hpv
      clear hdl
      go_upto_region 7 with (first
        | (go_at_call 30; refine (hof2.out _ HI4.out.below).mono ?_; rintro e w2 ⟨A, c, rs, rfl, hrs0, hR0, b2⟩; have HI2 := Aside0.mk (HI4.out.step b2); have hrs := Aside0.mk hrs0; have hR := Aside0.mk (hR0.lower HI4.out.below.size); clear HI4 b2 hrs0 hR0)
        | ((with_reducible refine gate_dst (N := 8) rfl ?_); refine box_event ?hg (N := 8) ?hd (cs := #[.bool false, .bool false, .slice none 0 0, .int .i64 0]) (t := 26) ?hr ?_; (case hd => rfl); (case hg => rfl); (case hr => first | (go_simp; done) | (go_simp; rfl)); intro b5 hb5 w3 hbox hb; have HI3 := Aside0.mk (HI2.out.step hb); have hR3 := Aside0.mk (hR.out.below hb); have Hbx := Aside0.mk hbox; have hf50 := blk_frozen hbox 0; have hf51 := blk_frozen hbox 1; have hf52 := blk_frozen hbox 2; have hf53 := blk_frozen hbox 3; have hz0 := blk_cell hbox 0; have hz1 := blk_cell hbox 1; have hz2 := blk_cell hbox 2; have hz3 := blk_cell hbox 3; simp only [List.getElem?_toArray, List.getElem?_cons_zero, List.getElem?_cons_succ] at hz0 hz1 hz2 hz3; have hlb := Aside0.mk (by rw [hb5]; exact blk_lt HI2.out.res : w.heap.size < b5); clear HI2 hR hbox hb hb5))
      have x0 := blk_put Hbx.out 0 (.bool false) (cs' := #[.bool false, .bool false, .slice none 0 0, .int .i64 0]) rfl
      have x1 := blk_put x0 1 (.bool false) (cs' := #[.bool false, .bool false, .slice none 0 0, .int .i64 0]) rfl
      have x2 := blk_put x1 2 (.slice A rs.length c) (cs' := #[.bool false, .bool false, .slice A rs.length c, .int .i64 0]) rfl
      have Hbx4 := Aside0.mk (blk_put x2 3 (.int .i64 dl2) (cs' := #[.bool false, .bool false, .slice A rs.length c, .int .i64 dl2]) rfl)
      have HI4 := Aside0.mk ((((HI3.out.far Hbx.out hlb.out 0 (.bool false)).far x0 hlb.out 1 (.bool false)).far x1 hlb.out 2 (.slice A rs.length c)).far x2 hlb.out 3 (.int .i64 dl2))
      have hR4 := Aside0.mk ((((hR3.out.set Hbx.out 0 (.bool false)).set x0 1 (.bool false)).set x1 2 (.slice A rs.length c)).set x2 3 (.int .i64 dl2))
      clear x0 x1 x2 HI3 Hbx hR3 hf50 hf51 hf52 hf53 hz0 hz1 hz2 hz3
      generalize ((((w3.setCell ⟨b5, 0, none⟩ (.bool false)).setCell ⟨b5, 1, none⟩ (.bool false)).setCell ⟨b5, 2, none⟩ (.slice A rs.length c)).setCell ⟨b5, 3, none⟩ (.int .i64 dl2)) = w4 at *
      have k0 : w4.cell? ⟨b5, 0, none⟩ = some (.bool false) := blk_cell Hbx4.out 0
      have k1 : w4.cell? ⟨b5, 1, none⟩ = some (.bool false) := blk_cell Hbx4.out 1
      have k2 : w4.cell? ⟨b5, 2, none⟩ = some (.slice A rs.length c) := blk_cell Hbx4.out 2
      have k3 : w4.cell? ⟨b5, 3, none⟩ = some (.int .i64 dl2) := blk_cell Hbx4.out 3
      have n0 : w4.cell? ⟨w.heap.size, 0, none⟩ = some (.bool false) := blk_cell HI4.out.res 0
      have n1 : w4.cell? ⟨w.heap.size, 1, none⟩ = some (.bool false) := blk_cell HI4.out.res 1
      have n2 : w4.cell? ⟨w.heap.size, 2, none⟩ = some (.slice none 0 0) := blk_cell HI4.out.res 2
      have n3 : w4.cell? ⟨w.heap.size, 3, none⟩ = some (.int .i64 0) := blk_cell HI4.out.res 3
      have f0 := blk_frozen HI4.out.res 0
      have f1 := blk_frozen HI4.out.res 1
      have f2 := blk_frozen HI4.out.res 2
      have f3 := blk_frozen HI4.out.res 3
      go_wp2
      have b0 := blk_put HI4.out.res 0 (.bool false) (cs' := #[.bool false, .bool false, .slice none 0 0, .int .i64 0]) rfl
      have b1 := blk_put b0 1 (.bool false) (cs' := #[.bool false, .bool false, .slice none 0 0, .int .i64 0]) rfl
      have b2 := blk_put b1 2 (.slice A rs.length c) (cs' := #[.bool false, .bool false, .slice A rs.length c, .int .i64 0]) rfl
      have b3 := blk_put b2 3 (.int .i64 dl2) (cs' := #[.bool false, .bool false, .slice A rs.length c, .int .i64 dl2]) rfl
      have hR5 := (((hR4.out.set HI4.out.res 0 (.bool false)).set b0 1 (.bool false)).set b1 2 (.slice A rs.length c)).set b2 3 (.int .i64 dl2)
      have hB := below_set (below_set (below_set (below_set HI4.out.below (Nat.le_refl _) (j := 0) (v := .bool false)) (Nat.le_refl _) (j := 1) (v := .bool false)) (Nat.le_refl _) (j := 2) (v := .slice A rs.length c)) (Nat.le_refl _) (j := 3) (v := .int .i64 dl2)
      refine bodyPost_ret (results_cell_row rfl _ _ w.heap.size 26 #[.bool false, .bool false, .slice A rs.length c, .int .i64 dl2] (0, 0) _ rfl b3 Tryd.underlying26 rfl (by kernel_rfl)) rfl ?_
      rw [hpv.out]
      exact ⟨A, c, rs, rfl, hrs.out, hR5, hB⟩
  | true =>
    have hpv : Aside0 (pickV l0 ag = ((ofL ⟨#[42]⟩ l0).2.1.take 64, (ofL ⟨#[42]⟩ l0).2.2)) := ⟨by simp [pickV, h1]⟩
    have hof2 := Aside0.mk (fun (w1 : World) (hb : Below w.heap.size w w1) => of_calls A0 c0 l0 ⟨#[42]⟩ w1 (Kd.C_below HR0.out hb) HOK.out)
    obtain ⟨dl2, hdl⟩ : ∃ d, d = (ofL ⟨#[42]⟩ l0).2.2 := ⟨_, rfl⟩
    rw [← hdl] at hof2 hpv
    clear hdl
    go_enter Tryd.func16, Tryd.ntmps16
    go_upto_region 6 with (go_at_call 14; refine (htk _).mono ?_; rintro e w1 ⟨rfl, b1⟩; have HI1 := Aside0.mk (HI.out.step b1); clear HI b1)
    go_upto_region 7 with (first
      | (go_at_call 30; refine (hof2.out _ HI1.out.below).mono ?_; rintro e w2 ⟨A, c, rs, rfl, hrs0, hR0, b2⟩; have HI2 := Aside0.mk (HI1.out.step b2); have hrs := Aside0.mk hrs0; have hR := Aside0.mk (hR0.lower HI1.out.below.size); clear HI1 b2 hrs0 hR0)
      | ((with_reducible refine gate_dst (N := 8) rfl ?_); refine box_event ?hg (N := 8) ?hd (cs := #[.bool false, .bool false, .slice none 0 0, .int .i64 0]) (t := 26) ?hr ?_; (case hd => rfl); (case hg => rfl); (case hr => first | (go_simp; done) | (go_simp; rfl)); intro b5 hb5 w3 hbox hb; have HI3 := Aside0.mk (HI2.out.step hb); have hR3 := Aside0.mk (hR.out.below hb); have Hbx := Aside0.mk hbox; have hf50 := blk_frozen hbox 0; have hf51 := blk_frozen hbox 1; have hf52 := blk_frozen hbox 2; have hf53 := blk_frozen hbox 3; have hz0 := blk_cell hbox 0; have hz1 := blk_cell hbox 1; have hz2 := blk_cell hbox 2; have hz3 := blk_cell hbox 3; simp only [List.getElem?_toArray, List.getElem?_cons_zero, List.getElem?_cons_succ] at hz0 hz1 hz2 hz3; have hlb := Aside0.mk (by rw [hb5]; exact blk_lt HI2.out.res : w.heap.size < b5); clear HI2 hR hbox hb hb5))
    have x0 := blk_put Hbx.out 0 (.bool false) (cs' := #[.bool false, .bool false, .slice none 0 0, .int .i64 0]) rfl
    have x1 := blk_put x0 1 (.bool false) (cs' := #[.bool false, .bool false, .slice none 0 0, .int .i64 0]) rfl
    have x2 := blk_put x1 2 (.slice A rs.length c) (cs' := #[.bool false, .bool false, .slice A rs.length c, .int .i64 0]) rfl
    have Hbx4 := Aside0.mk (blk_put x2 3 (.int .i64 dl2) (cs' := #[.bool false, .bool false, .slice A rs.length c, .int .i64 dl2]) rfl)
    have HI4 := Aside0.mk ((((HI3.out.far Hbx.out hlb.out 0 (.bool false)).far x0 hlb.out 1 (.bool false)).far x1 hlb.out 2 (.slice A rs.length c)).far x2 hlb.out 3 (.int .i64 dl2))
    have hR4 := Aside0.mk ((((hR3.out.set Hbx.out 0 (.bool false)).set x0 1 (.bool false)).set x1 2 (.slice A rs.length c)).set x2 3 (.int .i64 dl2))
    clear x0 x1 x2 HI3 Hbx hR3 hf50 hf51 hf52 hf53 hz0 hz1 hz2 hz3
    generalize ((((w3.setCell ⟨b5, 0, none⟩ (.bool false)).setCell ⟨b5, 1, none⟩ (.bool false)).setCell ⟨b5, 2, none⟩ (.slice A rs.length c)).setCell ⟨b5, 3, none⟩ (.int .i64 dl2)) = w4 at *
    have k0 : w4.cell? ⟨b5, 0, none⟩ = some (.bool false) := blk_cell Hbx4.out 0
    have k1 : w4.cell? ⟨b5, 1, none⟩ = some (.bool false) := blk_cell Hbx4.out 1
    have k2 : w4.cell? ⟨b5, 2, none⟩ = some (.slice A rs.length c) := blk_cell Hbx4.out 2
    have k3 : w4.cell? ⟨b5, 3, none⟩ = some (.int .i64 dl2) := blk_cell Hbx4.out 3
    have n0 : w4.cell? ⟨w.heap.size, 0, none⟩ = some (.bool false) := blk_cell HI4.out.res 0
    have n1 : w4.cell? ⟨w.heap.size, 1, none⟩ = some (.bool false) := blk_cell HI4.out.res 1
    have n2 : w4.cell? ⟨w.heap.size, 2, none⟩ = some (.slice none 0 0) := blk_cell HI4.out.res 2
    have n3 : w4.cell? ⟨w.heap.size, 3, none⟩ = some (.int .i64 0) := blk_cell HI4.out.res 3
    have f0 := blk_frozen HI4.out.res 0
    have f1 := blk_frozen HI4.out.res 1
    have f2 := blk_frozen HI4.out.res 2
    have f3 := blk_frozen HI4.out.res 3
    go_wp2
    have b0 := blk_put HI4.out.res 0 (.bool false) (cs' := #[.bool false, .bool false, .slice none 0 0, .int .i64 0]) rfl
    have b1 := blk_put b0 1 (.bool false) (cs' := #[.bool false, .bool false, .slice none 0 0, .int .i64 0]) rfl
    have b2 := blk_put b1 2 (.slice A rs.length c) (cs' := #[.bool false, .bool false, .slice A rs.length c, .int .i64 0]) rfl
    have b3 := blk_put b2 3 (.int .i64 dl2) (cs' := #[.bool false, .bool false, .slice A rs.length c, .int .i64 dl2]) rfl
    have hR5 := (((hR4.out.set HI4.out.res 0 (.bool false)).set b0 1 (.bool false)).set b1 2 (.slice A rs.length c)).set b2 3 (.int .i64 dl2)
    have hB := below_set (below_set (below_set (below_set HI4.out.below (Nat.le_refl _) (j := 0) (v := .bool false)) (Nat.le_refl _) (j := 1) (v := .bool false)) (Nat.le_refl _) (j := 2) (v := .slice A rs.length c)) (Nat.le_refl _) (j := 3) (v := .int .i64 dl2)
    refine bodyPost_ret (results_cell_row rfl _ _ w.heap.size 26 #[.bool false, .bool false, .slice A rs.length c, .int .i64 dl2] (0, 0) _ rfl b3 Tryd.underlying26 rfl (by kernel_rfl)) rfl ?_
    rw [hpv.out]
    exact ⟨A, c, rs, rfl, hrs.out, hR5, hB⟩
end Go.Proofs.YtdnaddignhjihaaDoor.Given
namespace Go.Proofs.YtdnaddignhjihaaDoor.Given
open Go.RowKit Go.Proofs.YtdnaddignhjihaaDoor.QBase Go.Proofs.YtdnaddignhjihaaDoorW.PrintWords Go.Proofs.YtdnaddignhjihaaDoorW.PrintLast
set_option linter.unusedVariables false
theorem info35 : (Tryd.prog.info? 35).map (fun i => (i.zero, i.size, i.bytes)) = some (some (.agg #[(.string ⟨#[]⟩), (.string ⟨#[]⟩)]), 2, 32) := by kernel_rfl
/-- An end of a line. -/
def isNL (r : Nat) : Bool := r == 13 || r == 10
set_option maxHeartbeats 4000000 in
set_option maxRecDepth 1000000 in
theorem nl_calls (x : Nat) (hx : x ≤ 1114111) (w : World) : Calls Tryd.prog 25 #[.int .i32 (x : Int)] w fun e w' => e = .returned (.bool (isNL x)) ∧ ∃ q, w' = w.drewN q := by
  by_cases h : x = 13
  · have h1 : (((x : Nat) : Int) == 13) = true := by simp; omega
    go_enter Tryd.func25, Tryd.ntmps25
    go_wp2
    go_ret
    exact ⟨by simp [isNL, h], 0, rfl⟩
  · have h1 : (((x : Nat) : Int) == 13) = false := by simp; omega
    by_cases h' : x = 10
    · have h2 : (((x : Nat) : Int) == 10) = true := by simp; omega
      go_enter Tryd.func25, Tryd.ntmps25
      go_wp2
      go_ret
      exact ⟨by simp [isNL, h'], 0, rfl⟩
    · have h2 : (((x : Nat) : Int) == 10) = false := by simp; omega
      go_enter Tryd.func25, Tryd.ntmps25
      go_wp2
      go_ret
      exact ⟨by simp [isNL, h, h'], 0, rfl⟩

/-- What the pieces of a text say. -/
def parseL : List ByteArray → Option (List S35)
  | [] => some []
  | p :: ps => (lines_line.f p).bind fun t => (parseL ps).map fun r => if t.2.2 = true then ⟨t.1, t.2.1⟩ :: r else r
def cut4096 (a : ByteArray) : ByteArray := ⟨(Lib.trimPrefix (a.extract 0 (min a.size 4096)).data.toList [239, 187, 191]).toArray⟩
def lines_Parse.f (a0 : ByteArray) : Option (List S35) :=
  if a0.size ≤ 140737488351232 ∧ (Lib.goFieldsP isNL (cut4096 a0)).length < 1000000 then parseL (Lib.goFieldsP isNL (cut4096 a0)) else none

set_option maxHeartbeats 4000000 in
set_option maxRecDepth 1000000 in
theorem lines_Parse.calls (a0 : ByteArray) (r : List S35) (w : World) (h : lines_Parse.f a0 = some r) (hS_ : Shp w) :
    Calls Tryd.prog 13 #[.string a0] w fun e w' => ∃ v0_ : Value, e = .returned v0_ ∧ Kd.R k35 35 w' w.heap.size (fun _ => True) v0_ r ∧ Below w.heap.size w w' := by
  unfold lines_Parse.f at h
  split at h
  case isFalse => cases h
  rename_i hc
  obtain ⟨hs, hl⟩ := hc
  have HS := Aside0.mk hS_
  have HT : Aside0 (strings_TrimPrefix.f (a0.extract 0 (min a0.size 4096)) ⟨#[239, 187, 191]⟩ = some (cut4096 a0)) := ⟨rfl⟩
  have hcs : (cut4096 a0).size ≤ 4294967296 := by
    have : (cut4096 a0).data.toList.length ≤ (a0.extract 0 (min a0.size 4096)).data.toList.length := by
      show (Lib.trimPrefix _ _).length ≤ _
      unfold Lib.trimPrefix
      split
      · simp
      · omega
    simp at this
    omega
  generalize cut4096 a0 = T at *
  generalize hP : Lib.goFieldsP isNL T = P at *
  have HF : ∀ W : World, Calls Tryd.prog 24 #[.string T, .func (.func 25) #[] #[]] W fun e w' => ∃ A, e = .returned (.slice (some ⟨A, 0, none⟩) P.length P.length) ∧ W.heap.size ≤ A ∧
      w'.ownsRow W.heap.size 9 1 (.slice (some ⟨A, 0, none⟩) P.length P.length) P.length (P.map Value.string) ∧ Below W.heap.size W w' := by
    intro W
    rw [← hP]
    exact Tryd.strings_FieldsFunc_runes 25 #[] (fun args w => enters_ Tryd.func25 (by kernel_rfl) rfl args w) isNL T W hcs (fun W' x hx _ => nl_calls x hx W')
  have HF := Aside0.mk HF
  have HH := Aside0.mk h
  clear h hS_ hP
  have hmin : min (a0.size : Int) 4096 = ((min a0.size 4096 : Nat) : Int) := by omega
  go_enter Tryd.func13, Tryd.ntmps13
  go_wp2_with (first
    | (go_at_call 23; (with_reducible refine (strings_TrimPrefix.calls (a0.extract 0 (min a0.size 4096)) ⟨#[239, 187, 191]⟩ T _ HT.out).mono ?_); rintro e w' ⟨rfl, ⟨nd, rfl⟩⟩)
    | (go_at_call 24; refine (HF.out _).mono ?_; rintro e w1 ⟨A, rfl, hA, hown, hb⟩))
  have HBw : Hid (Below w.heap.size w w1) := below_step (pw_below_drewN (Below.refl _ w) nd) hb
  have HS1 := Aside0.mk (Shp.below HS.out HBw.out)
  have hcells : ∀ i (hi : i < P.length), w1.cell? ⟨A, i, none⟩ = some (.string (P[i])) := by
    intro i hi
    have := hown.cells (g := A) rfl i (.string (P[i])) (by simp [hi])
    have e : (⟨A, 0, none⟩ : Addr).add i = ⟨A, i, none⟩ := by unfold Addr.add; split <;> simp_all
    rwa [e] at this
  clear hown hb HF HT HS
  go_loopw [18, 3] (fun v18 v3 wr => ∃ (i : Nat) (acc : List S35) (rest : List S35), v18 = .int .i64 i ∧ i ≤ P.length ∧ Hid (acc.length ≤ i) ∧ Aside0 (parseL (P.drop i) = some rest) ∧ Aside0 (acc ++ rest = r) ∧ Aside0 (Kd.R k35 35 wr w1.heap.size (fun _ => True) v3 acc) ∧ Aside0 (Below w1.heap.size w1 wr)) (fun v18 v3 wr => P.length - (intOf v18).toNat)
  case atStart => exact ⟨0, [], r, rfl, by omega, Nat.zero_le _, ⟨HH.out⟩, ⟨rfl⟩, ⟨Kd.R_nil _ _ _ _ _⟩, ⟨Below.refl _ _⟩⟩
  case round =>
    clear HH
    obtain ⟨i, acc, rest, rfl, hi, hlen, HP, HR, HO_3, HB⟩ := hrel
    by_cases hlt : i < P.length
    · have hlt' : ((i : Int) < (P.length : Int)) = True := eq_true (by omega)
      have hcell := hcells i hlt
      have hdr : P.drop i = P[i] :: P.drop (i + 1) := List.drop_eq_getElem_cons hlt
      have hp2 := HP.out
      rw [hdr, parseL] at hp2
      obtain ⟨t, ht, hp2⟩ := Option.bind_eq_some_iff.mp hp2
      obtain ⟨r2, hr2, hr3⟩ := Option.map_eq_some_iff.mp hp2
      obtain ⟨p, hp⟩ : ∃ p, p = P[i] := ⟨_, rfl⟩
      rw [← hp] at hcell ht
      obtain ⟨kk, vv, ok⟩ := t
      have HL := Aside0.mk ht
      have HP2 := Aside0.mk hr2
      have hcell := (HB.out.cell (World.block_lt_of_cell? w1 _ hcell)).trans hcell
      have hl2 : Hid (acc.length ≤ 1000000) := Nat.le_trans hlen.out (by omega)
      cases ok with
      | true =>
        simp only [if_true] at hr3
        have HR2 : Aside0 ((acc ++ [⟨kk, vv⟩]) ++ r2 = r) := ⟨by rw [← HR.out, ← hr3]; simp⟩
        have hlen2 : Hid ((acc ++ [(⟨kk, vv⟩ : S35)]).length ≤ i + 1) := by have := hlen.out; show _ ≤ _; simp; omega
        have hlen := hl2
        clear hp2 hr2 hr3 ht HP hdr hp HR hcells hl2
        go_wp2_with (first | ((with_reducible refine gate_callee (f := 26) rfl ?_); refine goesL_ (some 24) rfl rfl Tryd.func26 (by kernel_rfl) rfl #[.string p] rfl (by (try simp only [List.map_toArray, List.map_cons, List.map_nil]); first | done | rfl) ?_; (with_reducible refine (lines_line.calls p kk vv true _ HL.out (Shp.below HS1.out (by repeat (first | (with_reducible first | exact HB.out | apply below_alloc | apply pw_below_drewN | apply below_drew1) | exact HB.out)))).mono ?_); rintro e w36 ⟨rfl, hb⟩; refine ⟨_, rfl, ?_⟩; have n0_ := Aside0.mk (Kd.R_below (by (with_reducible repeat (first | apply Kd.R_alloc | apply Kd.R_drewN | apply Kd.R_drew)); exact HO_3.out) hb); have n1_ := Aside0.mk (below_step (by repeat (first | (with_reducible first | exact HB.out | apply below_alloc | apply pw_below_drewN | apply below_drew1) | exact HB.out)) hb); clear HO_3; clear HB; have HO_3 := n0_; have HB := n1_; clear n0_ n1_; (try clear hb)) | ((with_reducible refine gate_dst (N := 6) rfl ?_); refine box_event ?hg (N := 6) ?hd (cs := #[.string (⟨#[]⟩ : ByteArray), .string (⟨#[]⟩ : ByteArray)]) (t := 35) ?hr ?_; (case hd => rfl); (case hg => rfl); (case hr => first | (go_simp; done) | (go_simp; rfl)); intro gb125 hg w37 hbox hb; have n0_ := Aside0.mk (Kd.R_below (Kd.R_elderB (by (with_reducible repeat (first | apply Kd.R_alloc | apply Kd.R_drewN | apply Kd.R_drew)); exact HO_3.out) gb125 (Nat.le_of_eq hg.symm)) hb); have n1_ := Aside0.mk (below_step (by repeat (first | (with_reducible first | exact HB.out | apply below_alloc | apply pw_below_drewN | apply below_drew1) | exact HB.out)) hb); have n2_ := Aside0.mk (hbox); have n4_ := Aside0.mk ((by rw [hg]; exact (below_size (by repeat (first | (with_reducible first | exact HB.out | apply below_alloc | apply pw_below_drewN | apply below_drew1) | exact HB.out))) : w1.heap.size ≤ gb125)); clear HO_3; clear HB; have HO_3 := n0_; have HB := n1_; have BK125 := n2_; have GE125 := n4_; clear n0_ n1_ n2_ n4_; clear hb hbox hg; have hcz38_0 : w37.cell? ⟨gb125, 0, none⟩ = some (.string (⟨#[]⟩ : ByteArray)) := (blk_cell BK125.out 0).trans rfl; have hcz38_1 : w37.cell? ⟨gb125, 1, none⟩ = some (.string (⟨#[]⟩ : ByteArray)) := (blk_cell BK125.out 1).trans rfl; have hfz38_0 := blk_frozen BK125.out 0; have hfz38_1 := blk_frozen BK125.out 1) | ((with_reducible refine gate_builtin (b := .append) (xs := #[.tmp 28, .tmp 30]) rfl ?_); at_builtin; refine Kd.R_append k35 (w0 := w1) w1.heap.size rfl (.tmp 28) (.tmp 30) 32 35 (.agg #[(.string ⟨#[]⟩), (.string ⟨#[]⟩)]) 32 rfl Tryd.underlying32 info35 rfl (by decide) (by omega) u3 acc (⟨kk, vv⟩ : S35) [.string kk, .string vv] (fun k_ => k_ ≠ gb125) (fun _ => False) rfl (by first | (go_simp; done) | (go_simp; rfl)) ?aP (fun _ hk => hk.elim) ?aF ?aO ?aB ?aS ?aL ?_; (case aP => exact k35_mkM _ _ _ (⟨kk, vv⟩ : S35)); (case aB => exact (by repeat (first | (with_reducible first | exact HB.out | apply below_alloc | apply pw_below_drewN | apply below_drew1 | refine below_set ?_ GE125.out) | exact HB.out))); (case aF => exact (fun k_ hk => Kd.freshB (g := gb125) (o := .cells #[.string kk, .string vv] 35 (0, 0)) (by (with_reducible repeat (first | refine blk_drewN ?_ _ | refine blk_drew ?_ | refine blk_alloc ?_ _)); refine blk_put (cs := #[.string kk, .string (⟨#[]⟩ : ByteArray)]) ?_ 1 _ rfl; (with_reducible repeat (first | refine blk_drewN ?_ _ | refine blk_drew ?_ | refine blk_alloc ?_ _)); refine blk_put (cs := #[.string (⟨#[]⟩ : ByteArray), .string (⟨#[]⟩ : ByteArray)]) ?_ 0 _ rfl; (with_reducible repeat (first | refine blk_drewN ?_ _ | refine blk_drew ?_ | refine blk_alloc ?_ _)); exact BK125.out) k_ hk)); (case aO => exact (by (with_reducible repeat (first | apply Kd.R_alloc | apply Kd.R_drewN | apply Kd.R_drew)); exact Kd.R_mono (Kd.R_far (p := ⟨gb125, 1, none⟩) (Kd.R_far (p := ⟨gb125, 0, none⟩) (Kd.R_mono HO_3.out (fun k_ hk => (⟨hk, hk.2⟩ : _ ∧ k_ ≠ gb125))) (fun _ hk => hk.2) (.string kk)) (fun _ hk => hk.2) (.string vv)) (fun _ hk => hk.1.2))); (case aS => exact (below_size (by repeat (first | (with_reducible first | exact HB.out | apply below_alloc | apply pw_below_drewN | apply below_drew1 | refine below_set ?_ GE125.out) | exact HB.out)))); (case aL => have := hlen.out; omega); intro v127 w39 ho hb hg hat; have n1_ := Aside0.mk (hb); have n2_ := Aside0.mk (ho); clear BK125; clear HB; clear HO_3; have HB := n1_; have HO128 := n2_; clear n1_ n2_; clear ho hb hg hat))
        go_roundw
        case rel => exact ⟨i + 1, _, r2, by go_num, by omega, hlen2, HP2, HR2, ⟨Kd.R_mono HO128.out (fun _ hk => trivial)⟩, ⟨(by repeat (first | (with_reducible first | exact HB.out | apply below_alloc | apply pw_below_drewN | apply below_drew1 | refine below_set ?_ GE125.out) | exact HB.out))⟩⟩
        case measure => simp [intOf]; omega
      | false =>
        simp only [Bool.false_eq_true, if_false] at hr3
        have HR2 : Aside0 (acc ++ r2 = r) := ⟨by rw [← HR.out, ← hr3]⟩
        have hlen2 : Hid (acc.length ≤ i + 1) := by have := hlen.out; show _ ≤ _; omega
        clear hp2 hr2 hr3 ht HP hdr hp HR hcells hl2 hlen
        go_wp2_with (first | ((with_reducible refine gate_callee (f := 26) rfl ?_); refine goesL_ (some 24) rfl rfl Tryd.func26 (by kernel_rfl) rfl #[.string p] rfl (by (try simp only [List.map_toArray, List.map_cons, List.map_nil]); first | done | rfl) ?_; (with_reducible refine (lines_line.calls p kk vv false _ HL.out (Shp.below HS1.out (by repeat (first | (with_reducible first | exact HB.out | apply below_alloc | apply pw_below_drewN | apply below_drew1) | exact HB.out)))).mono ?_); rintro e w36 ⟨rfl, hb⟩; refine ⟨_, rfl, ?_⟩; have n0_ := Aside0.mk (Kd.R_below (by (with_reducible repeat (first | apply Kd.R_alloc | apply Kd.R_drewN | apply Kd.R_drew)); exact HO_3.out) hb); have n1_ := Aside0.mk (below_step (by repeat (first | (with_reducible first | exact HB.out | apply below_alloc | apply pw_below_drewN | apply below_drew1) | exact HB.out)) hb); clear HO_3; clear HB; have HO_3 := n0_; have HB := n1_; clear n0_ n1_; (try clear hb)) | ((with_reducible refine gate_dst (N := 6) rfl ?_); refine box_event ?hg (N := 6) ?hd (cs := #[.string (⟨#[]⟩ : ByteArray), .string (⟨#[]⟩ : ByteArray)]) (t := 35) ?hr ?_; (case hd => rfl); (case hg => rfl); (case hr => first | (go_simp; done) | (go_simp; rfl)); intro gb125 hg w37 hbox hb; have n0_ := Aside0.mk (Kd.R_below (Kd.R_elderB (by (with_reducible repeat (first | apply Kd.R_alloc | apply Kd.R_drewN | apply Kd.R_drew)); exact HO_3.out) gb125 (Nat.le_of_eq hg.symm)) hb); have n1_ := Aside0.mk (below_step (by repeat (first | (with_reducible first | exact HB.out | apply below_alloc | apply pw_below_drewN | apply below_drew1) | exact HB.out)) hb); have n2_ := Aside0.mk (hbox); have n4_ := Aside0.mk ((by rw [hg]; exact (below_size (by repeat (first | (with_reducible first | exact HB.out | apply below_alloc | apply pw_below_drewN | apply below_drew1) | exact HB.out))) : w1.heap.size ≤ gb125)); clear HO_3; clear HB; have HO_3 := n0_; have HB := n1_; have BK125 := n2_; have GE125 := n4_; clear n0_ n1_ n2_ n4_; clear hb hbox hg; have hcz38_0 : w37.cell? ⟨gb125, 0, none⟩ = some (.string (⟨#[]⟩ : ByteArray)) := (blk_cell BK125.out 0).trans rfl; have hcz38_1 : w37.cell? ⟨gb125, 1, none⟩ = some (.string (⟨#[]⟩ : ByteArray)) := (blk_cell BK125.out 1).trans rfl; have hfz38_0 := blk_frozen BK125.out 0; have hfz38_1 := blk_frozen BK125.out 1))
        go_roundw
        case rel => exact ⟨i + 1, _, r2, by go_num, by omega, hlen2, HP2, HR2, ⟨by (with_reducible repeat (first | apply Kd.R_alloc | apply Kd.R_drewN | apply Kd.R_drew)); exact Kd.R_mono (Kd.R_far (p := ⟨gb125, 1, none⟩) (Kd.R_far (p := ⟨gb125, 0, none⟩) HO_3.out (fun _ hk => hk.2) _) (fun _ hk => hk.2) _) (fun _ hk => trivial)⟩, ⟨(by repeat (first | (with_reducible first | exact HB.out | apply below_alloc | apply pw_below_drewN | apply below_drew1 | refine below_set ?_ GE125.out) | exact HB.out))⟩⟩
        case measure => simp [intOf]; omega
    · have hlt' : ((i : Int) < (P.length : Int)) = False := eq_false (by omega)
      obtain rfl : i = P.length := by omega
      have hr : acc = r := by
        have h1 := HP.out
        rw [List.drop_length, parseL] at h1
        obtain rfl := Option.some.inj h1
        have := HR.out
        simpa using this
      subst hr
      clear hcells
      go_wp2
      go_ret
      exact ⟨_, rfl, Kd.R_lower HO_3.out HBw.out.size, below_step HBw.out HB.out⟩
end Go.Proofs.YtdnaddignhjihaaDoor.Given
namespace Go.Proofs.YtdnaddignhjihaaDoor.Pure
open Go Go.RowKit Go.Proofs.YtdnaddignhjihaaDoor.QBase Go.Proofs.YtdnaddignhjihaaDoor.Given Go.Proofs.YtdnaddignhjihaaDoorW.PrintWords Go.Proofs.YtdnaddignhjihaaDoorW.PrintLast
set_option linter.unusedVariables false
set_option linter.unusedSimpArgs false
def nlB (c : UInt8) : Bool := c == 13 || c == 10
/-- The pieces of a text at its lines' ends. -/
def spl : List UInt8 → List UInt8 → List (List UInt8)
  | cur, [] => [cur]
  | cur, c :: t => if nlB c = true then cur :: spl [] t else spl (cur ++ [c]) t
theorem spl_no : ∀ (u cur r : List UInt8), (∀ c ∈ u, nlB c = false) → spl cur (u ++ r) = spl (cur ++ u) r
  | [], cur, r, _ => by simp
  | c :: u, cur, r, h => by
    rw [List.cons_append, spl, if_neg (by rw [h c (by simp)]; decide), spl_no u (cur ++ [c]) r (fun d hd => h d (by simp [hd]))]
    simp
theorem spl_len : ∀ (u cur : List UInt8), (spl cur u).length ≤ u.length + 1
  | [], cur => by simp [spl]
  | c :: u, cur => by
    rw [spl]
    split
    · have := spl_len u []; simp; omega
    · have := spl_len u (cur ++ [c]); simp; omega
theorem spl_in : ∀ (u cur : List UInt8), ∀ p ∈ spl cur u, p.length ≤ cur.length + u.length
  | [], cur, p, h => by simp [spl] at h; subst h; simp
  | c :: u, cur, p, h => by
    rw [spl] at h
    split at h
    · rcases List.mem_cons.mp h with rfl | h
      · simp
      · have := spl_in u [] p h; simp at this ⊢; omega
    · have := spl_in u (cur ++ [c]) p h; simp at this ⊢; omega

def mk (p : List UInt8) : ByteArray := ⟨p.toArray⟩
theorem ext_mk (s : ByteArray) (a b : Nat) : s.extract a b = mk ((s.data.toList.drop a).take (b - a)) := by
  have h := Lib.extract_data s a b
  unfold mk
  rw [← h]
theorem isNL_nlB (c : UInt8) : isNL c.toNat = nlB c := by
  unfold isNL nlB
  have h : ∀ x : UInt8, (c.toNat == x.toNat) = (c == x) := by
    intro x
    by_cases e : c = x
    · rw [e, beq_self_eq_true, beq_self_eq_true]
    · have : c.toNat ≠ x.toNat := fun h => e (UInt8.toNat_inj.mp h)
      rw [beq_eq_false_iff_ne.mpr this, beq_eq_false_iff_ne.mpr e]
  rw [← h 13, ← h 10]
  rfl
theorem take_add (l : List UInt8) (a p n : Nat) (h : a ≤ p) : (l.drop a).take (p + n - a) = (l.drop a).take (p - a) ++ (l.drop p).take n := by
  rw [show p + n - a = (p - a) + n by omega, List.take_add, List.drop_drop, show a + (p - a) = p by omega]

def keep (p : List UInt8) : Bool := !p.isEmpty
theorem spans (s : ByteArray) : ∀ (f pos : Nat) (st : Option Nat) (acc : List (Nat × Nat)) (cur : List UInt8), pos ≤ s.size → s.size - pos ≤ f →
    (st = none ∧ cur = [] ∨ ∃ a, st = some a ∧ a < pos ∧ (s.data.toList.drop a).take (pos - a) = cur) →
    (Lib.closeSpans s (Lib.spansFromP isNL s f pos st acc)).map (fun x => s.extract x.1 x.2) = acc.map (fun x => s.extract x.1 x.2) ++ ((spl cur (s.data.toList.drop pos)).filter keep).map mk := by
  intro f
  induction f with
  | zero =>
    intro pos st acc cur hp hf hst
    obtain rfl : pos = s.size := by omega
    rw [Lib.spansFromP_end isNL s 0 s.size st acc (by omega), show s.data.toList.drop s.size = [] from List.drop_eq_nil_of_le (by rw [← Lib.size_eq]; omega), spl]
    rcases hst with ⟨rfl, rfl⟩ | ⟨a, rfl, ha, rfl⟩
    · simp [Lib.closeSpans, keep]
    · have hk : keep ((s.data.toList.drop a).take (s.size - a)) = true := by
        have hl : ((s.data.toList.drop a).take (s.size - a)).length = s.size - a := by
          rw [List.length_take, List.length_drop, ← Lib.size_eq]; omega
        cases hq : (s.data.toList.drop a).take (s.size - a) with
        | nil => rw [hq] at hl; simp at hl; omega
        | cons _ _ => rfl
      simp only [Lib.closeSpans, List.map_append, List.map_cons, List.map_nil, List.filter_cons, hk, List.filter_nil, if_true, ext_mk]
  | succ f ih =>
    intro pos st acc cur hp hf hst
    by_cases hlt : pos < s.size
    · have hl : pos < s.data.toList.length := by rw [← Lib.size_eq]; exact hlt
      obtain ⟨n1, n2, n3⟩ := dec_in s pos hlt
      have hcur : st.isSome = true → keep cur = true := by
        intro h
        rcases hst with ⟨rfl, rfl⟩ | ⟨a, rfl, ha, rfl⟩
        · cases h
        · have hl2 : ((s.data.toList.drop a).take (pos - a)).length = pos - a := by
            rw [List.length_take, List.length_drop]; omega
          cases hq : (s.data.toList.drop a).take (pos - a) with
          | nil => rw [hq] at hl2; simp at hl2; omega
          | cons _ _ => rfl
      -- what is no line's end
      have go : isNL (Utf8.decode s pos).1 = false → (∀ c ∈ (s.data.toList.drop pos).take (Utf8.decode s pos).2, nlB c = false) →
          (Lib.closeSpans s (Lib.spansFromP isNL s (f + 1) pos st acc)).map (fun x => s.extract x.1 x.2) = acc.map (fun x => s.extract x.1 x.2) ++ ((spl cur (s.data.toList.drop pos)).filter keep).map mk := by
        intro hnl hall
        generalize hn : (Utf8.decode s pos).2 = n at *
        have hsp : spl cur (s.data.toList.drop pos) = spl (cur ++ (s.data.toList.drop pos).take n) (s.data.toList.drop (pos + n)) := by
          rw [← spl_no _ cur _ hall, ← List.drop_drop, List.take_append_drop]
        rw [hsp]
        rcases hst with ⟨rfl, rfl⟩ | ⟨a, rfl, ha, rfl⟩
        all_goals rw [Lib.spansFromP, if_pos hlt, hnl, if_neg (by decide), hn]
        · exact ih (pos + n) (some pos) acc _ (by omega) (by omega) (.inr ⟨pos, rfl, by omega, by rw [Nat.add_sub_cancel_left]; rfl⟩)
        · exact ih (pos + n) (some a) acc _ (by omega) (by omega) (.inr ⟨a, rfl, by omega, take_add _ _ _ _ (by omega)⟩)
      by_cases hb : 128 ≤ (s.get! pos).toNat
      · have hd := dec_big s pos hb
        refine go ?_ ?_
        · unfold isNL
          rw [show ((Utf8.decode s pos).1 == 13) = false from beq_eq_false_iff_ne.mpr (by omega), show ((Utf8.decode s pos).1 == 10) = false from beq_eq_false_iff_ne.mpr (by omega)]
          rfl
        · intro c hc
          obtain ⟨i, hi, rfl⟩ := List.getElem_of_mem hc
          rw [List.length_take] at hi
          have h1 := n3 hb i (by omega)
          rw [get_list s (pos + i) (by omega)] at h1
          rw [List.getElem_take, List.getElem_drop, ← isNL_nlB]
          unfold isNL
          rw [beq_eq_false_iff_ne.mpr (by omega : _ ≠ 13), beq_eq_false_iff_ne.mpr (by omega : _ ≠ 10)]
          rfl
      · have hg := get_list s pos hlt
        have hg2 : s[pos]'hlt = s.get! pos := by rw [hg]; rfl
        have e := decode_ascii s pos hlt (by rw [hg2]; omega)
        rw [hg2] at e
        obtain ⟨c, hc⟩ : ∃ c, c = s.get! pos := ⟨_, rfl⟩
        have hdc : s.data.toList.drop pos = c :: s.data.toList.drop (pos + 1) := by rw [List.drop_eq_getElem_cons hl, hc, hg]
        cases hn : nlB c with
        | false =>
          refine go (by rw [e, ← hc]; exact (isNL_nlB c).trans hn) ?_
          intro d hd
          rw [e, hdc] at hd
          simp at hd
          rw [hd]; exact hn
        | true =>
          have hnl : isNL (s.get! pos).toNat = true := by rw [← hc]; exact (isNL_nlB c).trans hn
          rw [hdc, spl, if_pos hn]
          rcases hst with ⟨rfl, rfl⟩ | ⟨a, rfl, ha, rfl⟩
          all_goals rw [Lib.spansFromP, if_pos hlt, e]; simp only [hnl, if_true]
          · have := ih (pos + 1) none acc [] (by omega) (by omega) (.inl ⟨rfl, rfl⟩)
            simp only [this, List.filter_cons, show keep [] = false from rfl, Bool.false_eq_true, if_false]
          · have := ih (pos + 1) none (acc ++ [(a, pos)]) [] (by omega) (by omega) (.inl ⟨rfl, rfl⟩)
            simp only [ext_mk] at this ⊢
            simp only [this, List.filter_cons, hcur rfl, if_true, List.map_cons, List.map_append, List.map_nil, List.append_assoc, List.cons_append, List.nil_append]
    · obtain rfl : pos = s.size := by omega
      have := ih s.size st acc cur hp (by omega) hst
      rw [Lib.spansFromP_end isNL s f s.size st acc (by omega)] at this
      rw [Lib.spansFromP_end isNL s (f + 1) s.size st acc (by omega)]
      exact this
theorem pieces (s : ByteArray) : Lib.goFieldsP isNL s = ((spl [] s.data.toList).filter keep).map mk := by
  have := spans s s.size 0 none [] [] (Nat.zero_le _) (by omega) (.inl ⟨rfl, rfl⟩)
  unfold Lib.goFieldsP Lib.spansOfP
  simpa using this

/-- What a line says, in bytes: its name, what it tells, whether it says something. -/
def sayK (p : List UInt8) : List UInt8 := lowL (Lib.trimS (Lib.cut (Lib.cut p [35]).1 [58]).1 [32, 9])
def sayV (p : List UInt8) : List UInt8 := Lib.trimS (Lib.cut (Lib.cut p [35]).1 [58]).2.1 [32, 9]
def sayB (p : List UInt8) : Bool := (Lib.cut (Lib.cut p [35]).1 [58]).2.2 && (sayK p != [])
def sayL (p : List UInt8) : Option S35 := if sayB p = true then some ⟨mk (sayK p), mk (sayV p)⟩ else none
def parseV (l : List UInt8) : List S35 := (spl [] l).filterMap sayL
theorem mk_size (p : List UInt8) : (mk p).size = p.length := by rw [Lib.size_eq]; rfl
theorem mk_toList (p : List UInt8) : (mk p).toList = p := by simp [mk]
theorem trimS_len (l cs : List UInt8) : (Lib.trimS l cs).length ≤ l.length := by
  unfold Lib.trimS Lib.trimLeftS Lib.trimRightS
  refine Nat.le_trans ((List.dropWhile_sublist _).length_le) ?_
  rw [List.length_reverse]
  refine Nat.le_trans ((List.dropWhile_sublist _).length_le) ?_
  rw [List.length_reverse]
  exact Nat.le_refl _
theorem line_f (p : List UInt8) (hp : p.length < 4294967281) : lines_line.f (mk p) = some (mk (sayK p), mk (sayV p), sayB p) := by
  have h1 := cut_room p [35]
  have h2 := cut_room (Lib.cut p [35]).1 [58]
  have hk := trimS_len (Lib.cut (Lib.cut p [35]).1 [58]).1 [32, 9]
  have hv := trimS_len (Lib.cut (Lib.cut p [35]).1 [58]).2.1 [32, 9]
  unfold lines_line.f strings_Cut.f strings_Trim.f lines_lower.f
  have e1 : (mk p).data.toList = p := rfl
  rw [e1, if_pos (by rw [mk_size]; exact hp)]
  simp only [Option.bind_some]
  rw [show (ByteArray.mk (Lib.cut p [35]).1.toArray) = mk (Lib.cut p [35]).1 from rfl, if_pos (by rw [mk_size]; omega)]
  simp only [Option.bind_some]
  have e2 : ∀ q : List UInt8, (ByteArray.mk q.toArray) = mk q := fun _ => rfl
  have e3 : ∀ q : List UInt8, (mk q).data.toList = q := fun _ => rfl
  have hset : (((⟨#[32, 9]⟩ : ByteArray).data.toList.all fun b => decide (b.toNat < 128)) = true) := rfl
  have hs9 : (⟨#[32, 9]⟩ : ByteArray).size < 1000 := by decide
  have hd : (⟨#[32, 9]⟩ : ByteArray).data.toList = [32, 9] := rfl
  have hd2 : (⟨#[35]⟩ : ByteArray).data.toList = [35] := rfl
  have hd3 : (⟨#[58]⟩ : ByteArray).data.toList = [58] := rfl
  simp only [e2, e3, hd, hd2, hd3]
  rw [if_pos ⟨by rw [mk_size]; omega, hs9, by rfl⟩]
  simp only [Option.bind_some, e3]
  rw [if_pos (by rw [mk_size]; omega)]
  simp only [Option.bind_some]
  rw [if_pos ⟨by rw [mk_size]; omega, hs9, by rfl⟩]
  simp only [Option.bind_some, mk_toList]
  unfold sayB sayK sayV
  cases (Lib.cut (Lib.cut p [35]).1 [58]).2.2 with
  | true => rw [if_pos rfl, Bool.true_and]
  | false => rw [if_neg (by decide), Bool.false_and]
theorem parse_l : ∀ ps : List (List UInt8), (∀ p ∈ ps, p.length < 4294967281) → parseL ((ps.filter keep).map mk) = some (ps.filterMap sayL)
  | [], _ => rfl
  | p :: ps, h => by
    have ih := parse_l ps (fun q hq => h q (by simp [hq]))
    cases p with
    | nil =>
      have : sayL [] = none := by decide
      rw [List.filterMap_cons, this]
      simpa [keep] using ih
    | cons c t =>
      rw [show ((c :: t) :: ps).filter keep = (c :: t) :: ps.filter keep from rfl, List.map_cons, parseL, line_f _ (h _ (by simp)), ih]
      simp only [Option.bind_some, Option.map_some, List.filterMap_cons]
      unfold sayL
      cases sayB (c :: t) <;> simp
theorem parse_f (a : ByteArray) (ha : a.size ≤ 140737488351232) : lines_Parse.f a = some (parseV (cut4096 a).data.toList) := by
  have hlen : (cut4096 a).data.toList.length ≤ 4096 := by
    have h1 : (a.extract 0 (min a.size 4096)).data.toList.length ≤ 4096 := by
      rw [Lib.extract_data, List.length_take]; omega
    show (Lib.trimPrefix (a.extract 0 (min a.size 4096)).data.toList [239, 187, 191]).length ≤ 4096
    unfold Lib.trimPrefix
    split
    · rw [List.length_drop]; omega
    · exact h1
  unfold lines_Parse.f
  rw [pieces]
  have h2 := spl_len (cut4096 a).data.toList []
  have h3 := List.length_filter_le keep (spl [] (cut4096 a).data.toList)
  rw [if_pos ⟨ha, by rw [List.length_map]; omega⟩, parse_l]
  · rfl
  · intro p hp
    have := spl_in _ _ p hp
    simp at this
    simp at hlen
    omega
end Go.Proofs.YtdnaddignhjihaaDoor.Pure
namespace Go.Proofs.YtdnaddignhjihaaDoor.Pure
open Go Go.RowKit Go.Proofs.YtdnaddignhjihaaDoor.QBase Go.Proofs.YtdnaddignhjihaaDoor.Given Go.Proofs.YtdnaddignhjihaaDoorW.PrintWords Go.Proofs.YtdnaddignhjihaaDoorW.PrintLast
set_option linter.unusedVariables false
set_option linter.unusedSimpArgs false
/-- No group has more than 64 rules. -/
def Few (gs : List S86) : Prop := ∀ x ∈ gs, x.f1.length ≤ 64
theorem last_few {gs : List S86} (h : Few gs) : (lastG gs).f1.length ≤ 64 := by
  unfold lastG
  rw [List.getD_eq_getElem?_getD]
  by_cases hl : gs.length - 1 < gs.length
  · rw [List.getElem?_eq_getElem hl]
    exact h _ (List.getElem_mem hl)
  · rw [List.getElem?_eq_none (by omega)]
    exact Nat.zero_le _
theorem set_few {gs : List S86} (h : Few gs) (x : S86) (hx : x.f1.length ≤ 64) : Few (setG gs x) := by
  intro y hy
  rcases mem_setG hy with rfl | hy
  · exact hx
  · exact h y hy
theorem step_few (gs : List S86) (op : Bool) (l : S35) (h : Few gs) : Few (Given.stepG (gs, op) l).1 := by
  unfold Given.stepG
  simp only
  split
  · unfold agentG
    have h2 : Few (if op = true then gs else gs ++ [z86]) := by
      split
      · exact h
      · intro x hx
        rcases List.mem_append.mp hx with hx | hx
        · exact h x hx
        · obtain rfl := List.mem_singleton.mp hx; exact Nat.zero_le _
    exact set_few h2 _ (last_few h2)
  · unfold addG
    split
    · exact h
    split
    · simp only
      split
      · rename_i hh
        refine set_few h _ ?_
        have := hh.2
        simp
        omega
      · exact h
    split
    · simp only
      split
      · exact set_few h _ (last_few h)
      · exact h
    · exact h
theorem step_inv {i : Nat} {st : List S86 × Bool} (h : InvG i st) (l : S35) : InvG (i + 1) (Given.stepG st l) := by
  unfold Given.stepG
  split
  · exact InvG.agent h l.f1
  · exact InvG.add h l
theorem fold_inv : ∀ (X : List S35) (st : List S86 × Bool) (i : Nat), InvG i st → Few st.1 → InvG (i + X.length) (X.foldl Given.stepG st) ∧ Few (X.foldl Given.stepG st).1
  | [], st, i, h1, h2 => ⟨h1, h2⟩
  | l :: X, st, i, h1, h2 => by
    have := fold_inv X (Given.stepG st l) (i + 1) (step_inv h1 l) (step_few st.1 st.2 l h2)
    rw [List.foldl_cons, List.length_cons, show i + (X.length + 1) = i + 1 + X.length by omega]
    exact this
def groupsV (X : List S35) : List S86 := (X.foldl Given.stepG ([], false)).1
theorem groups_small (X : List S35) (hX : X.length < 1000000) : (groupsV X).length < 1000000 ∧ ∀ x ∈ groupsV X, x.f0.length < 1000000 ∧ x.f1.length < 1000000 := by
  obtain ⟨h1, h2⟩ := fold_inv X ([], false) 0 ⟨Nat.le_refl _, by simp, by simp⟩ (fun x hx => by cases hx)
  have hl := h1.len
  rw [Nat.zero_add] at hl
  refine ⟨by unfold groupsV; omega, fun x hx => ?_⟩
  have h3 := h1.ags x hx
  have h4 := h2 x hx
  rw [Nat.zero_add] at h3
  exact ⟨by omega, by omega⟩
theorem groups_f (X : List S35) (hX : X.length < 1000000) (hv : ∀ l ∈ X, l.f1.size < 4294967281) : lines_Groups.f X = some (groupsV X) := by
  rw [lines_Groups.f, if_pos ⟨hX, hv⟩]
  rfl
theorem parse_small (l : List UInt8) (hl : l.length ≤ 4096) : (parseV l).length < 1000000 ∧ ∀ x ∈ parseV l, x.f1.size < 4294967281 := by
  unfold parseV
  have h1 := List.length_filterMap_le sayL (spl [] l)
  have h2 := spl_len l []
  refine ⟨by omega, fun x hx => ?_⟩
  obtain ⟨p, hp, he⟩ := List.mem_filterMap.mp hx
  have h3 := spl_in l [] p hp
  simp only [List.length_nil, Nat.zero_add] at h3
  unfold sayL at he
  split at he
  · obtain rfl := Option.some.inj he
    show (mk (sayV p)).size < _
    rw [mk_size]
    unfold sayV
    have a := trimS_len (Lib.cut (Lib.cut p [35]).1 [58]).2.1 [32, 9]
    have b := cut_room (Lib.cut p [35]).1 [58]
    have c := cut_room p [35]
    omega
  · cases he
theorem cut_4096 (a : ByteArray) : (cut4096 a).data.toList.length ≤ 4096 := by
  show (Lib.trimPrefix (a.extract 0 (min a.size 4096)).data.toList [239, 187, 191]).length ≤ 4096
  have h1 : (a.extract 0 (min a.size 4096)).data.toList.length ≤ 4096 := by
    rw [Lib.extract_data, List.length_take]; omega
  unfold Lib.trimPrefix
  split
  · rw [List.length_drop]; omega
  · exact h1
end Go.Proofs.YtdnaddignhjihaaDoor.Pure
namespace Go.Proofs.YtdnaddignhjihaaDoor.Given
open Go.RowKit Go.Proofs.YtdnaddignhjihaaDoor.QBase Go.Proofs.YtdnaddignhjihaaDoorW.PrintWords Go.Proofs.YtdnaddignhjihaaDoorW.PrintLast Go.Proofs.YtdnaddignhjihaaDoorW.PrintMore
set_option linter.unusedVariables false
/-- The names that a group has are short. -/
def Short (gs : List S86) : Prop := ∀ x ∈ gs, ∀ s ∈ x.f0, s.size ≤ 4294967281
theorem short_last {gs : List S86} (h : Short gs) : ∀ s ∈ (lastG gs).f0, s.size ≤ 4294967281 := by
  unfold lastG
  rw [List.getD_eq_getElem?_getD]
  by_cases hl : gs.length - 1 < gs.length
  · rw [List.getElem?_eq_getElem hl]
    exact h _ (List.getElem_mem hl)
  · rw [List.getElem?_eq_none (by omega)]
    intro s hs; cases hs
theorem short_set {gs : List S86} (h : Short gs) (x : S86) (hx : ∀ s ∈ x.f0, s.size ≤ 4294967281) : Short (setG gs x) := by
  intro y hy
  rcases mem_setG hy with rfl | hy
  · exact hx
  · exact h y hy
theorem short_step {gs : List S86} {op : Bool} (h : Short gs) (l : S35) (hl : l.f1.size < 4294967281) : Short (stepG (gs, op) l).1 := by
  unfold stepG
  split
  · show Short (agentG gs op l.f1)
    have h2 : Short (if op then gs else gs ++ [z86]) := by
      split
      · exact h
      · intro x hx
        rcases List.mem_append.mp hx with hx | hx
        · exact h x hx
        · obtain rfl := List.mem_singleton.mp hx
          intro s hs; cases hs
    refine short_set h2 _ ?_
    intro s hs
    rcases List.mem_append.mp hs with hs | hs
    · exact short_last h2 s hs
    · obtain rfl := List.mem_singleton.mp hs
      show (lowL l.f1.data.toList).toArray.size ≤ _
      have : (lowL l.f1.data.toList).length = l.f1.data.toList.length := by simp [lowL]
      have h3 : l.f1.data.toList.length = l.f1.size := by simp
      simp; omega
  · show Short (addG gs op l).1
    unfold addG
    split
    · exact h
    split
    · simp only
      split
      · exact short_set h _ (short_last h)
      · exact h
    split
    · simp only
      split
      · exact short_set h _ (short_last h)
      · exact h
    · exact h
theorem short_fold : ∀ (X : List S35) (st : List S86 × Bool), Short st.1 → (∀ l ∈ X, l.f1.size < 4294967281) → Short (X.foldl stepG st).1
  | [], st, h, _ => h
  | l :: X, st, h, hv => by
    rw [List.foldl_cons]
    exact short_fold X _ (short_step (gs := st.1) (op := st.2) h l (hv l (List.mem_cons_self ..))) (fun y hy => hv y (List.mem_cons_of_mem _ hy))
/-- The groups of a text. -/
def groupsOf (b : ByteArray) : List S86 := Pure.groupsV (Pure.parseV (cut4096 b).data.toList)
theorem groupsOf_ok (b : ByteArray) : ofOk (groupsOf b) := by
  obtain ⟨s1, s2⟩ := Pure.parse_small _ (Pure.cut_4096 b)
  have h1 := Pure.groups_small _ s1
  have h2 := short_fold (Pure.parseV (cut4096 b).data.toList) ([], false) (fun x hx => by cases hx) s2
  refine ⟨h1.1, fun g hg => ⟨?_, (h1.2 g hg).1, fun s hs => ?_⟩⟩
  · have := (h1.2 g hg).2; omega
  · have := h2 g hg s hs; omega
/-- What an answer says. -/
def readV (st : Int) (b ag : ByteArray) : Bool × Bool × List S30 × Int :=
  if 200 ≤ st ∧ st < 300 then (false, false, pickV (groupsOf b) ag)
  else if 400 ≤ st ∧ st < 500 ∧ st ≠ 429 then (true, false, [], 0) else (false, true, [], 0)

set_option maxHeartbeats 8000000 in
set_option maxRecDepth 1000000 in
theorem read_calls (st : Int) (b ag : ByteArray) (w : World) (hb : b.size ≤ 140737488351232) (ha : ag.size ≤ 140737488351232) (hS : Shp w) :
    Calls Tryd.prog 9 #[.int .i64 st, .string b, .string ag] w fun e w' => ∃ (A : Option Addr) (c : Nat) (rs : List S30),
      e = .returned (.agg #[.bool (readV st b ag).1, .bool (readV st b ag).2.1, .slice A rs.length c, .int .i64 (readV st b ag).2.2.2]) ∧ rs = (readV st b ag).2.2.1 ∧ Rls w.heap.size w' A c rs ∧ Below w.heap.size w w' := by
  have b1 := blk_new w (Obj.cells #[.bool false, .bool false, .slice none 0 0, .int .i64 0] 26)
  have HI : Aside0 (PkI w (w.alloc (Obj.cells #[.bool false, .bool false, .slice none 0 0, .int .i64 0] 26))) := ⟨⟨b1, below_alloc (Below.refl _ _) _⟩⟩
  have HS := Aside0.mk hS
  clear b1 hS
  by_cases h1 : 200 ≤ st ∧ st < 300
  · have hv : Aside0 (readV st b ag = (false, false, pickV (groupsOf b) ag)) := ⟨by rw [readV, if_pos h1]⟩
    have g1 : (200 ≤ st) = True := eq_true h1.1
    have g2 : (st < 300) = True := eq_true h1.2
    obtain ⟨s1, s2⟩ := Pure.parse_small _ (Pure.cut_4096 b)
    have hp := Aside0.mk (Pure.parse_f b hb)
    have hg := Aside0.mk (Pure.groups_f _ s1 s2)
    have hgo : Aside0 (Pure.groupsV (Pure.parseV (cut4096 b).data.toList) = groupsOf b) := ⟨rfl⟩
    have hok := Aside0.mk (groupsOf_ok b)
    clear h1 s1 s2
    go_enter Tryd.func9, Tryd.ntmps9
    go_wp2_with (first
      | (go_at_call 13; refine (lines_Parse.calls b _ _ hp.out (Shp.below HS.out HI.out.below)).mono ?_; rintro e w1 ⟨v1, rfl, hR1, b1⟩; have HI1 := Aside0.mk (HI.out.step b1); obtain ⟨A1, c1, hv1⟩ := Kd.R_slice hR1; subst hv1; have hC1 := Aside0.mk (Kd.R_reads' hR1).2; clear HI b1 hR1)
      | (go_at_call 17; refine (lines_Groups.calls A1 c1 _ _ _ hC1.out.2 hC1.out.1 hg.out (Shp.below HS.out HI1.out.below)).mono ?_; rintro e w2 ⟨v2, rfl, hR2, b2⟩; have HI2 := Aside0.mk (HI1.out.step b2); obtain ⟨A2, c2, hv2⟩ := Kd.S_slice hR2; subst hv2; have hC2 := Aside0.mk (Kd.S_reads' hR2).2; clear HI1 b2 hR2 hC1)
      | (go_at_call 16; refine (pick_calls A2 c2 (Pure.groupsV (Pure.parseV (cut4096 b).data.toList)) ag _ hC2.out.2 hok.out ha).mono ?_; rintro e w4 ⟨A, c, rs, rfl, hrs0, hR0, b3⟩; have HI4 := Aside0.mk (HI2.out.step b3); have hrs := Aside0.mk hrs0; have hR4 := Aside0.mk (hR0.lower HI2.out.below.size); have n0 := blk_cell HI4.out.res 0; have n1 := blk_cell HI4.out.res 1; have n2 := blk_cell HI4.out.res 2; have n3 := blk_cell HI4.out.res 3; have f0 := blk_frozen HI4.out.res 0; have f1 := blk_frozen HI4.out.res 1; have f2 := blk_frozen HI4.out.res 2; have f3 := blk_frozen HI4.out.res 3; simp only [List.getElem?_toArray, List.getElem?_cons_zero, List.getElem?_cons_succ] at n0 n1 n2 n3; clear HI2 b3 hR0 hrs0 hC2))
    have b0 := blk_put HI4.out.res 0 (.bool false) (cs' := #[.bool false, .bool false, .slice none 0 0, .int .i64 0]) rfl
    have b1 := blk_put b0 1 (.bool false) (cs' := #[.bool false, .bool false, .slice none 0 0, .int .i64 0]) rfl
    have b2 := blk_put b1 2 (.slice A rs.length c) (cs' := #[.bool false, .bool false, .slice A rs.length c, .int .i64 0]) rfl
    have b3 := blk_put b2 3 (.int .i64 (pickV (Pure.groupsV (Pure.parseV (cut4096 b).data.toList)) ag).2) (cs' := #[.bool false, .bool false, .slice A rs.length c, .int .i64 (pickV (Pure.groupsV (Pure.parseV (cut4096 b).data.toList)) ag).2]) rfl
    have hR5 := (((hR4.out.set HI4.out.res 0 (.bool false)).set b0 1 (.bool false)).set b1 2 (.slice A rs.length c)).set b2 3 (.int .i64 (pickV (Pure.groupsV (Pure.parseV (cut4096 b).data.toList)) ag).2)
    have hB := below_set (below_set (below_set (below_set HI4.out.below (Nat.le_refl _) (j := 0) (v := .bool false)) (Nat.le_refl _) (j := 1) (v := .bool false)) (Nat.le_refl _) (j := 2) (v := .slice A rs.length c)) (Nat.le_refl _) (j := 3) (v := .int .i64 (pickV (Pure.groupsV (Pure.parseV (cut4096 b).data.toList)) ag).2)
    refine bodyPost_ret (results_cell_row rfl _ _ w.heap.size 26 #[.bool false, .bool false, .slice A rs.length c, .int .i64 (pickV (Pure.groupsV (Pure.parseV (cut4096 b).data.toList)) ag).2] (0, 0) _ rfl b3 Tryd.underlying26 rfl (by kernel_rfl)) rfl ?_
    rw [hv.out]
    exact ⟨A, c, rs, rfl, hrs.out, hR5, hB⟩
  · clear HI HS
    by_cases h2 : 400 ≤ st ∧ st < 500 ∧ st ≠ 429
    · have hv : Aside0 (readV st b ag = (true, false, [], 0)) := ⟨by rw [readV, if_neg h1, if_pos h2]⟩
      have g1 : (200 ≤ st) = True := eq_true (by omega)
      have g2 : (st < 300) = False := eq_false (by omega)
      have g3 : (400 ≤ st) = True := eq_true (by omega)
      have g4 : (st < 500) = True := eq_true (by omega)
      have g5 : (st != 429) = true := by simp; omega
      clear h1 h2
      go_enter Tryd.func9, Tryd.ntmps9
      go_wp2
      refine bodyPost_ret (results_cell_row rfl _ _ w.heap.size 26 #[.bool true, .bool false, .slice none 0 0, .int .i64 0] (0, 0) _ rfl (blk_new _ _) Tryd.underlying26 rfl (by kernel_rfl)) rfl ?_
      rw [hv.out]
      exact ⟨none, 0, [], rfl, rfl, ⟨Nat.le_refl _, 0, Kd.R_nil _ _ _ _ _⟩, below_alloc (Below.refl _ _) _⟩
    · have hv : Aside0 (readV st b ag = (false, true, [], 0)) := ⟨by rw [readV, if_neg h1, if_neg h2]⟩
      have hcs : st < 200 ∨ (300 ≤ st ∧ st < 400) ∨ st = 429 ∨ 500 ≤ st := by omega
      clear h1 h2
      rcases hcs with h | h | h | h
      · have g0 : (200 ≤ st) = False := eq_false (by omega)
        have g1 : (400 ≤ st) = False := eq_false (by omega)
        clear h
        go_enter Tryd.func9, Tryd.ntmps9
        go_wp2
        refine bodyPost_ret (results_cell_row rfl _ _ w.heap.size 26 #[.bool false, .bool true, .slice none 0 0, .int .i64 0] (0, 0) _ rfl (blk_new _ _) Tryd.underlying26 rfl (by kernel_rfl)) rfl ?_
        rw [hv.out]
        exact ⟨none, 0, [], rfl, rfl, ⟨Nat.le_refl _, 0, Kd.R_nil _ _ _ _ _⟩, below_alloc (Below.refl _ _) _⟩
      · have g0 : (200 ≤ st) = True := eq_true (by omega)
        have g1 : (st < 300) = False := eq_false (by omega)
        have g2 : (400 ≤ st) = False := eq_false (by omega)
        clear h
        go_enter Tryd.func9, Tryd.ntmps9
        go_wp2
        refine bodyPost_ret (results_cell_row rfl _ _ w.heap.size 26 #[.bool false, .bool true, .slice none 0 0, .int .i64 0] (0, 0) _ rfl (blk_new _ _) Tryd.underlying26 rfl (by kernel_rfl)) rfl ?_
        rw [hv.out]
        exact ⟨none, 0, [], rfl, rfl, ⟨Nat.le_refl _, 0, Kd.R_nil _ _ _ _ _⟩, below_alloc (Below.refl _ _) _⟩
      · have g0 : (200 ≤ st) = True := eq_true (by omega)
        have g1 : (st < 300) = False := eq_false (by omega)
        have g2 : (400 ≤ st) = True := eq_true (by omega)
        have g3 : (st < 500) = True := eq_true (by omega)
        have g4 : (st != 429) = false := by simp; omega
        clear h
        go_enter Tryd.func9, Tryd.ntmps9
        go_wp2
        refine bodyPost_ret (results_cell_row rfl _ _ w.heap.size 26 #[.bool false, .bool true, .slice none 0 0, .int .i64 0] (0, 0) _ rfl (blk_new _ _) Tryd.underlying26 rfl (by kernel_rfl)) rfl ?_
        rw [hv.out]
        exact ⟨none, 0, [], rfl, rfl, ⟨Nat.le_refl _, 0, Kd.R_nil _ _ _ _ _⟩, below_alloc (Below.refl _ _) _⟩
      · have g0 : (200 ≤ st) = True := eq_true (by omega)
        have g1 : (st < 300) = False := eq_false (by omega)
        have g2 : (400 ≤ st) = True := eq_true (by omega)
        have g3 : (st < 500) = False := eq_false (by omega)
        clear h
        go_enter Tryd.func9, Tryd.ntmps9
        go_wp2
        refine bodyPost_ret (results_cell_row rfl _ _ w.heap.size 26 #[.bool false, .bool true, .slice none 0 0, .int .i64 0] (0, 0) _ rfl (blk_new _ _) Tryd.underlying26 rfl (by kernel_rfl)) rfl ?_
        rw [hv.out]
        exact ⟨none, 0, [], rfl, rfl, ⟨Nat.le_refl _, 0, Kd.R_nil _ _ _ _ _⟩, below_alloc (Below.refl _ _) _⟩
end Go.Proofs.YtdnaddignhjihaaDoor.Given
namespace Go.Proofs.YtdnaddignhjihaaDoor.Given
open Go.RowKit Go.Proofs.YtdnaddignhjihaaDoor.QBase Go.Proofs.YtdnaddignhjihaaDoor.QU Go.Proofs.YtdnaddignhjihaaDoorW.PrintWords Go.Proofs.YtdnaddignhjihaaDoorW.PrintLast Go.Proofs.YtdnaddignhjihaaDoorW.PrintMore
set_option linter.unusedVariables false
namespace Aw
theorem v1 : readV 200 (⟨#[117, 115, 101, 114, 45, 97, 103, 101, 110, 116, 58, 32, 42, 10, 100, 105, 115, 97, 108, 108, 111, 119, 58, 32, 47, 10, 117, 115, 101, 114, 45, 97, 103, 101, 110, 116, 58, 32, 66, 111, 116, 10, 99, 114, 97, 119, 108, 45, 100, 101, 108, 97, 121, 58, 32, 51, 10, 97, 108, 108, 111, 119, 58, 32, 47]⟩ : ByteArray) (⟨#[98, 111, 116, 47, 50, 46, 49]⟩ : ByteArray) = (false, false, [(⟨true, ⟨#[47]⟩⟩ : S30)], 3000) := by kernel_rfl
theorem c1 (w : World) (hS : Shp w) : Calls Tryd.prog 9 #[.int .i64 200, .string (⟨#[117, 115, 101, 114, 45, 97, 103, 101, 110, 116, 58, 32, 42, 10, 100, 105, 115, 97, 108, 108, 111, 119, 58, 32, 47, 10, 117, 115, 101, 114, 45, 97, 103, 101, 110, 116, 58, 32, 66, 111, 116, 10, 99, 114, 97, 119, 108, 45, 100, 101, 108, 97, 121, 58, 32, 51, 10, 97, 108, 108, 111, 119, 58, 32, 47]⟩ : ByteArray), .string (⟨#[98, 111, 116, 47, 50, 46, 49]⟩ : ByteArray)] w fun e w' => ∃ (A : Option Addr) (c : Nat) (rs : List S30), e = .returned (.agg #[.bool false, .bool false, .slice A rs.length c, .int .i64 3000]) ∧ rs = [(⟨true, ⟨#[47]⟩⟩ : S30)] ∧ Rls w.heap.size w' A c rs ∧ Below w.heap.size w w' := by
  have h := read_calls 200 (⟨#[117, 115, 101, 114, 45, 97, 103, 101, 110, 116, 58, 32, 42, 10, 100, 105, 115, 97, 108, 108, 111, 119, 58, 32, 47, 10, 117, 115, 101, 114, 45, 97, 103, 101, 110, 116, 58, 32, 66, 111, 116, 10, 99, 114, 97, 119, 108, 45, 100, 101, 108, 97, 121, 58, 32, 51, 10, 97, 108, 108, 111, 119, 58, 32, 47]⟩ : ByteArray) (⟨#[98, 111, 116, 47, 50, 46, 49]⟩ : ByteArray) w (by decide) (by decide) hS
  rw [v1] at h
  exact h
theorem v2 : readV 200 (⟨#[117, 115, 101, 114, 45, 97, 103, 101, 110, 116, 58, 32, 42, 10, 100, 105, 115, 97, 108, 108, 111, 119, 58, 32, 47, 97]⟩ : ByteArray) (⟨#[98]⟩ : ByteArray) = (false, false, [(⟨false, ⟨#[47, 97]⟩⟩ : S30)], 0) := by kernel_rfl
theorem c2 (w : World) (hS : Shp w) : Calls Tryd.prog 9 #[.int .i64 200, .string (⟨#[117, 115, 101, 114, 45, 97, 103, 101, 110, 116, 58, 32, 42, 10, 100, 105, 115, 97, 108, 108, 111, 119, 58, 32, 47, 97]⟩ : ByteArray), .string (⟨#[98]⟩ : ByteArray)] w fun e w' => ∃ (A : Option Addr) (c : Nat) (rs : List S30), e = .returned (.agg #[.bool false, .bool false, .slice A rs.length c, .int .i64 0]) ∧ rs = [(⟨false, ⟨#[47, 97]⟩⟩ : S30)] ∧ Rls w.heap.size w' A c rs ∧ Below w.heap.size w w' := by
  have h := read_calls 200 (⟨#[117, 115, 101, 114, 45, 97, 103, 101, 110, 116, 58, 32, 42, 10, 100, 105, 115, 97, 108, 108, 111, 119, 58, 32, 47, 97]⟩ : ByteArray) (⟨#[98]⟩ : ByteArray) w (by decide) (by decide) hS
  rw [v2] at h
  exact h
theorem v3 : readV 404 (⟨#[]⟩ : ByteArray) (⟨#[98]⟩ : ByteArray) = (true, false, [], 0) := by kernel_rfl
theorem c3 (w : World) (hS : Shp w) : Calls Tryd.prog 9 #[.int .i64 404, .string (⟨#[]⟩ : ByteArray), .string (⟨#[98]⟩ : ByteArray)] w fun e w' => ∃ (A : Option Addr) (c : Nat) (rs : List S30), e = .returned (.agg #[.bool true, .bool false, .slice A rs.length c, .int .i64 0]) ∧ rs = [] ∧ Rls w.heap.size w' A c rs ∧ Below w.heap.size w w' := by
  have h := read_calls 404 (⟨#[]⟩ : ByteArray) (⟨#[98]⟩ : ByteArray) w (by decide) (by decide) hS
  rw [v3] at h
  exact h
theorem v4 : readV 500 (⟨#[]⟩ : ByteArray) (⟨#[98]⟩ : ByteArray) = (false, true, [], 0) := by kernel_rfl
theorem c4 (w : World) (hS : Shp w) : Calls Tryd.prog 9 #[.int .i64 500, .string (⟨#[]⟩ : ByteArray), .string (⟨#[98]⟩ : ByteArray)] w fun e w' => ∃ (A : Option Addr) (c : Nat) (rs : List S30), e = .returned (.agg #[.bool false, .bool true, .slice A rs.length c, .int .i64 0]) ∧ rs = [] ∧ Rls w.heap.size w' A c rs ∧ Below w.heap.size w w' := by
  have h := read_calls 500 (⟨#[]⟩ : ByteArray) (⟨#[98]⟩ : ByteArray) w (by decide) (by decide) hS
  rw [v4] at h
  exact h
theorem x1 : robots_Allowed.f 1000 false false [(⟨true, ⟨#[47]⟩⟩ : S30)] 3000 (⟨#[47, 120]⟩ : ByteArray) = some true := by decide +kernel
theorem x2 : robots_Allowed.f 1000 false false [(⟨false, ⟨#[47, 97]⟩⟩ : S30)] 0 (⟨#[47, 97, 98]⟩ : ByteArray) = some false := by decide +kernel
theorem x2r (rs : List S30) (h : rs = [(⟨false, ⟨#[47, 97]⟩⟩ : S30)]) : robots_Allowed.f 1000 false false rs 0 (⟨#[47, 97, 98]⟩ : ByteArray) = some false := by rw [h]; exact x2
theorem x3 : decorumref09_Token.f 1000 (⟨#[65]⟩ : ByteArray) = some (⟨#[97]⟩ : ByteArray) := by decide +kernel
theorem x4 : tokV (⟨#[65, 98, 45, 99, 95, 49]⟩ : ByteArray).data.toList = [97, 98, 45, 99, 95] := by decide +kernel
theorem c5 (w : World) : Calls Tryd.prog 14 #[.string (⟨#[65, 98, 45, 99, 95, 49]⟩ : ByteArray)] w fun e w' => e = .returned (.string (⟨#[97, 98, 45, 99, 95]⟩ : ByteArray)) ∧ Below w.heap.size w w' := by
  have h := token_calls (⟨#[65, 98, 45, 99, 95, 49]⟩ : ByteArray) w (by decide)
  rw [x4] at h
  exact h
end Aw
theorem Rls.le {base : Nat} {w : World} {A : Option Addr} {c : Nat} {rs : List S30} (h : Rls base w A c rs) : rs.length ≤ c := h.1
set_option maxHeartbeats 8000000 in
set_option maxRecDepth 1000000 in
theorem awake_calls (w : World) (hS : Shp w) : Calls Tryd.prog 7 #[] w fun e w' => e = .returned (.bool true) ∧ Below w.heap.size w w' := by
  have hfd0 : ∀ (x y : Bool) (A : Option Addr) (n c : Nat) (d : Int) (w : World), (Instr.field 26 (.agg #[.bool x, .bool y, .slice A n c, .int .i64 d]) 0).run Tryd.prog w = .ok (.bool x) w := fun _ _ _ _ _ _ _ => by kernel_rfl
  have hfd1 : ∀ (x y : Bool) (A : Option Addr) (n c : Nat) (d : Int) (w : World), (Instr.field 26 (.agg #[.bool x, .bool y, .slice A n c, .int .i64 d]) 1).run Tryd.prog w = .ok (.bool y) w := fun _ _ _ _ _ _ _ => by kernel_rfl
  have HS := Aside0.mk hS
  have HB := Aside0.mk (Below.refl w.heap.size w)
  clear hS
  go_enter Tryd.func7, Tryd.ntmps7
  go_upto_region 2 with (first
    | (go_at_call 9; with_reducible refine (Aw.c1 _ (Shp.below HS.out HB.out)).mono ?_; rintro e w1 ⟨A, c, rs, rfl, hrs0, hR0, b1⟩; have HB1 := Aside0.mk (below_step HB.out b1); have hrs := Aside0.mk hrs0; have hR := Aside0.mk (hR0.lower HB.out.size); clear hrs0 hR0 b1)
    | ((with_reducible refine gate_dst (N := 1) rfl ?_); refine box_event ?hg (N := 1) ?hd (cs := #[.bool false, .bool false, .slice none 0 0, .int .i64 0]) (t := 26) ?hr ?_; (case hd => rfl); (case hg => rfl); (case hr => first | (go_simp; done) | (go_simp; rfl)); intro b5 hb5 w3 hbox hb; have hB3 := Aside0.mk (below_step HB1.out hb); have hR3 := Aside0.mk (hR.out.below hb); have Hbx := Aside0.mk hbox; have hf50 := blk_frozen hbox 0; have hf51 := blk_frozen hbox 1; have hf52 := blk_frozen hbox 2; have hf53 := blk_frozen hbox 3; have hz0 := blk_cell hbox 0; have hz1 := blk_cell hbox 1; have hz2 := blk_cell hbox 2; have hz3 := blk_cell hbox 3; simp only [List.getElem?_toArray, List.getElem?_cons_zero, List.getElem?_cons_succ] at hz0 hz1 hz2 hz3; have hlb := Aside0.mk (by rw [hb5]; exact HB1.out.size : w.heap.size ≤ b5); clear HB1 hR hbox hb hb5))
  have x0 := blk_put Hbx.out 0 (.bool false) (cs' := #[.bool false, .bool false, .slice none 0 0, .int .i64 0]) rfl
  have x1 := blk_put x0 1 (.bool false) (cs' := #[.bool false, .bool false, .slice none 0 0, .int .i64 0]) rfl
  have x2 := blk_put x1 2 (.slice A rs.length c) (cs' := #[.bool false, .bool false, .slice A rs.length c, .int .i64 0]) rfl
  have Hbx4 := Aside0.mk (blk_put x2 3 (.int .i64 3000) (cs' := #[.bool false, .bool false, .slice A rs.length c, .int .i64 3000]) rfl)
  have HR4 := Aside0.mk ((((hR3.out.set Hbx.out 0 (.bool false)).set x0 1 (.bool false)).set x1 2 (.slice A rs.length c)).set x2 3 (.int .i64 3000))
  have HB4 := Aside0.mk (below_set (below_set (below_set (below_set hB3.out hlb.out (j := 0) (v := .bool false)) hlb.out (j := 1) (v := .bool false)) hlb.out (j := 2) (v := .slice A rs.length c)) hlb.out (j := 3) (v := .int .i64 3000))
  clear x0 x1 x2 hf50 hf51 hf52 hf53 hz0 hz1 hz2 hz3 hB3 Hbx hR3 HB
  generalize ((((w3.setCell ⟨b5, 0, none⟩ (.bool false)).setCell ⟨b5, 1, none⟩ (.bool false)).setCell ⟨b5, 2, none⟩ (.slice A rs.length c)).setCell ⟨b5, 3, none⟩ (.int .i64 3000)) = w4 at *
  have k0 : w4.cell? ⟨b5, 0, none⟩ = some (.bool false) := blk_cell Hbx4.out 0
  have k1 : w4.cell? ⟨b5, 1, none⟩ = some (.bool false) := blk_cell Hbx4.out 1
  have k2 : w4.cell? ⟨b5, 2, none⟩ = some (.slice A rs.length c) := blk_cell Hbx4.out 2
  have k3 : w4.cell? ⟨b5, 3, none⟩ = some (.int .i64 3000) := blk_cell Hbx4.out 3
  have hx1 : Aside0 (robots_Allowed.f 1000 false false rs 3000 (⟨#[47, 120]⟩ : ByteArray) = some true) := ⟨by rw [hrs.out]; exact Aw.x1⟩
  have ha1 := Aside0.mk (robots_Allowed.calls 1000 false false A c rs 3000 (⟨#[47, 120]⟩ : ByteArray) true w4 HR4.out.C HR4.out.1 hx1.out (Shp.below HS.out HB4.out))
  go_wp2_with (first
    | (go_at_call 11; with_reducible refine ha1.out.mono ?_; rintro e w5 ⟨rfl, b5_⟩; have HB5 := Aside0.mk (below_step HB4.out b5_); have k5 := blk_cell (blk_below Hbx4.out b5_) 3; simp only [List.getElem?_toArray, List.getElem?_cons_zero, List.getElem?_cons_succ] at k5; clear ha1 hx1 k0 k1 k2 k3 Hbx4 HR4 HB4 b5_ hrs)
    | (go_at_call 9; (with_reducible refine (Aw.c2 _ (Shp.below HS.out HB5.out)).mono ?_; rintro e w6 ⟨A2, c2, rs2, rfl, hrs2, hR2, b6⟩; have HB6 := Aside0.mk (below_step HB5.out b6); have ha2 := Aside0.mk (robots_Allowed.calls 1000 false false A2 c2 rs2 0 (⟨#[47, 97, 98]⟩ : ByteArray) false w6 hR2.C hR2.le (Aw.x2r rs2 hrs2) (Shp.below HS.out HB6.out)); clear k5 HB5 b6 hrs2 hR2))
    | (go_at_call 11; with_reducible refine ha2.out.mono ?_; rintro e w7 ⟨rfl, b7⟩; have HB7 := Aside0.mk (below_step HB6.out b7); clear ha2 HB6 b7)
    | (go_at_call 9; with_reducible refine (Aw.c3 _ (Shp.below HS.out HB7.out)).mono ?_; rintro e w8 ⟨A3, c3, rs3, rfl, hrs3, hR3, b8⟩; have HB8 := Aside0.mk (below_step HB7.out b8); clear HB7 b8 hrs3 hR3)
    | (go_at_call 9; with_reducible refine (Aw.c4 _ (Shp.below HS.out HB8.out)).mono ?_; rintro e w9 ⟨A4, c4, rs4, rfl, hrs4, hR4, b9⟩; have HB9 := Aside0.mk (below_step HB8.out b9); clear HB8 b9 hrs4 hR4)
    | (go_at_call 14; with_reducible refine (Aw.c5 _).mono ?_; rintro e w10 ⟨rfl, b10⟩; have HB10 := Aside0.mk (below_step HB9.out b10); clear HB9 b10)
    | (go_at_call 15; with_reducible refine (decorumref09_Token.calls 1000 _ _ _ Aw.x3).mono ?_; rintro e w11 ⟨rfl, b11⟩; have HB11 := Aside0.mk (below_step HB10.out b11); clear HB10 b11))
  go_ret
  exact ⟨rfl, HB11.out⟩
end Go.Proofs.YtdnaddignhjihaaDoor.Given
namespace Go.Proofs.YtdnaddignhjihaaDoor.Given
open Go.RowKit Go.Proofs.YtdnaddignhjihaaDoorW.PrintWords
def decorumlaw11_awake.f : Option Bool := some true
theorem decorumlaw11_awake.calls (r : Bool) (w : World) (h : decorumlaw11_awake.f = some r) (hS_ : Shp w) : Calls Tryd.prog 7 #[] w fun e w' => e = .returned (.bool r) ∧ Below w.heap.size w w' := by
  obtain rfl := Option.some.inj h
  exact awake_calls w hS_
end Go.Proofs.YtdnaddignhjihaaDoor.Given
namespace Go.Proofs.YtdnaddignhjihaaDoor.QM2
open Go.Proofs.YtdnaddignhjihaaDoor.Given Go.Proofs.YtdnaddignhjihaaDoor.QBase Go.Proofs.YtdnaddignhjihaaDoor.QU
open Go.RowKit Go.Proofs.YtdnaddignhjihaaDoorW.PrintWords Go.Proofs.YtdnaddignhjihaaDoorW.PrintLast Go.Proofs.YtdnaddignhjihaaDoorW.PrintMore
attribute [local go_sem] max2_int min2_int max_two min_two max_three min_three max_four min_four   -- for this text's walks alone
set_option linter.unusedVariables false
set_option linter.unusedSimpArgs false
def errW : Option Int → Value
  | none => .nilIface
  | some c => .iface 0 (.int .i64 c)
theorem errW_none : errW none = .nilIface := rfl
theorem errW_some (c : Int) : errW (some c) = .iface 0 (.int .i64 c) := rfl

-- the values' own types

end Go.Proofs.YtdnaddignhjihaaDoor.QM2
namespace Go.Proofs.YtdnaddignhjihaaDoor.QM2
open Go.Proofs.YtdnaddignhjihaaDoor.Given Go.Proofs.YtdnaddignhjihaaDoor.QBase Go.Proofs.YtdnaddignhjihaaDoor.QU
open Go.RowKit Go.Proofs.YtdnaddignhjihaaDoorW.PrintWords Go.Proofs.YtdnaddignhjihaaDoorW.PrintLast Go.Proofs.YtdnaddignhjihaaDoorW.PrintMore
attribute [local go_sem] max2_int min2_int max_two min_two max_three min_three max_four min_four   -- for this text's walks alone
set_option linter.unusedVariables false
set_option linter.unusedSimpArgs false
mutual
def decorumlaw11_RobotsMay.j0 : Nat → ByteArray → Bool → Bool → Bool → List (S30) → Int → Option (Bool)
  | 0, _, _, _, _, _, _ => none
  | k + 1, x1, x14, x102000, x102001, x102002, x102003 => if x14 = true then ((decorumlaw11_awake.f).bind fun t102 => (some t102)) else (decorumlaw11_RobotsMay.l0 k x1 0 x102000 x102001 x102002 x102003)
def decorumlaw11_RobotsMay.l0 : Nat → ByteArray → Int → Bool → Bool → List (S30) → Int → Option (Bool)
  | 0, _, _, _, _, _, _ => none
  | k + 1, x1, x5, x102000, x102001, x102002, x102003 => if x5 < (x102002.length : Int) then (if 0 ≤ x5 then (if (((rd_T30 x102002 x5).f1).size : Int) > 100 then ((decorumlaw11_awake.f).bind fun t104 => (some t104)) else (decorumlaw11_RobotsMay.l0 k x1 (wrap64 (x5 + 1)) x102000 x102001 x102002 x102003)) else (none)) else ((decorumlaw11_awake.f).bind fun t105 => (if t105 = true then ((robots_Allowed.f k x102000 x102001 x102002 x102003 x1).bind fun t106 => ((decorumref09_May.f k x102000 x102001 x102002 x102003 x1).bind fun t107 => (if (t106 == t107) = true then ((robots_Allowed.f k x102000 x102001 x102002 x102003 (⟨#[47, 114, 111, 98, 111, 116, 115, 46, 116, 120, 116]⟩ : ByteArray)).bind fun t108 => (some t108)) else (some false)))) else (some false)))
end
def decorumlaw11_RobotsMay.f (k : Nat) (a0_0 : Bool) (a0_1 : Bool) (l0_2 : List (S30)) (a0_3 : Int) (a1 : ByteArray) : Option (Bool) := if (l0_2.length : Int) > 20 then (decorumlaw11_RobotsMay.j0 k a1 true a0_0 a0_1 l0_2 a0_3) else (decorumlaw11_RobotsMay.j0 k a1 (decide ((a1.size : Int) > 100)) a0_0 a0_1 l0_2 a0_3)
def decorumlaw11_RobotsMay.T8 : Bool × List (List Nat × List Nat) := (true, [([], []), ([0, 0], [0]), ([1], [1]), ([1], [1]), ([2, 3, 1, 1], [1, 2, 3]), ([1], [1]), ([1], [1]), ([5, 6, 4, 1], [1, 5, 6]), ([4, 7, 1], [1, 4, 7]), ([1, 8], [1, 8]), ([9, 7], [9]), ([10], [10]), ([11, 10, 10], [10, 11]), ([10, 12], [10, 12]), ([13, 12, 0, 1, 2, 3, 4, 5, 6, 7, 8, 9, 10, 11, 12, 13], [13])])
def decorumlaw11_RobotsMay.B8 : List Nat := [0, 1, 3, 3, 15, 3, 3, 127, 255, 511, 1023, 2047, 4095, 8191, 16383]
theorem decorumlaw11_RobotsMay.tab8 : rtab .any (opsOf Tryd.f4 8) = decorumlaw11_RobotsMay.T8 := by kernel_rfl
theorem decorumlaw11_RobotsMay.bits8 : waitsOk decorumlaw11_RobotsMay.T8.2 decorumlaw11_RobotsMay.B8 = true := by kernel_rfl
set_option maxHeartbeats 8000000 in
set_option maxRecDepth 100000 in
theorem decorumlaw11_RobotsMay.calls (k : Nat) (a0_0 : Bool) (a0_1 : Bool) (A0_2 : Option Addr) (c0_2 : Nat) (l0_2 : List (S30)) (a0_3 : Int) (a1 : ByteArray) (r : Bool) (w : World) (hr0_2 : Kd.C k30 w A0_2 l0_2.length l0_2) (hc0_2 : l0_2.length ≤ c0_2) (hr_ : r = true) (h : decorumlaw11_RobotsMay.f k a0_0 a0_1 l0_2 a0_3 a1 = some r) (hS_ : Shp w) :
    Calls Tryd.prog 4 #[.agg #[.bool a0_0, .bool a0_1, .slice A0_2 l0_2.length c0_2, .int .i64 a0_3], .string a1] w fun e w' => e = .returned (.bool r) ∧ Below w.heap.size w w' := by
  have HR_ := Aside0.mk (hr_)
  have hu26 := Tryd.underlying26
  have HR0_2 := Aside0.mk hr0_2
  have HC0_2 := Aside0.mk hc0_2
  clear hr0_2 hc0_2
  have HB := Aside0.mk (Below.refl w.heap.size w)
  have HS_ := Aside0.mk hS_
  clear hS_
  have H : (if (l0_2.length : Int) > 20 then (decorumlaw11_RobotsMay.j0 k a1 true a0_0 a0_1 l0_2 a0_3) else (decorumlaw11_RobotsMay.j0 k a1 (decide ((a1.size : Int) > 100)) a0_0 a0_1 l0_2 a0_3)) = some r := h
  clear h
  have HC3 := Aside0.mk H
  clear H
  go_enter Tryd.func4, Tryd.ntmps4
  go_upto_region 1 with (first | ((with_reducible refine gate_dst (N := 2) rfl ?_); (try (refine gate_guard (by rfl) ?_; dsimp only)); refine box_event ?hg (N := 2) ?hd (cs := #[.bool a0_0, .bool a0_1, .slice A0_2 l0_2.length c0_2, .int .i64 a0_3]) (t := 26) ?hr ?_; (case hd => rfl); (case hg => rfl); (case hr => first | (go_simp; done) | (go_simp; rfl)); intro gb101 hg w4 hbox hb; have n0_ := Aside0.mk (below_step (by repeat (first | (with_reducible first | exact HB.out | apply below_alloc | apply pw_below_drewN | apply below_drew1) | exact HB.out)) hb); have n1_ := Aside0.mk (hbox); have n2_ := Aside0.mk ((by rw [hg]; exact (below_size (by repeat (first | (with_reducible first | exact HB.out | apply below_alloc | apply pw_below_drewN | apply below_drew1) | exact HB.out))) : w.heap.size ≤ gb101)); have n3_ := Aside0.mk ((by rw [hg]; exact (below_size (by repeat (first | (with_reducible first | exact HB.out | apply below_alloc | apply pw_below_drewN | apply below_drew1) | exact HB.out))) : w.heap.size ≤ gb101)); clear HB; have HB := n0_; have BK101 := n1_; have GW101 := n2_; have GE101 := n3_; clear n0_ n1_ n2_ n3_; clear hb hbox hg))
  (try simp only [Act.put, List.setIfInBounds_toArray, List.set_cons_zero, List.set_cons_succ])
  go_cut [14] (fun v14 wc => ∃ (kq : Nat) (x14_2 : Bool), v14 = .bool x14_2 ∧ Aside0 (decorumlaw11_RobotsMay.j0 kq a1 x14_2 a0_0 a0_1 l0_2 a0_3 = some r) ∧ Aside0 (kq ≤ k) ∧ Aside0 (wc.heap[gb101]? = some (.cells #[.bool a0_0, .bool a0_1, (.slice A0_2 l0_2.length c0_2), .int .i64 a0_3] 26 (0, 0))) ∧ Aside0 (Below w.heap.size w wc))
  case first =>
    have H := HC3.out
    clear HC3
    by_cases c5 : (l0_2.length : Int) > 20
    · rw [if_pos c5] at H
      have c5b0 : decide (20 < (l0_2.length : Int)) = true := decide_eq_true c5
      have c5b1 : decide (20 < l0_2.length) = true := decide_eq_true (by omega)
      clear c5
      (first | rw [c5b0] | (simp only [i64_w, i32_w]; rw [c5b0]) | skip)
      have H' := Aside0.mk H
      clear H
      have hcz6_0 : w4.cell? ⟨gb101, 0, none⟩ = some (.bool a0_0) := (blk_cell BK101.out 0).trans rfl
      have hcz6_1 : w4.cell? ⟨gb101, 1, none⟩ = some (.bool a0_1) := (blk_cell BK101.out 1).trans rfl
      have hcz6_2 : w4.cell? ⟨gb101, 2, none⟩ = some (.slice A0_2 l0_2.length c0_2) := (blk_cell BK101.out 2).trans rfl
      have hcz6_3 : w4.cell? ⟨gb101, 3, none⟩ = some (.int .i64 a0_3) := (blk_cell BK101.out 3).trans rfl
      have hfz6_0 := blk_frozen BK101.out 0
      have hfz6_1 := blk_frozen BK101.out 1
      have hfz6_2 := blk_frozen BK101.out 2
      have hfz6_3 := blk_frozen BK101.out 3
      go_wp2
      go_meet
      case rel => exact ⟨_, (true), (by first | rfl | (simp; done) | (simp [*]; done)), H', ⟨by first | omega | exact Nat.le_refl _⟩, ⟨by (with_reducible repeat (first | refine blk_drewN ?_ _ | refine blk_drew ?_ | refine blk_alloc ?_ _)); exact BK101.out⟩, ⟨by repeat (first | (with_reducible first | exact HB.out | apply below_alloc | apply pw_below_drewN | apply below_drew1 | refine below_set ?_ GE101.out) | exact HB.out)⟩⟩
    · rw [if_neg c5] at H
      have c5b0 : decide (20 < (l0_2.length : Int)) = false := decide_eq_false c5
      have c5b1 : decide (20 < l0_2.length) = false := decide_eq_false (by omega)
      clear c5
      (first | rw [c5b0] | (simp only [i64_w, i32_w]; rw [c5b0]) | skip)
      have H' := Aside0.mk H
      clear H
      have hcz7_0 : w4.cell? ⟨gb101, 0, none⟩ = some (.bool a0_0) := (blk_cell BK101.out 0).trans rfl
      have hcz7_1 : w4.cell? ⟨gb101, 1, none⟩ = some (.bool a0_1) := (blk_cell BK101.out 1).trans rfl
      have hcz7_2 : w4.cell? ⟨gb101, 2, none⟩ = some (.slice A0_2 l0_2.length c0_2) := (blk_cell BK101.out 2).trans rfl
      have hcz7_3 : w4.cell? ⟨gb101, 3, none⟩ = some (.int .i64 a0_3) := (blk_cell BK101.out 3).trans rfl
      have hfz7_0 := blk_frozen BK101.out 0
      have hfz7_1 := blk_frozen BK101.out 1
      have hfz7_2 := blk_frozen BK101.out 2
      have hfz7_3 := blk_frozen BK101.out 3
      go_wp2
      go_meet
      case rel => exact ⟨_, (decide ((a1.size : Int) > 100)), (by first | rfl | (simp; done) | (simp [*]; done)), H', ⟨by first | omega | exact Nat.le_refl _⟩, ⟨by (with_reducible repeat (first | refine blk_drewN ?_ _ | refine blk_drew ?_ | refine blk_alloc ?_ _)); exact BK101.out⟩, ⟨by repeat (first | (with_reducible first | exact HB.out | apply below_alloc | apply pw_below_drewN | apply below_drew1 | refine below_set ?_ GE101.out) | exact HB.out)⟩⟩
  case rest =>
    clear HC3
    try clear p2
    try clear c4
    try clear c5
    try clear c5b0
    try clear c5b1
    try clear hcz6_0
    try clear hcz6_1
    try clear hcz6_2
    try clear hcz6_3
    try clear hcz7_0
    try clear hcz7_1
    try clear hcz7_2
    try clear hcz7_3
    try clear hfz6_0
    try clear hfz6_1
    try clear hfz6_2
    try clear hfz6_3
    try clear hfz7_0
    try clear hfz7_1
    try clear hfz7_2
    try clear hfz7_3
    obtain ⟨kq, x14_2, rfl, HA, HJ2, BK101, HB⟩ := hcut
    cases kq with
    | zero => exact absurd HA.out (by simp [decorumlaw11_RobotsMay.j0])
    | succ kj2 =>
      have H := HA.out
      clear HA
      simp only [decorumlaw11_RobotsMay.j0] at H
      by_cases c8 : x14_2 = true
      · subst c8
        have H1 : ((decorumlaw11_awake.f).bind fun t102 => (some t102)) = some r := by rw [if_pos rfl] at H; exact H
        clear H
        have H := H1
        clear H1
        replace H := Option.bind_eq_some_iff.mp H
        obtain ⟨t102, A90, H⟩ := H
        replace H : (some t102) = some r := H
        have A9 := Aside0.mk A90
        clear A90
        obtain rfl := Option.some.inj H
        go_wp2_with (first | ((with_reducible refine gate_callee (f := 7) rfl ?_); refine goesL_ (some 15) rfl rfl Tryd.func7 (by kernel_rfl) rfl #[] rfl (by (try simp only [List.map_toArray, List.map_cons, List.map_nil]); first | done | rfl | (simp only [List.length_drop, List.length_take]; rfl)) ?_; (with_reducible refine (decorumlaw11_awake.calls  t102 _ A9.out (Shp.below HS_.out (by repeat (first | (with_reducible first | exact HB.out | apply below_alloc | apply pw_below_drewN | apply below_drew1 | refine below_set ?_ GE101.out) | exact HB.out)))).mono ?_); rintro e w10 ⟨rfl, hb⟩; refine ⟨_, rfl, ?_⟩; have n0_ := Aside0.mk (blk_below (g := gb101) (o := .cells #[.bool a0_0, .bool a0_1, .slice A0_2 l0_2.length c0_2, .int .i64 a0_3] 26 (0, 0)) (by (with_reducible repeat (first | refine blk_drewN ?_ _ | refine blk_drew ?_ | refine blk_alloc ?_ _)); exact BK101.out) hb); have n1_ := Aside0.mk (below_step (by repeat (first | (with_reducible first | exact HB.out | apply below_alloc | apply pw_below_drewN | apply below_drew1 | refine below_set ?_ GE101.out) | exact HB.out)) hb); clear BK101; clear HB; have BK101 := n0_; have HB := n1_; clear n0_ n1_; (try clear hb); (try clear hb2); (try clear hk); (try clear hi)))
        go_ret
        exact ⟨by first | rfl | (simp [errW_none, errW_some] <;> rfl) | (simp [*, errW_none, errW_some] <;> rfl) | (simp [wrap64]; done) | (simp [errW_none, errW_some] <;> exact empty_bne _), by repeat (first | (with_reducible first | exact HB.out | apply below_alloc | apply pw_below_drewN | apply below_drew1 | refine below_set ?_ GE101.out) | exact HB.out)⟩
      · replace c8 := Bool.eq_false_iff.mpr c8
        subst c8
        have H1 : (decorumlaw11_RobotsMay.l0 kj2 a1 0 a0_0 a0_1 l0_2 a0_3) = some r := by rw [if_neg (show ¬ (false = true) by decide)] at H; exact H
        clear H
        have H := H1
        clear H1
        have H' := Aside0.mk H
        clear H
        go_wp2
        go_loopg [5] kj2 (fun kq v5 w' => ∃ (x5_2 : Int), v5 = .int .i64 x5_2 ∧ Aside0 (decorumlaw11_RobotsMay.l0 kq a1 x5_2 a0_0 a0_1 l0_2 a0_3 = some r) ∧ Aside0 (kq ≤ kj2) ∧ Aside0 (w'.heap[gb101]? = some (.cells #[.bool a0_0, .bool a0_1, (.slice A0_2 l0_2.length c0_2), .int .i64 a0_3] 26 (0, 0))) ∧ Aside0 (Below w.heap.size w w'))
        case atStart => exact ⟨(0), (by first | rfl | (simp; done) | (simp [*]; done)), H', ⟨Nat.le_refl _⟩, ⟨by (with_reducible repeat (first | refine blk_drewN ?_ _ | refine blk_drew ?_ | refine blk_alloc ?_ _)); exact BK101.out⟩, ⟨by repeat (first | (with_reducible first | exact HB.out | apply below_alloc | apply pw_below_drewN | apply below_drew1 | refine below_set ?_ GE101.out) | exact HB.out)⟩⟩
        case round =>
          clear H'
          try clear p2
          try clear c4
          try clear c5
          try clear c5b0
          try clear c5b1
          try clear p6
          try clear c7
          try clear c8
          try clear hcz6_0
          try clear hcz6_1
          try clear hcz6_2
          try clear hcz6_3
          try clear hcz7_0
          try clear hcz7_1
          try clear hcz7_2
          try clear hcz7_3
          try clear hfz6_0
          try clear hfz6_1
          try clear hfz6_2
          try clear hfz6_3
          try clear hfz7_0
          try clear hfz7_1
          try clear hfz7_2
          try clear hfz7_3
          try clear p2
          obtain ⟨x5_2, rfl, HA, HK2, BK101, HB⟩ := hrel
          cases gk with
          | zero => exact absurd HA.out (by simp [decorumlaw11_RobotsMay.l0])
          | succ k2 =>
            have H := HA.out
            clear HA
            simp only [decorumlaw11_RobotsMay.l0] at H
            by_cases c11 : x5_2 < (l0_2.length : Int)
            · rw [if_pos c11] at H
              have c11b0 : decide (x5_2 < (l0_2.length : Int)) = true := decide_eq_true c11
              clear c11
              by_cases c12 : 0 ≤ x5_2
              · rw [if_pos c12] at H
                have c12b0 : decide (0 ≤ x5_2) = true := decide_eq_true c12
                clear c12
                by_cases c13 : (((rd_T30 l0_2 x5_2).f1).size : Int) > 100
                · rw [if_pos c13] at H
                  have c13b0 : decide (100 < (((rd_T30 l0_2 x5_2).f1).size : Int)) = true := decide_eq_true c13
                  have c13b1 : decide (100 < ((rd_T30 l0_2 x5_2).f1).size) = true := decide_eq_true (by omega)
                  clear c13
                  replace H := Option.bind_eq_some_iff.mp H
                  obtain ⟨t104, A140, H⟩ := H
                  replace H : (some t104) = some r := H
                  have A14 := Aside0.mk A140
                  clear A140
                  obtain rfl := Option.some.inj H
                  have hcz15_0 : wr.cell? ⟨gb101, 0, none⟩ = some (.bool a0_0) := (blk_cell BK101.out 0).trans rfl
                  have hcz15_1 : wr.cell? ⟨gb101, 1, none⟩ = some (.bool a0_1) := (blk_cell BK101.out 1).trans rfl
                  have hcz15_2 : wr.cell? ⟨gb101, 2, none⟩ = some (.slice A0_2 l0_2.length c0_2) := (blk_cell BK101.out 2).trans rfl
                  have hcz15_3 : wr.cell? ⟨gb101, 3, none⟩ = some (.int .i64 a0_3) := (blk_cell BK101.out 3).trans rfl
                  have hfz15_0 := blk_frozen BK101.out 0
                  have hfz15_1 := blk_frozen BK101.out 1
                  have hfz15_2 := blk_frozen BK101.out 2
                  have hfz15_3 := blk_frozen BK101.out 3
                  have p103 : 0 ≤ (x5_2 : Int) := of_decide_eq_true (by first | (with_reducible assumption) | assumption)
                  have q103 : x5_2 < (l0_2.length : Int) := of_decide_eq_true (by first | (with_reducible assumption) | assumption)
                  obtain ⟨ad103, e103, hx103_0, hx103_1⟩ := at_T30 HR0_2.out x5_2 p103 q103
                  cases e103
                  replace hx103_0 := (HB.out.cell (World.block_lt_of_cell? w _ hx103_0)).trans hx103_0
                  replace hx103_1 := (HB.out.cell (World.block_lt_of_cell? w _ hx103_1)).trans hx103_1
                  replace p103 := eq_true p103
                  replace q103 := eq_true q103
                  go_wp2_with (first | ((with_reducible refine gate_callee (f := 7) rfl ?_); refine goesL_ (some 31) rfl rfl Tryd.func7 (by kernel_rfl) rfl #[] rfl (by (try simp only [List.map_toArray, List.map_cons, List.map_nil]); first | done | rfl | (simp only [List.length_drop, List.length_take]; rfl)) ?_; (with_reducible refine (decorumlaw11_awake.calls  t104 _ A14.out (Shp.below HS_.out (by repeat (first | (with_reducible first | exact HB.out | apply below_alloc | apply pw_below_drewN | apply below_drew1 | refine below_set ?_ GE101.out) | exact HB.out)))).mono ?_); rintro e w16 ⟨rfl, hb⟩; refine ⟨_, rfl, ?_⟩; have n0_ := Aside0.mk (blk_below (g := gb101) (o := .cells #[.bool a0_0, .bool a0_1, .slice (some ad103) l0_2.length c0_2, .int .i64 a0_3] 26 (0, 0)) (by (with_reducible repeat (first | refine blk_drewN ?_ _ | refine blk_drew ?_ | refine blk_alloc ?_ _)); exact BK101.out) hb); have n1_ := Aside0.mk (below_step (by repeat (first | (with_reducible first | exact HB.out | apply below_alloc | apply pw_below_drewN | apply below_drew1 | refine below_set ?_ GE101.out) | exact HB.out)) hb); clear BK101; clear HB; have BK101 := n0_; have HB := n1_; clear n0_ n1_; (try clear hb); (try clear hb2); (try clear hk); (try clear hi)))
                  go_ret
                  exact ⟨by first | rfl | (simp [errW_none, errW_some] <;> rfl) | (simp [*, errW_none, errW_some] <;> rfl) | (simp [wrap64]; done) | (simp [errW_none, errW_some] <;> exact empty_bne _), by repeat (first | (with_reducible first | exact HB.out | apply below_alloc | apply pw_below_drewN | apply below_drew1 | refine below_set ?_ GE101.out) | exact HB.out)⟩
                · rw [if_neg c13] at H
                  have c13b0 : decide (100 < (((rd_T30 l0_2 x5_2).f1).size : Int)) = false := decide_eq_false c13
                  have c13b1 : decide (100 < ((rd_T30 l0_2 x5_2).f1).size) = false := decide_eq_false (by omega)
                  clear c13
                  have H' := Aside0.mk H
                  clear H
                  have hcz17_0 : wr.cell? ⟨gb101, 0, none⟩ = some (.bool a0_0) := (blk_cell BK101.out 0).trans rfl
                  have hcz17_1 : wr.cell? ⟨gb101, 1, none⟩ = some (.bool a0_1) := (blk_cell BK101.out 1).trans rfl
                  have hcz17_2 : wr.cell? ⟨gb101, 2, none⟩ = some (.slice A0_2 l0_2.length c0_2) := (blk_cell BK101.out 2).trans rfl
                  have hcz17_3 : wr.cell? ⟨gb101, 3, none⟩ = some (.int .i64 a0_3) := (blk_cell BK101.out 3).trans rfl
                  have hfz17_0 := blk_frozen BK101.out 0
                  have hfz17_1 := blk_frozen BK101.out 1
                  have hfz17_2 := blk_frozen BK101.out 2
                  have hfz17_3 := blk_frozen BK101.out 3
                  have p103 : 0 ≤ (x5_2 : Int) := of_decide_eq_true (by first | (with_reducible assumption) | assumption)
                  have q103 : x5_2 < (l0_2.length : Int) := of_decide_eq_true (by first | (with_reducible assumption) | assumption)
                  obtain ⟨ad103, e103, hx103_0, hx103_1⟩ := at_T30 HR0_2.out x5_2 p103 q103
                  cases e103
                  replace hx103_0 := (HB.out.cell (World.block_lt_of_cell? w _ hx103_0)).trans hx103_0
                  replace hx103_1 := (HB.out.cell (World.block_lt_of_cell? w _ hx103_1)).trans hx103_1
                  replace p103 := eq_true p103
                  replace q103 := eq_true q103
                  go_wp2
                  go_roundg k2
                  case measure => have := HJ2.out; have := HK2.out; omega
                  case rel => exact ⟨(wrap64 (x5_2 + 1)), (by first | rfl | (simp; done) | (simp [*]; done)), H', ⟨by have := HJ2.out; have := HK2.out; omega⟩, ⟨by (with_reducible repeat (first | refine blk_drewN ?_ _ | refine blk_drew ?_ | refine blk_alloc ?_ _)); exact BK101.out⟩, ⟨by repeat (first | (with_reducible first | exact HB.out | apply below_alloc | apply pw_below_drewN | apply below_drew1 | refine below_set ?_ GE101.out) | exact HB.out)⟩⟩
              · rw [if_neg c12] at H
                exact absurd H (by simp)
            · rw [if_neg c11] at H
              have c11b0 : decide (x5_2 < (l0_2.length : Int)) = false := decide_eq_false c11
              clear c11
              replace H := Option.bind_eq_some_iff.mp H
              obtain ⟨t105, A180, H⟩ := H
              replace H : (if t105 = true then ((robots_Allowed.f k2 a0_0 a0_1 l0_2 a0_3 a1).bind fun t106 => ((decorumref09_May.f k2 a0_0 a0_1 l0_2 a0_3 a1).bind fun t107 => (if (t106 == t107) = true then ((robots_Allowed.f k2 a0_0 a0_1 l0_2 a0_3 (⟨#[47, 114, 111, 98, 111, 116, 115, 46, 116, 120, 116]⟩ : ByteArray)).bind fun t108 => (some t108)) else (some false)))) else (some false)) = some r := H
              have A18 := Aside0.mk A180
              clear A180
              by_cases c19 : t105 = true
              · subst c19
                have H1 : ((robots_Allowed.f k2 a0_0 a0_1 l0_2 a0_3 a1).bind fun t106 => ((decorumref09_May.f k2 a0_0 a0_1 l0_2 a0_3 a1).bind fun t107 => (if (t106 == t107) = true then ((robots_Allowed.f k2 a0_0 a0_1 l0_2 a0_3 (⟨#[47, 114, 111, 98, 111, 116, 115, 46, 116, 120, 116]⟩ : ByteArray)).bind fun t108 => (some t108)) else (some false)))) = some r := by rw [if_pos rfl] at H; exact H
                clear H
                have H := H1
                clear H1
                replace H := Option.bind_eq_some_iff.mp H
                obtain ⟨t106, A200, H⟩ := H
                replace H : ((decorumref09_May.f k2 a0_0 a0_1 l0_2 a0_3 a1).bind fun t107 => (if (t106 == t107) = true then ((robots_Allowed.f k2 a0_0 a0_1 l0_2 a0_3 (⟨#[47, 114, 111, 98, 111, 116, 115, 46, 116, 120, 116]⟩ : ByteArray)).bind fun t108 => (some t108)) else (some false))) = some r := H
                have A20 := Aside0.mk A200
                clear A200
                replace H := Option.bind_eq_some_iff.mp H
                obtain ⟨t107, A210, H⟩ := H
                replace H : (if (t106 == t107) = true then ((robots_Allowed.f k2 a0_0 a0_1 l0_2 a0_3 (⟨#[47, 114, 111, 98, 111, 116, 115, 46, 116, 120, 116]⟩ : ByteArray)).bind fun t108 => (some t108)) else (some false)) = some r := H
                have A21 := Aside0.mk A210
                clear A210
                by_cases c22 : (t106 == t107) = true
                · rw [if_pos c22] at H
                  have c22b0 : (t106 == t107) = true := c22
                  (try (have c22b1 : decide (t106 = t107) = true := by simpa using c22))
                  (try (have c22b2 : (t106 == t107) = true := by simpa using c22))
                  clear c22
                  replace H := Option.bind_eq_some_iff.mp H
                  obtain ⟨t108, A230, H⟩ := H
                  replace H : (some t108) = some r := H
                  have A23 := Aside0.mk A230
                  clear A230
                  obtain rfl := Option.some.inj H
                  have hcz24_0 : wr.cell? ⟨gb101, 0, none⟩ = some (.bool a0_0) := (blk_cell BK101.out 0).trans rfl
                  have hcz24_1 : wr.cell? ⟨gb101, 1, none⟩ = some (.bool a0_1) := (blk_cell BK101.out 1).trans rfl
                  have hcz24_2 : wr.cell? ⟨gb101, 2, none⟩ = some (.slice A0_2 l0_2.length c0_2) := (blk_cell BK101.out 2).trans rfl
                  have hcz24_3 : wr.cell? ⟨gb101, 3, none⟩ = some (.int .i64 a0_3) := (blk_cell BK101.out 3).trans rfl
                  have hfz24_0 := blk_frozen BK101.out 0
                  have hfz24_1 := blk_frozen BK101.out 1
                  have hfz24_2 := blk_frozen BK101.out 2
                  have hfz24_3 := blk_frozen BK101.out 3
                  try go_wp2
                  have n0_ := Aside0.mk (blk_drew BK101.out)
                  have n1_ := Aside0.mk (below_drew1 HB.out)
                  clear BK101
                  clear HB
                  have BK101 := n0_
                  have HB := n1_
                  clear n0_ n1_
                  refine start_ (n := 15) (S := fun w' => w'.cell? ⟨gb101, 0, none⟩ = some (.bool a0_0) ∧ w'.cell? ⟨gb101, 1, none⟩ = some (.bool a0_1) ∧ w'.cell? ⟨gb101, 2, none⟩ = some (.slice A0_2 l0_2.length c0_2) ∧ w'.cell? ⟨gb101, 3, none⟩ = some (.int .i64 a0_3)) (ds := []) #[false, false, false, false, false, false, false, false, false, false, false, false, false, false, false] (by kernel_rfl) rfl rfl ⟨(blk_cell BK101.out 0).trans rfl, (blk_cell BK101.out 1).trans rfl, (blk_cell BK101.out 2).trans rfl, (blk_cell BK101.out 3).trans rfl⟩ (fun hHeld => ?_); refine with_tabW decorumlaw11_RobotsMay.tab8 decorumlaw11_RobotsMay.bits8 (fun HT_ HW_ => ?_)
                  generalize wr.drew = w25 at BK101 HB hHeld ⊢
                  refine one_ (i := 0) (N := some 32) #[true, false, false, false, false, false, false, false, false, false, false, false, false, false, false] rfl rfl (one_of HT_.out (by kernel_rfl)) (by decide) (fun K hK => ?_)
                  refine goes_ Tryd.func7 (by kernel_rfl) rfl #[] (by rfl) rfl rfl (by (try simp only [List.map_toArray, List.map_cons, List.map_nil]); first | done | rfl | (simp only [List.length_drop, List.length_take]; rfl)) ?_
                  with_reducible refine (decorumlaw11_awake.calls  true _ A18.out (Shp.below HS_.out (by repeat (first | (with_reducible first | exact HB.out | apply below_alloc | apply pw_below_drewN | apply below_drew1 | refine below_set ?_ GE101.out) | exact HB.out)))).mono ?_
                  rintro e w26 ⟨rfl, hb⟩
                  refine ⟨_, rfl, ?_⟩
                  have n0_ := Aside0.mk (blk_below (g := gb101) (o := .cells #[.bool a0_0, .bool a0_1, .slice A0_2 l0_2.length c0_2, .int .i64 a0_3] 26 (0, 0)) (by (with_reducible repeat (first | refine blk_drewN ?_ _ | refine blk_drew ?_ | refine blk_alloc ?_ _)); exact BK101.out) hb)
                  have n1_ := Aside0.mk (below_step (by repeat (first | (with_reducible first | exact HB.out | apply below_alloc | apply pw_below_drewN | apply below_drew1 | refine below_set ?_ GE101.out) | exact HB.out)) hb)
                  clear BK101
                  clear HB
                  have BK101 := n0_
                  have HB := n1_
                  clear n0_ n1_
                  (try clear hb)
                  (try clear hb2)
                  (try clear hk)
                  (try clear hi)
                  refine hK.out _ _ ⟨(blk_cell BK101.out 0).trans rfl, (blk_cell BK101.out 1).trans rfl, (blk_cell BK101.out 2).trans rfl, (blk_cell BK101.out 3).trans rfl⟩ (fun hHeld => ?_)
                  clear hK K
                  refine norm_ (a' := ?_) ?_ ?_
                  rotate_left
                  · show Act.put _ (some 32) _ = _
                    simp only [Act.put, List.setIfInBounds_toArray, List.set_cons_zero, List.set_cons_succ, i64_w, i32_w]
                    rfl
                  refine pure_ (i := 1) (N := some 33) (v := ?_) (a' := ?_) #[true, true, false, false, false, false, false, false, false, false, false, false, false, false, false] rfl rfl (any_of HT_.out (by kernel_rfl)) (fun _ _ _ h => h) (Or.inl ⟨by rfl, ?_⟩) ?_ ?_
                  rotate_left
                  · intro w'
                    go_simp
                    with_reducible rfl
                  rotate_left
                  · simp only [Act.put, List.setIfInBounds_toArray, List.set_cons_zero, List.set_cons_succ, i64_w, i32_w]
                    rfl
                  refine pure_ (i := 3) (N := some 35) (v := ?_) (a' := ?_) #[true, true, false, true, false, false, false, false, false, false, false, false, false, false, false] rfl rfl (any_of HT_.out (by kernel_rfl)) (fun _ _ _ h => h) (Or.inl ⟨by rfl, ?_⟩) ?_ ?_
                  rotate_left
                  · intro w'
                    go_simp
                    with_reducible rfl
                  rotate_left
                  · simp only [Act.put, List.setIfInBounds_toArray, List.set_cons_zero, List.set_cons_succ, i64_w, i32_w]
                    rfl
                  refine pure_ (i := 6) (N := some 38) (v := ?_) (a' := ?_) #[true, true, false, true, false, false, true, false, false, false, false, false, false, false, false] rfl rfl (any_of HT_.out (by kernel_rfl)) (fun _ _ _ h => h) (Or.inl ⟨by rfl, ?_⟩) ?_ ?_
                  rotate_left
                  · intro w'
                    go_simp
                    with_reducible rfl
                  rotate_left
                  · simp only [Act.put, List.setIfInBounds_toArray, List.set_cons_zero, List.set_cons_succ, i64_w, i32_w]
                    rfl
                  refine take_ (i := 2) (N := some 34) (v := ?_) (a' := ?_) #[true, true, true, true, false, false, true, false, false, false, false, false, false, false, false] rfl rfl (take_ofW HT_.out HW_.out (by kernel_rfl)) (fun _ _ _ h => h) (Or.inl ⟨by rfl, ?_⟩) hHeld ?_ ?_
                  rotate_left
                  · rintro w' ⟨s0, s1, s2, s3⟩
                    go_simp
                    with_reducible rfl
                  rotate_left
                  · simp only [Act.put, List.setIfInBounds_toArray, List.set_cons_zero, List.set_cons_succ, i64_w, i32_w]
                    rfl
                  refine take_ (i := 5) (N := some 37) (v := ?_) (a' := ?_) #[true, true, true, true, false, true, true, false, false, false, false, false, false, false, false] rfl rfl (take_ofW HT_.out HW_.out (by kernel_rfl)) (fun _ _ _ h => h) (Or.inl ⟨by rfl, ?_⟩) hHeld ?_ ?_
                  rotate_left
                  · rintro w' ⟨s0, s1, s2, s3⟩
                    go_simp
                    with_reducible rfl
                  rotate_left
                  · simp only [Act.put, List.setIfInBounds_toArray, List.set_cons_zero, List.set_cons_succ, i64_w, i32_w]
                    rfl
                  refine one_ (i := 4) (N := some 36) #[true, true, true, true, true, true, true, false, false, false, false, false, false, false, false] rfl rfl (one_of HT_.out (by kernel_rfl)) (by decide) (fun K hK => ?_)
                  refine goes_ Tryd.func11 (by kernel_rfl) rfl #[.agg #[.bool a0_0, .bool a0_1, .slice A0_2 l0_2.length c0_2, .int .i64 a0_3], .string a1] (by rfl) rfl rfl (by (try simp only [List.map_toArray, List.map_cons, List.map_nil]); first | done | rfl | (simp only [List.length_drop, List.length_take]; rfl)) ?_
                  with_reducible refine (robots_Allowed.calls k2 a0_0 a0_1 _ _ l0_2 a0_3 a1 t106 _ ?side1 ?side2 A20.out (Shp.below HS_.out (by repeat (first | (with_reducible first | exact HB.out | apply below_alloc | apply pw_below_drewN | apply below_drew1 | refine below_set ?_ GE101.out) | exact HB.out)))).mono ?_
                  (case side1 => repeat (first | exact (Kd.C_below HR0_2.out HB.out) | (with_reducible refine Kd.C_alloc ?_ _) | (with_reducible refine Kd.C_drewN ?_ _) | (with_reducible refine Kd.C_drew ?_)))
                  (case side2 => exact HC0_2.out)
                  rintro e w27 ⟨rfl, hb⟩
                  refine ⟨_, rfl, ?_⟩
                  have n0_ := Aside0.mk (blk_below (g := gb101) (o := .cells #[.bool a0_0, .bool a0_1, .slice A0_2 l0_2.length c0_2, .int .i64 a0_3] 26 (0, 0)) (by (with_reducible repeat (first | refine blk_drewN ?_ _ | refine blk_drew ?_ | refine blk_alloc ?_ _)); exact BK101.out) hb)
                  have n1_ := Aside0.mk (below_step (by repeat (first | (with_reducible first | exact HB.out | apply below_alloc | apply pw_below_drewN | apply below_drew1 | refine below_set ?_ GE101.out) | exact HB.out)) hb)
                  clear BK101
                  clear HB
                  have BK101 := n0_
                  have HB := n1_
                  clear n0_ n1_
                  (try clear hb)
                  (try clear hb2)
                  (try clear hk)
                  (try clear hi)
                  refine hK.out _ _ ⟨(blk_cell BK101.out 0).trans rfl, (blk_cell BK101.out 1).trans rfl, (blk_cell BK101.out 2).trans rfl, (blk_cell BK101.out 3).trans rfl⟩ (fun hHeld => ?_)
                  clear hK K
                  refine norm_ (a' := ?_) ?_ ?_
                  rotate_left
                  · show Act.put _ (some 36) _ = _
                    simp only [Act.put, List.setIfInBounds_toArray, List.set_cons_zero, List.set_cons_succ, i64_w, i32_w]
                    rfl
                  refine one_ (i := 7) (N := some 39) #[true, true, true, true, true, true, true, true, false, false, false, false, false, false, false] rfl rfl (one_of HT_.out (by kernel_rfl)) (by decide) (fun K hK => ?_)
                  refine goes_ Tryd.func12 (by kernel_rfl) rfl #[.agg #[.bool a0_0, .bool a0_1, .slice A0_2 l0_2.length c0_2, .int .i64 a0_3], .string a1] (by rfl) rfl rfl (by (try simp only [List.map_toArray, List.map_cons, List.map_nil]); first | done | rfl | (simp only [List.length_drop, List.length_take]; rfl)) ?_
                  with_reducible refine (decorumref09_May.calls k2 a0_0 a0_1 _ _ l0_2 a0_3 a1 t107 _ ?side1 ?side2 A21.out).mono ?_
                  (case side1 => repeat (first | exact (Kd.C_below HR0_2.out HB.out) | (with_reducible refine Kd.C_alloc ?_ _) | (with_reducible refine Kd.C_drewN ?_ _) | (with_reducible refine Kd.C_drew ?_)))
                  (case side2 => exact HC0_2.out)
                  rintro e w28 ⟨rfl, hb⟩
                  refine ⟨_, rfl, ?_⟩
                  have n0_ := Aside0.mk (blk_below (g := gb101) (o := .cells #[.bool a0_0, .bool a0_1, .slice A0_2 l0_2.length c0_2, .int .i64 a0_3] 26 (0, 0)) (by (with_reducible repeat (first | refine blk_drewN ?_ _ | refine blk_drew ?_ | refine blk_alloc ?_ _)); exact BK101.out) hb)
                  have n1_ := Aside0.mk (below_step (by repeat (first | (with_reducible first | exact HB.out | apply below_alloc | apply pw_below_drewN | apply below_drew1 | refine below_set ?_ GE101.out) | exact HB.out)) hb)
                  clear BK101
                  clear HB
                  have BK101 := n0_
                  have HB := n1_
                  clear n0_ n1_
                  (try clear hb)
                  (try clear hb2)
                  (try clear hk)
                  (try clear hi)
                  refine hK.out _ _ ⟨(blk_cell BK101.out 0).trans rfl, (blk_cell BK101.out 1).trans rfl, (blk_cell BK101.out 2).trans rfl, (blk_cell BK101.out 3).trans rfl⟩ (fun hHeld => ?_)
                  clear hK K
                  refine norm_ (a' := ?_) ?_ ?_
                  rotate_left
                  · show Act.put _ (some 39) _ = _
                    simp only [Act.put, List.setIfInBounds_toArray, List.set_cons_zero, List.set_cons_succ, i64_w, i32_w]
                    rfl
                  refine pure_ (i := 8) (N := some 40) (v := ?_) (a' := ?_) #[true, true, true, true, true, true, true, true, true, false, false, false, false, false, false] rfl rfl (any_of HT_.out (by kernel_rfl)) (fun _ _ _ h => h) (Or.inl ⟨by rfl, ?_⟩) ?_ ?_
                  rotate_left
                  · intro w'
                    go_simp
                    with_reducible rfl
                  rotate_left
                  · simp only [Act.put, List.setIfInBounds_toArray, List.set_cons_zero, List.set_cons_succ, i64_w, i32_w]
                    rfl
                  refine pure_ (i := 9) (N := some 41) (v := ?_) (a' := ?_) #[true, true, true, true, true, true, true, true, true, true, false, false, false, false, false] rfl rfl (any_of HT_.out (by kernel_rfl)) (fun _ _ _ h => h) (Or.inl ⟨by rfl, ?_⟩) ?_ ?_
                  rotate_left
                  · intro w'
                    go_simp
                    with_reducible rfl
                  rotate_left
                  · simp only [Act.put, List.setIfInBounds_toArray, List.set_cons_zero, List.set_cons_succ, i64_w, i32_w]
                    rfl
                  refine pure_ (i := 10) (N := some 42) (v := ?_) (a' := ?_) #[true, true, true, true, true, true, true, true, true, true, true, false, false, false, false] rfl rfl (any_of HT_.out (by kernel_rfl)) (fun _ _ _ h => h) (Or.inl ⟨by rfl, ?_⟩) ?_ ?_
                  rotate_left
                  · intro w'
                    go_simp
                    with_reducible rfl
                  rotate_left
                  · simp only [Act.put, List.setIfInBounds_toArray, List.set_cons_zero, List.set_cons_succ, i64_w, i32_w]
                    rfl
                  refine take_ (i := 11) (N := some 43) (v := ?_) (a' := ?_) #[true, true, true, true, true, true, true, true, true, true, true, true, false, false, false] rfl rfl (take_ofW HT_.out HW_.out (by kernel_rfl)) (fun _ _ _ h => h) (Or.inl ⟨by rfl, ?_⟩) hHeld ?_ ?_
                  rotate_left
                  · rintro w' ⟨s0, s1, s2, s3⟩
                    go_simp
                    with_reducible rfl
                  rotate_left
                  · simp only [Act.put, List.setIfInBounds_toArray, List.set_cons_zero, List.set_cons_succ, i64_w, i32_w]
                    rfl
                  refine one_ (i := 12) (N := some 44) #[true, true, true, true, true, true, true, true, true, true, true, true, true, false, false] rfl rfl (one_of HT_.out (by kernel_rfl)) (by decide) (fun K hK => ?_)
                  refine goes_ Tryd.func11 (by kernel_rfl) rfl #[.agg #[.bool a0_0, .bool a0_1, .slice A0_2 l0_2.length c0_2, .int .i64 a0_3], .string (⟨#[47, 114, 111, 98, 111, 116, 115, 46, 116, 120, 116]⟩ : ByteArray)] (by rfl) rfl rfl (by (try simp only [List.map_toArray, List.map_cons, List.map_nil]); first | done | rfl | (simp only [List.length_drop, List.length_take]; rfl)) ?_
                  with_reducible refine (robots_Allowed.calls k2 a0_0 a0_1 _ _ l0_2 a0_3 (⟨#[47, 114, 111, 98, 111, 116, 115, 46, 116, 120, 116]⟩ : ByteArray) t108 _ ?side1 ?side2 A23.out (Shp.below HS_.out (by repeat (first | (with_reducible first | exact HB.out | apply below_alloc | apply pw_below_drewN | apply below_drew1 | refine below_set ?_ GE101.out) | exact HB.out)))).mono ?_
                  (case side1 => repeat (first | exact (Kd.C_below HR0_2.out HB.out) | (with_reducible refine Kd.C_alloc ?_ _) | (with_reducible refine Kd.C_drewN ?_ _) | (with_reducible refine Kd.C_drew ?_)))
                  (case side2 => exact HC0_2.out)
                  rintro e w29 ⟨rfl, hb⟩
                  refine ⟨_, rfl, ?_⟩
                  have n0_ := Aside0.mk (blk_below (g := gb101) (o := .cells #[.bool a0_0, .bool a0_1, .slice A0_2 l0_2.length c0_2, .int .i64 a0_3] 26 (0, 0)) (by (with_reducible repeat (first | refine blk_drewN ?_ _ | refine blk_drew ?_ | refine blk_alloc ?_ _)); exact BK101.out) hb)
                  have n1_ := Aside0.mk (below_step (by repeat (first | (with_reducible first | exact HB.out | apply below_alloc | apply pw_below_drewN | apply below_drew1 | refine below_set ?_ GE101.out) | exact HB.out)) hb)
                  clear BK101
                  clear HB
                  have BK101 := n0_
                  have HB := n1_
                  clear n0_ n1_
                  (try clear hb)
                  (try clear hb2)
                  (try clear hk)
                  (try clear hi)
                  refine hK.out _ _ ⟨(blk_cell BK101.out 0).trans rfl, (blk_cell BK101.out 1).trans rfl, (blk_cell BK101.out 2).trans rfl, (blk_cell BK101.out 3).trans rfl⟩ (fun hHeld => ?_)
                  clear hK K
                  refine norm_ (a' := ?_) ?_ ?_
                  rotate_left
                  · show Act.put _ (some 44) _ = _
                    simp only [Act.put, List.setIfInBounds_toArray, List.set_cons_zero, List.set_cons_succ, i64_w, i32_w]
                    rfl
                  refine pure_ (i := 13) (N := some 45) (v := ?_) (a' := ?_) #[true, true, true, true, true, true, true, true, true, true, true, true, true, true, false] rfl rfl (any_of HT_.out (by kernel_rfl)) (fun _ _ _ h => h) (Or.inl ⟨by rfl, ?_⟩) ?_ ?_
                  rotate_left
                  · intro w'
                    go_simp
                    with_reducible rfl
                  rotate_left
                  · simp only [Act.put, List.setIfInBounds_toArray, List.set_cons_zero, List.set_cons_succ, i64_w, i32_w]
                    rfl
                  refine pure_ (i := 14) (N := some 4) (v := ?_) (a' := ?_) #[true, true, true, true, true, true, true, true, true, true, true, true, true, true, true] rfl rfl (any_of HT_.out (by kernel_rfl)) (fun _ _ _ h => h) (Or.inl ⟨by rfl, ?_⟩) ?_ ?_
                  rotate_left
                  · intro w'
                    go_simp
                    with_reducible rfl
                  rotate_left
                  · simp only [Act.put, List.setIfInBounds_toArray, List.set_cons_zero, List.set_cons_succ, i64_w, i32_w]
                    rfl
                  refine done_ (done_of HT_.out (by kernel_rfl)) ?_
                  try go_wp2
                  go_ret
                  exact ⟨by first | rfl | (simp [errW_none, errW_some] <;> rfl) | (simp [*, errW_none, errW_some] <;> rfl) | (simp [wrap64]; done) | (simp [errW_none, errW_some] <;> exact empty_bne _), by repeat (first | (with_reducible first | exact HB.out | apply below_alloc | apply pw_below_drewN | apply below_drew1 | refine below_set ?_ GE101.out) | exact HB.out)⟩
                · rw [if_neg c22] at H
                  have c22b0 : (t106 == t107) = false := by simpa using c22
                  (try (have c22b1 : decide (t106 = t107) = false := by simpa using c22))
                  (try (have c22b2 : (t106 == t107) = false := by simpa using c22))
                  (try (have c22b3 : ¬ (t106 = t107) := by simpa using c22))
                  clear c22
                  exact absurd ((Option.some.inj H).trans HR_.out) (by decide)
              · replace c19 := Bool.eq_false_iff.mpr c19
                subst c19
                have H1 : (some false) = some r := by rw [if_neg (show ¬ (false = true) by decide)] at H; exact H
                clear H
                have H := H1
                clear H1
                exact absurd ((Option.some.inj H).trans HR_.out) (by decide)

end Go.Proofs.YtdnaddignhjihaaDoor.QM2
namespace Go.Proofs.YtdnaddignhjihaaDoor.QO2
open Go.Proofs.YtdnaddignhjihaaDoor.Given Go.Proofs.YtdnaddignhjihaaDoor.QBase Go.Proofs.YtdnaddignhjihaaDoor.QU
open Go.RowKit Go.Proofs.YtdnaddignhjihaaDoorW.PrintWords Go.Proofs.YtdnaddignhjihaaDoorW.PrintLast Go.Proofs.YtdnaddignhjihaaDoorW.PrintMore
attribute [local go_sem] max2_int min2_int max_two min_two max_three min_three max_four min_four   -- for this text's walks alone
set_option linter.unusedVariables false
set_option linter.unusedSimpArgs false
def errW : Option Int → Value
  | none => .nilIface
  | some c => .iface 0 (.int .i64 c)
theorem errW_none : errW none = .nilIface := rfl
theorem errW_some (c : Int) : errW (some c) = .iface 0 (.int .i64 c) := rfl

end Go.Proofs.YtdnaddignhjihaaDoor.QO2
namespace Go.Proofs.YtdnaddignhjihaaDoor.PureA
open Go Go.RowKit Go.Proofs.YtdnaddignhjihaaDoor.QBase Go.Proofs.YtdnaddignhjihaaDoor.QU Go.Proofs.YtdnaddignhjihaaDoor.QMM Go.Proofs.YtdnaddignhjihaaDoor.QMB Go.Proofs.YtdnaddignhjihaaDoor.GivenM Go.Proofs.YtdnaddignhjihaaDoor.GlobM Go.Proofs.YtdnaddignhjihaaDoor.QM2 Go.Proofs.YtdnaddignhjihaaDoor.QO2 Go.Proofs.YtdnaddignhjihaaDoorW.PrintWords Go.Proofs.YtdnaddignhjihaaDoorW.PrintLast
open Go.Proofs.YtdnaddignhjihaaDoor.Given (decorumlaw11_awake.f)
set_option linter.unusedVariables false
set_option linter.unusedSimpArgs false
theorem refmatch_c (a p : ByteArray) (ha : a.size ≤ 100) (hp : p.size ≤ 100) (k : Nat) (hk : 200000 ≤ k) : decorumref09_Match.f k a p = some (matchV a.data.toList p.data.toList) := by
  refine refmatch_f a p (by omega) (by omega) k ?_
  have := Nat.mul_le_mul (show 4 * a.size ≤ 400 by omega) (show 4 * p.size + 4 ≤ 404 by omega)
  omega

def mmOf (p : ByteArray) (r : S30) : Bool := matchV r.f1.data.toList p.data.toList
def nOf (r : S30) : Nat := (nf r.f1.data.toList).length
def allowedV (l : List S30) (p : ByteArray) : Bool := (l.foldl (stp (mmOf p) S30.f0 nOf) (-1, true)).2
theorem rd_at (l : List S30) (i : Nat) (h : i < l.length) : rd_T30 l (i : Int) = l[i] := by
  simp [rd_T30, h]
theorem sz (l : List UInt8) : (⟨l.toArray⟩ : ByteArray).size = l.length := rfl

theorem allowed_l0 (p : ByteArray) (hp : p.size ≤ 100) (l : List S30) (hl : l.length ≤ 1000) (hr : ∀ r ∈ l, r.f1.size ≤ 100) (m : Nat) : ∀ (i k : Nat) (b : Int) (ok : Bool), l.length = i + m → m + 1 ≤ k →
    match_Allowed.l0 k p b ok l (l.length : Int) (i : Int) = some ((l.drop i).foldl (stp (mmOf p) S30.f0 nOf) (b, ok)).2 := by
  induction m with
  | zero =>
    intro i k b ok hi hk
    obtain ⟨k, rfl⟩ : ∃ k', k = k' + 1 := ⟨k - 1, by omega⟩
    simp only [match_Allowed.l0]
    rw [if_neg (by omega), List.drop_of_length_le (by omega)]
    rfl
  | succ m ih =>
    intro i k b ok hi hk
    obtain ⟨k, rfl⟩ : ∃ k', k = k' + 1 := ⟨k - 1, by omega⟩
    have hil : i < l.length := by omega
    have hri := hr _ (List.getElem_mem hil)
    simp only [match_Allowed.l0]
    rw [if_pos (by omega), if_pos (by omega), if_pos (by omega), rd_at l i hil, one_f _ (by omega), Option.bind_some, match_f _ _ (by omega) (by omega), Option.bind_some, wrap_in ((i : Int) + 1) (by omega) (by omega), show (i : Int) + 1 = ((i + 1 : Nat) : Int) by omega,
      List.drop_eq_getElem_cons hil, List.foldl_cons, sz]
    generalize l[i] = r at *
    have step : ∀ st : Int × Bool, match_Allowed.l0 k p st.1 st.2 l (l.length : Int) ((i + 1 : Nat) : Int) = some ((l.drop (i + 1)).foldl (stp (mmOf p) S30.f0 nOf) st).2 := fun st => ih (i + 1) k st.1 st.2 (by omega) (by omega)
    have hst : stp (mmOf p) S30.f0 nOf (b, ok) r = if matchV r.f1.data.toList p.data.toList = true then (if ((nf r.f1.data.toList).length : Int) < b then (b, ok) else if r.f0 = true then (((nf r.f1.data.toList).length : Int), true) else if ((nf r.f1.data.toList).length : Int) = b then (((nf r.f1.data.toList).length : Int), ok) else (((nf r.f1.data.toList).length : Int), false)) else (b, ok) := rfl
    rw [hst]
    by_cases c1 : matchV r.f1.data.toList p.data.toList = true
    · rw [if_pos c1, if_pos c1]
      by_cases c2 : ((nf r.f1.data.toList).length : Int) < b
      · rw [if_pos c2, if_pos c2]; exact step (b, ok)
      · rw [if_neg c2, if_neg c2]
        by_cases c3 : r.f0 = true
        · rw [if_pos c3, if_pos c3]; exact step (_, true)
        · rw [if_neg c3, if_neg c3]
          by_cases c4 : ((nf r.f1.data.toList).length : Int) = b
          · rw [if_pos c4, if_pos c4]; exact step (_, ok)
          · rw [if_neg c4, if_neg c4]; exact step (_, false)
    · rw [if_neg c1, if_neg c1]; exact step (b, ok)
theorem allowed_f (p : ByteArray) (hp : p.size ≤ 100) (l : List S30) (hl : l.length ≤ 1000) (hr : ∀ r ∈ l, r.f1.size ≤ 100) (k : Nat) (hk : l.length + 1 ≤ k) : match_Allowed.f k l p = some (allowedV l p) := by
  have := allowed_l0 p hp l hl hr l.length 0 k (-1) true (by omega) hk
  rw [List.drop_zero] at this
  exact this

theorem refall_l1 (p : ByteArray) (hp : p.size ≤ 100) (l : List S30) (hl : l.length ≤ 1000) (hr : ∀ r ∈ l, r.f1.size ≤ 100) (b : Int) (m : Nat) : ∀ (i k : Nat), l.length = i + m → m + 200001 ≤ k →
    decorumref09_Allowed.l1 k l p b (i : Int) = some (((l.drop i).any fun r => r.f0 && ((nOf r : Int) == b) && mmOf p r) || decide (b < 0)) := by
  induction m with
  | zero =>
    intro i k hi hk
    obtain ⟨k, rfl⟩ : ∃ k', k = k' + 1 := ⟨k - 1, by omega⟩
    simp only [decorumref09_Allowed.l1]
    rw [if_neg (by omega), List.drop_of_length_le (by omega)]
    rfl
  | succ m ih =>
    intro i k hi hk
    obtain ⟨k, rfl⟩ : ∃ k', k = k' + 1 := ⟨k - 1, by omega⟩
    have hil : i < l.length := by omega
    have hri := hr _ (List.getElem_mem hil)
    have ih := ih (i + 1) k (by omega) (by omega)
    simp only [decorumref09_Allowed.l1]
    rw [if_pos (by omega), if_pos (by omega), rd_at l i hil, wrap_in ((i : Int) + 1) (by omega) (by omega), show (i : Int) + 1 = ((i + 1 : Nat) : Int) by omega, List.drop_eq_getElem_cons hil, List.any_cons]
    generalize l[i] = r at *
    by_cases c1 : r.f0 = true
    · rw [if_pos c1, form_f _ (by omega) k (by omega), Option.bind_some, sz]
      by_cases c2 : ((nf r.f1.data.toList).length : Int) = b
      · rw [if_pos c2, refmatch_c _ _ hri hp k (by omega), Option.bind_some]
        by_cases c3 : matchV r.f1.data.toList p.data.toList = true
        · rw [if_pos c3]
          simp [c1, nOf, c2, mmOf, c3]
        · rw [if_neg c3, ih]
          simp [mmOf, c3]
      · have e : ((nOf r : Int) == b) = false := by rw [beq_eq_false_iff_ne]; exact c2
        rw [if_neg c2, ih, e]
        simp
    · rw [if_neg c1, ih]
      simp [c1]
theorem refall_l0 (p : ByteArray) (hp : p.size ≤ 100) (l : List S30) (hl : l.length ≤ 1000) (hr : ∀ r ∈ l, r.f1.size ≤ 100) (m : Nat) : ∀ (i k : Nat) (b : Int), l.length = i + m → m + l.length + 200010 ≤ k →
    decorumref09_Allowed.l0 k l p b (i : Int) = some ((l.any fun r => r.f0 && ((nOf r : Int) == (l.drop i).foldl (mst (mmOf p) nOf) b) && mmOf p r) || decide ((l.drop i).foldl (mst (mmOf p) nOf) b < 0)) := by
  induction m with
  | zero =>
    intro i k b hi hk
    obtain ⟨k, rfl⟩ : ∃ k', k = k' + 1 := ⟨k - 1, by omega⟩
    simp only [decorumref09_Allowed.l0]
    rw [if_neg (by omega), List.drop_of_length_le (by omega)]
    have := refall_l1 p hp l hl hr b l.length 0 k (by omega) (by omega)
    rw [List.drop_zero] at this
    exact this
  | succ m ih =>
    intro i k b hi hk
    obtain ⟨k, rfl⟩ : ∃ k', k = k' + 1 := ⟨k - 1, by omega⟩
    have hil : i < l.length := by omega
    have hri := hr _ (List.getElem_mem hil)
    have ih := fun b => ih (i + 1) k b (by omega) (by omega)
    simp only [decorumref09_Allowed.l0]
    rw [if_pos (by omega), if_pos (by omega), rd_at l i hil, refmatch_c _ _ hri hp k (by omega), Option.bind_some, wrap_in ((i : Int) + 1) (by omega) (by omega), show (i : Int) + 1 = ((i + 1 : Nat) : Int) by omega, List.drop_eq_getElem_cons hil, List.foldl_cons]
    generalize l[i] = r at *
    have hst : mst (mmOf p) nOf b r = if matchV r.f1.data.toList p.data.toList = true then (if ((nf r.f1.data.toList).length : Int) > b then ((nf r.f1.data.toList).length : Int) else b) else b := rfl
    rw [hst]
    by_cases c1 : matchV r.f1.data.toList p.data.toList = true
    · rw [if_pos c1, if_pos c1, form_f _ (by omega) k (by omega), Option.bind_some, sz]
      by_cases c2 : ((nf r.f1.data.toList).length : Int) > b
      · rw [if_pos c2, if_pos c2, Option.bind_some]; exact ih _
      · rw [if_neg c2, if_neg c2]; exact ih _
    · rw [if_neg c1, if_neg c1]; exact ih _
theorem refall_f (p : ByteArray) (hp : p.size ≤ 100) (l : List S30) (hl : l.length ≤ 1000) (hr : ∀ r ∈ l, r.f1.size ≤ 100) (k : Nat) (hk : 203000 ≤ k) : decorumref09_Allowed.f k l p = some (allowedV l p) := by
  have := refall_l0 p hp l hl hr l.length 0 k (-1) (by omega) (by omega)
  rw [List.drop_zero] at this
  rw [allowedV, ref_fold]
  exact this

def rtxt : List UInt8 := [47, 114, 111, 98, 111, 116, 115, 46, 116, 120, 116]
/-- May a path be asked for? -/
def mayV (all no : Bool) (l : List S30) (p : ByteArray) : Bool := if p.toList = rtxt ∨ all = true then true else if no = true then false else allowedV l p
theorem robots_f (p : ByteArray) (hp : p.size ≤ 100) (l : List S30) (hl : l.length ≤ 1000) (hr : ∀ r ∈ l, r.f1.size ≤ 100) (all no : Bool) (dl : Int) (k : Nat) (hk : l.length + 2 ≤ k) :
    robots_Allowed.f k all no l dl p = some (mayV all no l p) := by
  obtain ⟨k, rfl⟩ : ∃ k', k = k' + 1 := ⟨k - 1, by omega⟩
  have h := allowed_f p hp l hl hr k (by omega)
  unfold robots_Allowed.f
  by_cases c1 : p.toList = rtxt
  · have c1' : p.toList = [47, 114, 111, 98, 111, 116, 115, 46, 116, 120, 116] := c1
    rw [if_pos c1']
    simp [robots_Allowed.j0, mayV, c1]
  · have c1' : ¬ p.toList = [47, 114, 111, 98, 111, 116, 115, 46, 116, 120, 116] := c1
    rw [if_neg c1']
    cases all <;> cases no <;> simp [robots_Allowed.j0, mayV, c1, h]
theorem may_f (p : ByteArray) (hp : p.size ≤ 100) (l : List S30) (hl : l.length ≤ 1000) (hr : ∀ r ∈ l, r.f1.size ≤ 100) (all no : Bool) (dl : Int) (k : Nat) (hk : 203000 ≤ k) :
    decorumref09_May.f k all no l dl p = some (mayV all no l p) := by
  have h := refall_f p hp l hl hr k hk
  unfold decorumref09_May.f
  by_cases c1 : p.toList = rtxt
  · have c1' : p.toList = [47, 114, 111, 98, 111, 116, 115, 46, 116, 120, 116] := c1
    rw [if_pos c1']
    simp [mayV, c1]
  · have c1' : ¬ p.toList = [47, 114, 111, 98, 111, 116, 115, 46, 116, 120, 116] := c1
    rw [if_neg c1']
    cases all <;> cases no <;> simp [mayV, c1, h]
theorem robots_txt : (⟨#[47, 114, 111, 98, 111, 116, 115, 46, 116, 120, 116]⟩ : ByteArray).toList = rtxt := by rw [Lib.toList_data]; rfl
theorem awk : decorumlaw11_awake.f = some true := rfl

theorem may_l0 (p : ByteArray) (hp : p.size ≤ 100) (l : List S30) (hl : l.length ≤ 20) (all no : Bool) (dl : Int) : ∀ (m i k : Nat), l.length = i + m → m + 203010 ≤ k → (∀ j (hj : j < l.length), j < i → l[j].f1.size ≤ 100) →
    decorumlaw11_RobotsMay.l0 k p (i : Int) all no l dl = some true := by
  intro m
  induction m with
  | zero =>
    intro i k hi hk hr
    obtain ⟨k, rfl⟩ : ∃ k', k = k' + 1 := ⟨k - 1, by omega⟩
    have hr2 : ∀ r ∈ l, r.f1.size ≤ 100 := by
      intro r hr'
      obtain ⟨j, hj, rfl⟩ := List.getElem_of_mem hr'
      exact hr j hj (by omega)
    simp only [decorumlaw11_RobotsMay.l0]
    rw [if_neg (by omega), awk, Option.bind_some, if_pos rfl, robots_f p hp l (by omega) hr2 all no dl k (by omega), Option.bind_some, may_f p hp l (by omega) hr2 all no dl k (by omega), Option.bind_some, if_pos (by simp),
      robots_f _ (by decide) l (by omega) hr2 all no dl k (by omega), Option.bind_some, mayV, if_pos (.inl robots_txt)]
  | succ m ih =>
    intro i k hi hk hr
    obtain ⟨k, rfl⟩ : ∃ k', k = k' + 1 := ⟨k - 1, by omega⟩
    have hil : i < l.length := by omega
    simp only [decorumlaw11_RobotsMay.l0]
    rw [if_pos (by omega), if_pos (by omega), rd_at l i hil]
    by_cases h : (l[i].f1.size : Int) > 100
    · rw [if_pos h, awk]; rfl
    · rw [if_neg h, wrap_in ((i : Int) + 1) (by omega) (by omega), show (i : Int) + 1 = ((i + 1 : Nat) : Int) by omega]
      refine ih (i + 1) k (by omega) (by omega) ?_
      intro j hj hji
      by_cases e : j = i
      · subst e; omega
      · exact hr j hj (by omega)
theorem RobotsMay (all no : Bool) (l : List S30) (dl : Int) (p : ByteArray) : decorumlaw11_RobotsMay.f 300000 all no l dl p = some true := by
  unfold decorumlaw11_RobotsMay.f
  by_cases h1 : (l.length : Int) > 20
  · rw [if_pos h1]
    show decorumlaw11_RobotsMay.j0 (299999 + 1) p true all no l dl = some true
    simp only [decorumlaw11_RobotsMay.j0]
    rw [if_pos trivial, awk]; rfl
  · rw [if_neg h1]
    show decorumlaw11_RobotsMay.j0 (299999 + 1) p (decide ((p.size : Int) > 100)) all no l dl = some true
    simp only [decorumlaw11_RobotsMay.j0]
    by_cases h2 : (p.size : Int) > 100
    · rw [if_pos (by simpa using h2), awk]; rfl
    · rw [if_neg (by simpa using h2)]
      exact may_l0 p (by omega) l (by omega) all no dl l.length 0 299999 (by omega) (by omega) (by intro j hj h; omega)

end Go.Proofs.YtdnaddignhjihaaDoor.PureA
namespace Go.Proofs.YtdnaddignhjihaaDoor.WalkRobotsMay
set_option linter.unusedVariables false
open Go.RowKit Go.Proofs.YtdnaddignhjihaaDoor.Given Go.Proofs.YtdnaddignhjihaaDoor.QBase Go.Proofs.YtdnaddignhjihaaDoor.QM2 Go.Proofs.YtdnaddignhjihaaDoorW.PrintWords
theorem shp (w : World) (h : w.ShapedOpen Tryd.prog) : Shp w := Tryd.laysM145.s1_3 w h
open ArgsRobotsMay in
theorem walk (v : Value) (x : D26) (a1 : ByteArray) (w : World) (_s : ∃ cs, v = .agg cs ∧ cs.size = Tryd.prog.cellsOf 26) (K : kd26.K w x v.cells.toList) (g : good26 x) (w1 : a1.size ≤ 140737488351232) (hsh : w.ShapedOpen Tryd.prog) :
    Calls Tryd.prog 4 #[v, .string a1] w fun e w' => e = .returned (.bool true) ∧ Below w.heap.size w w' := by
  obtain ⟨cs, rfl, _⟩ := _s
  obtain ⟨_, _, e0, rfl, ⟨_, _, rfl, rfl, ⟨_, _, rfl, ⟨A, c, rfl, hl, hC⟩, rfl⟩⟩⟩ := K
  have hcs : cs = #[.bool x.1, .bool x.2.1, .slice A x.2.2.1.length c, .int .i64 x.2.2.2] := by
    have : cs.toList = [.bool x.1, .bool x.2.1, .slice A x.2.2.1.length c, .int .i64 x.2.2.2] := e0
    exact Array.toList_inj.mp this
  subst hcs
  exact decorumlaw11_RobotsMay.calls 300000 x.1 x.2.1 A c x.2.2.1 x.2.2.2 a1 true w hC hl rfl (PureA.RobotsMay x.1 x.2.1 x.2.2.1 x.2.2.2 a1) (shp w hsh)
end Go.Proofs.YtdnaddignhjihaaDoor.WalkRobotsMay
namespace Go.Proofs.YtdnaddignhjihaaDoor.Lift
open Go
variable {H : Type} {enc : TypeId × Value → H}
theorem lift {a : Assume} {C : Checked} {os : Os} {f : FuncId} {fn : Func} {s : ChangeSpec} {conds : List PathCond} {apart fresh handsOn again : Bool} {X : World → Array Value → Prop}
    (own : ownKnob C.prog.godebug = none) (started : os.Started) (noInit : C.prog.inits.idxOf? f = none) (hfn : C.prog.funcs[f]? = some fn)
    (witness : ∃ (w : World) (tape : Tape) (i : Input), w.os = os ∧ (w.forCall tape i).Shaped C.prog ∧ i.vars = [] ∧ Input.okWide C.prog (w.forCall tape i) .any w.heap.size f i ∧
      ((s.pre enc C.prog fn conds apart (w.forCall tape i).memory i.args ∧ X (w.forCall tape i).memory i.args) ∧ sizedMet enc C.prog fn (OpenSpec.ofChange s) apart (w.forCall tape i).memory i.args) ∧ a.holds C.prog (lone (Frame.enter C.prog f i.args .normal) [] (w.forCall tape i)))
    (contract : ∀ (W : World) (base : Nat) (args : Array Value) (ds gs : List (DataW H)) (before : List MemPlace),
      (∀ (j : Nat) t v, fn.params[j]? = some t → args[j]? = some v → Value.okWide C.prog W .any base t v) →
      DataW.Whole enc C.prog fn.params.toList s.vars apart W args.toList ds gs before →
      conds.all (PathCond.test C.prog ⟨fn.params.toList, ds, s.plain.varTypes C.prog, gs⟩) = true →
      (DataW.weightsEach C.prog (fn.params.toList ++ s.plain.varTypes C.prog) (ds ++ gs)).all (· ≤ reachBytes) = true →
      W.ShapedOpen C.prog →
      Calls C.prog f args W fun e W' => ∃ v, e = .returned v ∧ s.post enc C.prog fn apart fresh handsOn again W args v W') :
    ReturnsInHanded a C os f .any (fun w args => (s.pre enc C.prog fn conds apart w args ∧ X w args) ∧ sizedMet enc C.prog fn (OpenSpec.ofChange s) apart w args) (s.post enc C.prog fn apart fresh handsOn again) := by
  refine returnsInHanded_of_calls own started noInit witness ?_
  intro w tape i _ hsh _ hok hpre _
  obtain ⟨_, _, _, g, hg, _, _, _, _, hval⟩ := hok
  obtain rfl : g = fn := Option.some.inj (hg.symm.trans hfn)
  obtain ⟨⟨⟨ds, gs, before, hw, hc⟩, _⟩, hz⟩ := hpre
  exact (contract (w.forCall tape i) w.heap.size i.args ds gs before hval (DataW.Whole.of_heap (w' := w.forCall tape i) (by rfl) hw) hc (hz.weights hw) hsh).mono fun e W' ⟨v, he, hp⟩ => by
    subst he
    exact ChangeSpec.post_blind hp
end Go.Proofs.YtdnaddignhjihaaDoor.Lift
namespace Go.Proofs.YtdnaddignhjihaaDoor.robotsMay
open Go.ChangeShapes Go.WideShapes Go.ChangeAt Go.RowKit
open Go.ChangeMaps (open_string shut_string)
set_option linter.unusedVariables false
theorem own : ownKnob Tryd.prog.godebug = none := by kernel_rfl
theorem laidOut : laidOutB Tryd.prog = true := by kernel_rfl
set_option maxRecDepth 100000 in
theorem lifted (os : Os) (started : os.Started) (H : Type) (enc : TypeId × Value → H) :
    ReturnsInHanded {} Tryd.checked os 4 .any (fun w args => (Rows.robotsMaySpec.pre enc Tryd.prog Tryd.f4 Rows.robotsMayRow.domain false w args ∧ laidMetH Tryd.prog Rows.robotsMayRow.laid w) ∧ sizedMet enc Tryd.prog Tryd.f4 (OpenSpec.ofChange Rows.robotsMaySpec) false w args) (Rows.robotsMaySpec.post enc Tryd.prog Tryd.f4 false true false false) := by
  refine Lift.lift (C := Tryd.checked) (X := fun w _ => laidMetH Tryd.prog Rows.robotsMayRow.laid w) own started (by kernel_rfl) Tryd.func4
    (ChangeSpec.witness_shaped (enc := enc) (C := Tryd.checked) (os := os) (X := fun w _ => laidMetH Tryd.prog Rows.robotsMayRow.laid w) false (World.laidAll Tryd.prog os Rows.robotsMayRow.laid) #[.agg #[.bool false, .bool false, .slice none 0 0, .int .i64 0], .string ByteArray.empty] 8 (World.laidAll_os _ _ _)
      (World.shaped_of_ZipB (by kernel_rfl) (by kernel_rfl)) (by kernel_rfl) (by kernel_rfl) (by kernel_rfl)
      (by rw [MakeChecks.laidMetH_plain _ _ _ (by kernel_rfl)]; exact laidMet_laidAll _ (by kernel_rfl) (by kernel_rfl))) ?_
  intro W base args ds gs before hval0 hW hcnd hsz0 hsh
  have hsz : (DataW.weightsEach Tryd.prog (Tryd.f4.params.toList ++ Rows.robotsMaySpec.plain.varTypes Tryd.prog) (ds ++ gs)).all (· ≤ reachBytes) = true := hsz0
  have hval : ∀ (j : Nat) t v, Tryd.f4.params[j]? = some t → args[j]? = some v → Value.okWide Tryd.prog W .any base t v := hval0
  have hW' := hW
  obtain ⟨p, q, hA0, hV, rfl, hfz, hnd⟩ := hW
  have hA : DataW.TrodAll enc Tryd.prog W 0 (fun _ => true) true Tryd.f4.params.toList args.toList ds p := hA0
  rw [Tryd.params4] at hA hval hsz
  obtain ⟨v0, vs0, d0, ds0, p0, q0, hargs, rfl, rfl, h0, r0⟩ := trodAll_cons hA
  obtain ⟨v1, vs1, d1, ds1, p1, q1, rfl, rfl, rfl, h1, r1⟩ := trodAll_cons r0
  obtain ⟨rfl, rfl, rfl⟩ := trodAll_nil r1
  obtain rfl : args = #[v0, v1] := by cases args; simp_all
  obtain ⟨rfl, rfl⟩ := trodVars_none hV
  have k0 := h0
  have lt0 : ∀ x ∈ p0, x.block < W.heap.size := by obtain ⟨m, hm⟩ := k0; exact DataW.trod_lt m _ _ _ hm
  obtain ⟨x0, K0, g0⟩ := (ArgsRobotsMay.opens26).arg h0 hsz (j := 0) rfl rfl
  have s0 := okWide_struct Tryd.underlying26 (hval 0 26 v0 rfl rfl)
  obtain ⟨a1, rfl, rfl, rfl, y1⟩ := open_string Tryd.underlying9 (hval 1 9 v1 rfl rfl) h1
  have w1 : a1.size ≤ 140737488351232 := by
    have z := sized_string hsz (j := 1) (t := 9) rfl rfl
    rw [Array.length_toList] at z
    exact z
  clear hA0 hval0 hsz0 hsz hval
  refine (WalkRobotsMay.walk v0 x0 a1 W s0 K0 g0 w1 hsh).mono fun e W' ⟨he, bel⟩ => ?_
  subst he
  exact ⟨_, rfl, _, _, _, [], _, [], hW', trodAll_mk1 (shut_bool Tryd.underlying4 _), (trodAll_cons_mk (Below.trod laidOut (by kernel_rfl) (of_decide_eq_true (by kernel_rfl)) k0 bel lt0) (trodAll_cons_mk (shut_string Tryd.underlying9 y1) trodAll_mk0)), rfl, bel.frame _, fun h => by cases h⟩
theorem over : Rows.robotsMayRow.holds Tryd.pinned (OpenSpec.ofChange Rows.robotsMaySpec) :=
  OpenClaim.holds_of_wide 4 Tryd.f4 rfl rfl rfl rfl rfl rfl rfl ⟨rfl, rfl, rfl, rfl, rfl⟩ rfl rfl rfl rfl rfl (by kernel_rfl) Tryd.func4 (by kernel_rfl)
    (of_decide_eq_true (by kernel_rfl)) (by unfold Func.isWrapper; first | (rw [if_pos (by decide +kernel)]; kernel_rfl) | (rw [if_neg (by decide +kernel)]; exact ⟨rfl, rfl⟩))
    (fun os started H enc _ => lifted os started H enc)
theorem proved : Rows.RobotsMaySaid := over
theorem card : Rows.RobotsMayCardSaid :=
  Claim7.holds_tied_plain_at .later [] [.data, .pinned] true (true, "d197b9417d0fe1ca454221f2141769a21cf7fc6dedecd8c35fcb9fe414422d9a") false proved (fun _ h => by cases h) (by kernel_rfl) (fun _ h => by cases h) robotsMay_row_tie rfl ⟨rfl, rfl⟩ (by kernel_rfl) rfl
    (fun f fn hf hfn => by
      obtain rfl : f = 4 := Option.some.inj ((show Tryd.prog.funcNamed "decorum/decorumlaw11.RobotsMay" = some 4 by kernel_rfl).symm.trans hf) |>.symm
      obtain rfl : fn = Tryd.f4 := (Option.some.inj (Tryd.func4.symm.trans hfn)).symm
      exact ⟨by kernel_rfl, fun j t ht => by
        rw [Tryd.params4] at ht
        have hm : t ∈ [26, 9] := by simpa using Array.mem_of_getElem? ht
        have hall : ([26, 9].all fun u => !Tryd.prog.wantsStandIn u) = true := by kernel_rfl
        exact (show Tryd.prog.wantsStandIn t = false by simpa using List.all_eq_true.1 hall t hm)⟩)
    (by kernel_rfl)
end Go.Proofs.YtdnaddignhjihaaDoor.robotsMay
namespace Go.Proofs.YtdnaddignhjihaaDoor
/-- The row, under a short name, for the claim. -/
theorem robotsMay_holds : Rows.RobotsMayCardSaid := robotsMay.card
end Go.Proofs.YtdnaddignhjihaaDoor
