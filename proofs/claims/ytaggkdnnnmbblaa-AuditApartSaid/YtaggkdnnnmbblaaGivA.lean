/- audit.Gaps, walked. -/
import Derived.Test.YtaggkdnnnmbblaaSpec
import Derived.Test.YtaggkdnnnmbblaaMp
namespace Go.Proofs.Ytaggkdnnnmbblaa.Given
open Go.RowKit Go.Maps Go.WideMaps Go.Proofs.Ytaggkdnnnmbblaa.QBase Go.Proofs.YtaggkdnnnmbblaaW.PrintWords Go.Proofs.YtaggkdnnnmbblaaW.PrintLast
set_option linter.unusedVariables false
set_option linter.unusedSimpArgs false

def wf64 (n : Int) : Prop := -9223372036854775808 ≤ n ∧ n ≤ 9223372036854775807
/-- An event whose numbers and texts are as Go's. -/
def okEv (e : Ev) : Prop := wf64 e.f0 ∧ wf64 e.f1 ∧ wf64 e.f2.f0 ∧ e.f2.f1.size ≤ 140737488355328 ∧ e.f2.f2.size ≤ 140737488351232 ∧ wf64 e.f2.f3 ∧ wf64 e.f2.f4
theorem went_f (e : Ev) : audit_went.f e.f0 e.f1 e.f2.f0 e.f2.f1 e.f2.f2 e.f2.f3 e.f2.f4 = some (wentB e) := by
  unfold audit_went.f wentB
  by_cases h : e.f0 = 1 <;> simp [h]
theorem lawS : Keyed Try.prog 9 := string_keyed Try.underlying9
theorem lawI : Keyed Try.prog 3 := int_keyed Try.underlying3
theorem zero3 (w : World) : (zeroValue 3).run Try.prog w = .ok (.int .i64 0) w := by kernel_rfl
theorem zero4 (w : World) : (zeroValue 4).run Try.prog w = .ok (.bool false) w := by kernel_rfl
/-- The cells of an event in a box that was laid behind a world. -/
def evCells (e : Ev) : Array Value := #[.int .i64 e.f0, .int .i64 e.f1, .int .i64 e.f2.f0, .string e.f2.f1, .string e.f2.f2, .int .i64 e.f2.f3, .int .i64 e.f2.f4]
theorem box_cells {W w2 : World} {e : Ev} (hb : Below (W.alloc (.cells (evCells e) 28)).heap.size (W.alloc (.cells (evCells e) 28)) w2) :
    w2.cell? ⟨W.heap.size, 0, none⟩ = some (.int .i64 e.f0) ∧ w2.cell? ⟨W.heap.size, 1, none⟩ = some (.int .i64 e.f1) ∧ w2.cell? ⟨W.heap.size, 2, none⟩ = some (.int .i64 e.f2.f0) ∧ w2.cell? ⟨W.heap.size, 3, none⟩ = some (.string e.f2.f1) ∧
    w2.cell? ⟨W.heap.size, 4, none⟩ = some (.string e.f2.f2) ∧ w2.cell? ⟨W.heap.size, 5, none⟩ = some (.int .i64 e.f2.f3) ∧ w2.cell? ⟨W.heap.size, 6, none⟩ = some (.int .i64 e.f2.f4) := by
  have hh := heap_alloc_new W (.cells (evCells e) 28)
  have h : ∀ i v, (evCells e)[i]? = some v → w2.cell? ⟨W.heap.size, i, none⟩ = some v := by
    intro i v hv
    rw [hb.cell (p := ⟨W.heap.size, i, none⟩) (by simp)]
    simp only [World.cell?, hh]
    simpa using hv
  exact ⟨h 0 _ rfl, h 1 _ rfl, h 2 _ rfl, h 3 _ rfl, h 4 _ rfl, h 5 _ rfl, h 6 _ rfl⟩

theorem wf_i64 {n : Int} (h : wf64 n) : (Lit.int .i64 n).wf = true := by
  obtain ⟨h1, h2⟩ := h
  simp [Lit.wf, IntKind.min, IntKind.max, IntKind.signed, IntKind.bits]
  omega
theorem at_is {D : DataW Unit} {k : Lit} {f : Option Int} {c a : Int} (h : ∀ z, D.atKey k (valI z) = valI (f.getD z)) (hat : D.atKey k (.lit (.int .i64 0)) = .lit (.int .i64 c)) (hf : f = some a) : c = a := by
  have := (h 0).symm.trans hat
  rw [hf] at this
  simp [valI] at this
  exact this.symm
theorem last_put {D : DataW Unit} {e : Ev} {r : List Ev} {x : ByteArray} (h : Maps.has D (keyS x) = (put1 (lastR r) e.f2.f1 e.f1 x).isSome ∧ ∀ z, D.atKey (keyS x) (valI z) = valI ((put1 (lastR r) e.f2.f1 e.f1 x).getD z)) :
    Maps.has D (keyS x) = (if (true && decide (hostOf e = x)) = true then some e.f1 else lastR r x).isSome ∧ ∀ z, D.atKey (keyS x) (valI z) = valI ((if (true && decide (hostOf e = x)) = true then some e.f1 else lastR r x).getD z) := by
  have e1 : (if (true && decide (hostOf e = x)) = true then some e.f1 else lastR r x) = put1 (lastR r) e.f2.f1 e.f1 x := by
    unfold put1 hostOf
    by_cases hx : x = e.f2.f1
    · simp [hx]
    · rw [if_neg hx, if_neg (by simpa using fun g => hx (Eq.symm g))]
  rw [e1]
  exact h
theorem grown_below {B b : Nat} {w w' : World} (h : w.grownBy w' (some b)) (hb : B ≤ b) (hs : B ≤ w.heap.size) : Below B w w' :=
  ⟨h.os, h.tape, h.output, h.size, fun k hk => h.block k (by omega) (by intro e; injection e with e; omega)⟩

set_option maxHeartbeats 8000000 in
set_option maxRecDepth 100000 in
theorem gaps_calls (A : Option Addr) (c : Nat) (l : List Ev) (floor : Int) (W : World) (hr : Kd.C k28 W A l.length l) (hl : l.length ≤ 1000) (hok : ∀ e ∈ l, okEv e) :
    Calls Try.prog 13 #[.slice A l.length c, .int .i64 floor] W fun e w' => e = .returned (.bool (gapsB floor l)) ∧ Below W.heap.size W w' := by
  have hmm := @run_makeMap Try.prog
  go_enter Try.func13, Try.ntmps13
  go_wp2
  go_loopw [13] (fun i wr => ∃ (k : Nat), i = .int .i64 k ∧ k ≤ l.length ∧ Aside0 (MapIs keyS valI 9 3 wr W.heap.size k (lastR (l.take k).reverse)) ∧ Aside0 (gapsR floor (l.take k).reverse = true) ∧ Below W.heap.size W wr) (fun i wr => l.length - (intOf i).toNat)
  case atStart =>
    refine ⟨0, rfl, Nat.zero_le _, ⟨MapIs.made W keyS valI 9 3⟩, ⟨rfl⟩, ?_⟩
    exact (Below.refl _ W).alloc (Nat.le_refl _) _
  case round =>
    obtain ⟨k, rfl, hk, hm, hg, hb⟩ := hrel
    have hz := hb.size
    by_cases hlt : k < l.length
    · have hget := Aside0.mk (rd_get l k hlt)
      obtain ⟨ad, e, x0, x1, x2, x3, x4, x5, x6⟩ := at_T28 hr (k : Int) (by omega) (by omega)
      cases e
      have HOK := Aside0.mk (hok l[k] (List.getElem_mem hlt))
      rw [hget.out] at x0 x1 x2 x3 x4 x5 x6
      have HT := Aside0.mk (rev_take_succ l k hlt)
      replace x0 := (hb.cell (World.block_lt_of_cell? _ _ x0)).trans x0
      replace x1 := (hb.cell (World.block_lt_of_cell? _ _ x1)).trans x1
      replace x2 := (hb.cell (World.block_lt_of_cell? _ _ x2)).trans x2
      replace x3 := (hb.cell (World.block_lt_of_cell? _ _ x3)).trans x3
      replace x4 := (hb.cell (World.block_lt_of_cell? _ _ x4)).trans x4
      replace x5 := (hb.cell (World.block_lt_of_cell? _ _ x5)).trans x5
      replace x6 := (hb.cell (World.block_lt_of_cell? _ _ x6)).trans x6
      generalize l[k] = ev at *
      clear hget
      rw [Int.toNat_natCast] at *
      have q1 : ((k : Int) < (l.length : Int)) = True := eq_true (by omega)
      have q2 : (0 ≤ (k : Int)) = True := eq_true (by omega)
      have hc1 := audit_went.calls _ _ _ _ _ _ _ _ (wr.alloc (.cells (evCells ev) 28)) (went_f ev)
      have HC1 := Aside0.mk hc1
      clear hc1
      have bA : Below W.heap.size W (wr.alloc (.cells (evCells ev) 28)) := hb.trans ((Below.refl _ wr).alloc hz _)
      have bB : Below wr.heap.size wr (wr.alloc (.cells (evCells ev) 28)) := (Below.refl _ wr).alloc (Nat.le_refl _) _
      obtain ⟨b, hw⟩ : ∃ b, wentB ev = b := ⟨_, rfl⟩
      rw [hw] at HC1
      have HW := Aside0.mk hw
      clear hw
      have hm2 : ∀ w2, Below (wr.alloc (.cells (evCells ev) 28)).heap.size (wr.alloc (.cells (evCells ev) 28)) w2 → MapIs keyS valI 9 3 w2 W.heap.size k (lastR (l.take k).reverse) := fun w2 h => (hm.out.below bB).below h
      have hb2 : ∀ w2, Below (wr.alloc (.cells (evCells ev) 28)).heap.size (wr.alloc (.cells (evCells ev) 28)) w2 → Below W.heap.size W w2 := fun w2 h => bA.trans (h.mono bA.size)
      have HM2 := Aside0.mk hm2
      have HB2 := Aside0.mk hb2
      clear hm2 hb2 bB bA
      cases b
      · go_wp2_with (go_at_call 18; go_loud (refine HC1.out.mono ?_; rintro e w2 ⟨rfl, b2⟩))
        go_roundw
        case rel =>
          have hb3 := HB2.out w2 b2
          have hm3 := HM2.out w2 b2
          refine ⟨k + 1, by go_num, by omega, ⟨?_⟩, ⟨?_⟩, hb3⟩
          · rw [HT.out]
            obtain ⟨D, h1, h2⟩ := hm3.more (Nat.le_succ k)
            refine ⟨D, h1, fun x => ?_⟩
            rw [lastR, HW.out]
            exact h2 x
          · rw [HT.out, gapsR, HW.out, hg.out]; rfl
        case measure => simp [intOf]; omega
      · go_upto_region 6 with (go_at_call 18; go_loud (refine HC1.out.mono ?_; rintro e w2 ⟨rfl, b2⟩))
        obtain ⟨y0, y1, y2, y3, y4, y5, y6⟩ := box_cells b2
        obtain ⟨D, hown, hD0⟩ := HM2.out w2 b2
        have hb3 := HB2.out w2 b2
        have hz3 := hb3.size
        have hkey : keyOf Try.prog 9 (.string ev.f2.f1) = some (keyS ev.f2.f1) := keyOf_string_mk Try.underlying9 (by have := HOK.out.2.2.2.1; unfold maxLen; omega)
        have HD := Aside0.mk hD0
        clear hD0 b2 HM2 HB2 HC1 x0 x1 x2 x3 x4 x5 x6
        have hhas := (HD.out ev.f2.f1).1
        rcases hlast : lastR (l.take k).reverse ev.f2.f1 with _ | at_
        · rw [hlast] at hhas
          have HL := Aside0.mk hlast
          clear hlast
          go_upto_region 9 with (at_lookup; go_loud (refine wpList_lookup_own_ok_int _ rfl _ _ 40 rfl 9 3 .i64 lawS Try.underlying40 Try.underlying3 (zero3 _) _ _ D rfl hown _ _ rfl hkey ?_; intro c1 hat hwc; rw [hhas]))
          have hval : plainElem (H := Unit) Try.prog 3 (.int .i64 ev.f1) = some (valI ev.f1, []) := plainElem_int Try.underlying3 (wf_i64 HOK.out.2.1)
          go_wp2_with (at_mapUpdate; go_loud (refine wpList_mapUpdate_own _ rfl _ _ _ 40 rfl 9 3 lawS Try.underlying40 _ _ k D rfl hown (by unfold maxLen; omega) _ _ _ rfl rfl hkey (valI ev.f1) [] hval ?_; intro w3 hown3 hgrow3))
          go_roundw
          case rel =>
            refine ⟨k + 1, by go_num, by omega, ⟨?_⟩, ⟨?_⟩, ?_⟩
            · rw [HT.out]
              refine ⟨_, hown3, fun x => ?_⟩
              have := put_is hown.isMap HD.out keyS_key keyS_inj ev.f2.f1 ev.f1 x
              rw [lastR, HW.out]
              exact last_put this
            · rw [HT.out, gapsR, HW.out, hg.out, show hostOf ev = ev.f2.f1 from rfl, HL.out]; rfl
            · exact hb3.trans (grown_below hgrow3 (Nat.le_refl _) hz3)
          case measure => simp [intOf]; omega
        · rw [hlast] at hhas
          have HL := Aside0.mk hlast
          clear hlast
          go_upto_region 7 with (at_lookup; go_loud (refine wpList_lookup_own_ok_int _ rfl _ _ 40 rfl 9 3 .i64 lawS Try.underlying40 Try.underlying3 (zero3 _) _ _ D rfl hown _ _ rfl hkey ?_; intro c1 hat hwc; rw [hhas]))
          have HC := Aside0.mk (at_is (HD.out ev.f2.f1).2 hat HL.out)
          clear hat hwc hhas
          have hzb : wr.heap.size < w2.heap.size := World.block_lt_of_cell? _ _ y0
          have hval : plainElem (H := Unit) Try.prog 3 (.int .i64 ev.f1) = some (valI ev.f1, []) := plainElem_int Try.underlying3 (wf_i64 HOK.out.2.1)
          by_cases hfl : sb ev.f1 c1 < floor
          · have hfin : gapsB floor l = false := by
              apply gapsB_false (k + 1)
              rw [HT.out, gapsR, HW.out, show hostOf ev = ev.f2.f1 from rfl, HL.out]
              have := HC.out
              subst this
              simp [hfl]
            have HF := Aside0.mk hfin
            clear hfin
            go_wp2_with (go_at_call 19; go_loud (refine (tick_Sub.calls _ _ _ _ (sub_f _ _)).mono ?_; rintro e w5 ⟨rfl, b5⟩))
            go_ret
            exact ⟨by rw [HF.out]; rfl, hb3.trans (b5.mono hz3)⟩
          · go_upto_region 9 with (go_at_call 19; go_loud (refine (tick_Sub.calls _ _ _ _ (sub_f _ _)).mono ?_; rintro e w5 ⟨rfl, b5⟩))
            have z1 := (b5.cell (p := ⟨wr.heap.size, 1, none⟩) hzb).trans y1
            have z3 := (b5.cell (p := ⟨wr.heap.size, 3, none⟩) hzb).trans y3
            have hown5 : w5.ownsMap Try.prog 9 (plainElem Try.prog 3) W.heap.size k D := hown.kept (row := none) ⟨b5.os, b5.tape, b5.output, b5.size, fun k hk _ => b5.block k hk⟩ (by simp)
            have hz5 : W.heap.size ≤ w5.heap.size := Nat.le_trans hz3 b5.size
            have hb5 := hb3.trans (b5.mono hz3)
            clear y0 y1 y2 y3 y4 y5 y6 hown b5 hb3 hz3
            go_wp2_with (at_mapUpdate; go_loud (refine wpList_mapUpdate_own _ rfl _ _ _ 40 rfl 9 3 lawS Try.underlying40 _ _ k D rfl hown5 (by unfold maxLen; omega) _ _ _ rfl rfl hkey (valI ev.f1) [] hval ?_; intro w3 hown3 hgrow3))
            go_roundw
            case rel =>
              refine ⟨k + 1, by go_num, by omega, ⟨?_⟩, ⟨?_⟩, ?_⟩
              · rw [HT.out]
                refine ⟨_, hown3, fun x => ?_⟩
                have := put_is hown5.isMap HD.out keyS_key keyS_inj ev.f2.f1 ev.f1 x
                rw [lastR, HW.out]
                exact last_put this
              · rw [HT.out, gapsR, HW.out, hg.out, show hostOf ev = ev.f2.f1 from rfl, HL.out]
                have := HC.out
                subst this
                simp; omega
              · exact hb5.trans (grown_below hgrow3 (Nat.le_refl _) hz5)
            case measure => simp [intOf]; omega
    · obtain rfl : k = l.length := by omega
      have q1 : ((l.length : Int) < (l.length : Int)) = False := eq_false (by omega)
      go_wp2
      go_ret
      rw [List.take_length] at hg
      exact ⟨by rw [show gapsB floor l = true from hg.out]; rfl, hb⟩
end Go.Proofs.Ytaggkdnnnmbblaa.Given
