/- policy's functions, walked: of, to, Send. A policy's cells stay under one name. -/
import Derived.Test.YtdmebkdikminjaaSpec
import Derived.RegionTactic
import Derived.BigRegion
import Derived.Deep.RegionHeld3
import Derived.Laws.Rows
import Derived.Laws.Tables
import Derived.Deep.RegionLaw
import Derived.Deep.DeepCutAuto
namespace Go.Proofs.Ytdmebkdikminjaa.Given
open Go.RowKit Go.Proofs.Ytdmebkdikminjaa.QBase Go.Proofs.YtdmebkdikminjaaW.PrintWords Go.Proofs.YtdmebkdikminjaaW.PrintLast Go.Proofs.YtdmebkdikminjaaW.PrintMore
set_option linter.unusedVariables false
set_option linter.unusedSimpArgs false
theorem size28 : (Try.prog.info? 28).map (·.size) = some 14 := by kernel_rfl
theorem pol_one (p : Pol) : p.cells.all (·.oneCell') = true := by simp [Pol.cells, Value.oneCell']
def zeroP : Pol := ⟨0, 0, 0, 0, 0, 0, 0, 0, 0, 0, false, false, .none, 0, 0, 0⟩
theorem below_setRow {B g : Nat} {w w' : World} {cs : Array Value} (h : Below B w w') (hg : B ≤ g) : Below B w (w'.setRow g cs) :=
  ⟨h.os, h.tape, h.output, by simpa [World.setRow] using h.size, fun k hk => by
    rw [← h.block k hk]
    simp only [World.setRow]
    rw [Array.getElem?_modify, if_neg (by omega)]⟩
theorem st28 {w : World} {g : Nat} {p : Pol} (hg : w.heap[g]? = some (.cells p.cells 28 (0, 0))) (q : Pol) : (storeCells ⟨g, 0, none⟩ q.cells.toList).run Try.prog w = .ok () (w.setRow g q.cells) := by
  have := run_storeCells_from (P := Try.prog) g 28 q.cells.toList 0 p.cells w hg rfl (fun v hv => (Array.all_eq_true_iff_forall_mem.1 (pol_one q)) v (by simpa using hv))
  exact this
theorem load28 {w : World} {g : Nat} {p : Pol} (h : Aside0 (w.heap[g]? = some (.cells p.cells 28 (0, 0)))) : (loadVar 28 ⟨g, 0, none⟩).run Try.prog w = .ok (.agg p.cells) w :=
  run_loadVar_row w g 28 28 p.cells (0, 0) _ h.out Try.underlying28 rfl size28
theorem store28 {w : World} {g : Nat} {p q : Pol} (h : Aside0 (w.heap[g]? = some (.cells p.cells 28 (0, 0)))) : (storeVar 28 ⟨g, 0, none⟩ (.agg q.cells)).run Try.prog w = .ok () (w.setRow g q.cells) :=
  run_storeVar_row w g 28 28 p.cells q.cells h.out size28 rfl (pol_one q)
theorem pc0 (p : Pol) : p.cells[0]? = some (.int .i64 p.last) := rfl
theorem ps0 (p : Pol) (v : Int) : p.cells.setIfInBounds 0 (.int .i64 v) = ({ p with last := v } : Pol).cells := rfl
theorem pc1 (p : Pol) : p.cells[1]? = some (.int .i64 p.gap) := rfl
theorem ps1 (p : Pol) (v : Int) : p.cells.setIfInBounds 1 (.int .i64 v) = ({ p with gap := v } : Pol).cells := rfl
theorem pc2 (p : Pol) : p.cells[2]? = some (.int .i64 p.exp) := rfl
theorem ps2 (p : Pol) (v : Int) : p.cells.setIfInBounds 2 (.int .i64 v) = ({ p with exp := v } : Pol).cells := rfl
theorem pc3 (p : Pol) : p.cells[3]? = some (.int .i64 p.fails) := rfl
theorem ps3 (p : Pol) (v : Int) : p.cells.setIfInBounds 3 (.int .i64 v) = ({ p with fails := v } : Pol).cells := rfl
theorem pc4 (p : Pol) : p.cells[4]? = some (.int .i64 p.state) := rfl
theorem ps4 (p : Pol) (v : Int) : p.cells.setIfInBounds 4 (.int .i64 v) = ({ p with state := v } : Pol).cells := rfl
theorem pc5 (p : Pol) : p.cells[5]? = some (.int .i64 p.till) := rfl
theorem ps5 (p : Pol) (v : Int) : p.cells.setIfInBounds 5 (.int .i64 v) = ({ p with till := v } : Pol).cells := rfl
theorem pc6 (p : Pol) : p.cells[6]? = some (.int .i64 p.retry) := rfl
theorem ps6 (p : Pol) (v : Int) : p.cells.setIfInBounds 6 (.int .i64 v) = ({ p with retry := v } : Pol).cells := rfl
theorem pc7 (p : Pol) : p.cells[7]? = some (.int .i64 p.reset) := rfl
theorem ps7 (p : Pol) (v : Int) : p.cells.setIfInBounds 7 (.int .i64 v) = ({ p with reset := v } : Pol).cells := rfl
theorem pc8 (p : Pol) : p.cells[8]? = some (.int .i64 p.flying) := rfl
theorem ps8 (p : Pol) (v : Int) : p.cells.setIfInBounds 8 (.int .i64 v) = ({ p with flying := v } : Pol).cells := rfl
theorem pc9 (p : Pol) : p.cells[9]? = some (.int .i64 p.known) := rfl
theorem ps9 (p : Pol) (v : Int) : p.cells.setIfInBounds 9 (.int .i64 v) = ({ p with known := v } : Pol).cells := rfl
theorem pc10 (p : Pol) : p.cells[10]? = some (.bool p.all) := rfl
theorem ps10 (p : Pol) (v : Bool) : p.cells.setIfInBounds 10 (.bool v) = ({ p with all := v } : Pol).cells := rfl
theorem pc11 (p : Pol) : p.cells[11]? = some (.bool p.none) := rfl
theorem ps11 (p : Pol) (v : Bool) : p.cells.setIfInBounds 11 (.bool v) = ({ p with none := v } : Pol).cells := rfl
theorem pc12 (p : Pol) : p.cells[12]? = some (.slice p.A p.n p.c) := rfl
theorem ps12 (p : Pol) (A : Option Addr) (n c : Nat) : p.cells.setIfInBounds 12 (.slice A n c) = ({ p with A := A, n := n, c := c } : Pol).cells := rfl
theorem pc13 (p : Pol) : p.cells[13]? = some (.int .i64 p.delay) := rfl
theorem ps13 (p : Pol) (v : Int) : p.cells.setIfInBounds 13 (.int .i64 v) = ({ p with delay := v } : Pol).cells := rfl
theorem pcs (p : Pol) : p.cells.size = 14 := rfl
theorem vcs (cs : Array Value) : (Value.agg cs).cells = cs := rfl
theorem foldP (a0 a1 a2 a3 a4 a5 a6 a7 a8 a9 : Int) (b0 b1 : Bool) (A : Option Addr) (n c : Nat) (d : Int) : (#[.int .i64 a0, .int .i64 a1, .int .i64 a2, .int .i64 a3, .int .i64 a4, .int .i64 a5, .int .i64 a6, .int .i64 a7, .int .i64 a8, .int .i64 a9, .bool b0, .bool b1, .slice A n c, .int .i64 d] : Array Value) = (Pol.mk a0 a1 a2 a3 a4 a5 a6 a7 a8 a9 b0 b1 A n c d).cells := rfl
attribute [local go_sem high] pc0 ps0 pc1 ps1 pc2 ps2 pc3 ps3 pc4 ps4 pc5 ps5 pc6 ps6 pc7 ps7 pc8 ps8 pc9 ps9 pc10 ps10 pc11 ps11 pc12 ps12 pc13 ps13 pcs
set_option maxHeartbeats 8000000 in
set_option maxRecDepth 100000 in
theorem of_calls (p : Pol) (W : World) : Calls Try.prog 29 #[.agg p.cells] W fun e w' => e = .returned (.agg #[.int .i64 p.state, .int .i64 p.fails, .int .i64 p.till]) ∧ Below W.heap.size W w' := by
  go_enter Try.func29, Try.ntmps29
  go_wp2
  exact bodyPost_ret (v := .agg #[.int .i64 p.state, .int .i64 p.fails, .int .i64 p.till]) (by simp [results, Try.results29, go_sem]) rfl ⟨rfl, ((Below.refl _ _).alloc (Nat.le_refl _) _).alloc (by simp) _⟩
set_option maxHeartbeats 8000000 in
set_option maxRecDepth 100000 in
theorem to_calls (p : Pol) (s f t : Int) (W : World) : Calls Try.prog 27 #[.agg p.cells, .agg #[.int .i64 s, .int .i64 f, .int .i64 t]] W fun e w' => e = .returned (.agg ({ p with state := s, fails := f, till := t } : Pol).cells) ∧ Below W.heap.size W w' := by
  go_enter Try.func27, Try.ntmps27
  go_wp2
  go_region
  go_wp2
  refine bodyPost_ret (v := .agg ({ p with state := s, fails := f, till := t } : Pol).cells) (by simp [results, Try.results27, go_sem]; rfl) rfl ⟨rfl, ?_⟩
  exact ((((Below.refl W.heap.size W).alloc (Nat.le_refl _) _).alloc (by simp) _).alloc (by simp; omega) _).drew
attribute [local go_sem] foldP
theorem keepS {W w w' : World} {gp gr : Nat} {p z : Pol} (b : Below w.heap.size w w') (h : ∀ i, w.cell? ⟨gp, i, none⟩ = p.cells[i]?) (hs : Aside0 (Below W.heap.size W w ∧ w.heap[gp]? = some (.cells p.cells 28 (0, 0)) ∧ w.heap[gr]? = some (.cells z.cells 28 (0, 0)))) :
    (∀ i, w'.cell? ⟨gp, i, none⟩ = p.cells[i]?) ∧ (∀ q : Pol, (storeCells ⟨gp, 0, none⟩ q.cells.toList).run Try.prog w' = .ok () (w'.setRow gp q.cells)) ∧ Aside0 (Below W.heap.size W w' ∧ w'.heap[gp]? = some (.cells p.cells 28 (0, 0)) ∧ w'.heap[gr]? = some (.cells z.cells 28 (0, 0))) :=
  ⟨fun i => blk_cell (blk_below hs.out.2.1 b) i, st28 (blk_below hs.out.2.1 b), ⟨hs.out.1.trans (b.mono hs.out.1.size), blk_below hs.out.2.1 b, blk_below hs.out.2.2 b⟩⟩
set_option maxHeartbeats 8000000 in
set_option maxRecDepth 100000 in
theorem send_calls (cf : Cfg) (p : Pol) (now : Int) (W : World) : Calls Try.prog 15 #[.agg cf.cells, .agg p.cells, .int .i64 now] W fun e w' => e = .returned (.agg (sendP p now).cells) ∧ Below W.heap.size W w' := by
  obtain ⟨s1, hs1⟩ : ∃ s1, s1 = if p.state = 1 ∧ now ≥ p.till then 2 else p.state := ⟨_, rfl⟩
  have HBS := Aside0.mk (bsend_f p.state p.fails p.till now)
  have HSP := Aside0.mk (show sendP p now = { p with state := if p.state = 1 ∧ now ≥ p.till then 2 else p.state, last := now, flying := wrap64 (p.flying + 1) } from rfl)
  rw [← hs1] at HBS HSP
  clear hs1
  go_enter Try.func15, Try.ntmps15
  go_wp2_with fail
  have HB := ((((Below.refl W.heap.size W).alloc (Nat.le_refl _) (.cells cf.cells 23)).alloc (by simp) (.cells p.cells 28)).alloc (by simp; omega) (.cells (Pol.mk 0 0 0 0 0 0 0 0 0 0 false false .none 0 0 0).cells 28))
  have HP : ((((W.alloc (.cells cf.cells 23)).alloc (.cells p.cells 28)).alloc (.cells (Pol.mk 0 0 0 0 0 0 0 0 0 0 false false .none 0 0 0).cells 28)).heap[W.heap.size + 1]? = some (.cells p.cells 28)) := by simpa using blk_alloc (blk_new (W.alloc (.cells cf.cells 23)) (.cells p.cells 28)) (.cells (Pol.mk 0 0 0 0 0 0 0 0 0 0 false false .none 0 0 0).cells 28)
  have HR : ((((W.alloc (.cells cf.cells 23)).alloc (.cells p.cells 28)).alloc (.cells (Pol.mk 0 0 0 0 0 0 0 0 0 0 false false .none 0 0 0).cells 28)).heap[W.heap.size + 1 + 1]? = some (.cells (Pol.mk 0 0 0 0 0 0 0 0 0 0 false false .none 0 0 0).cells 28)) := by
    have hsz : ((W.alloc (.cells cf.cells 23)).alloc (.cells p.cells 28)).heap.size = W.heap.size + 1 + 1 := by simp
    exact hsz ▸ blk_new ((W.alloc (.cells cf.cells 23)).alloc (.cells p.cells 28)) (.cells (Pol.mk 0 0 0 0 0 0 0 0 0 0 false false .none 0 0 0).cells 28)
  have hgr : W.heap.size ≤ W.heap.size + 1 + 1 := by omega
  have hgp : W.heap.size ≤ W.heap.size + 1 := by omega
  have hne : W.heap.size + 1 ≠ W.heap.size + 1 + 1 := by omega
  generalize W.heap.size + 1 + 1 = gr at *
  generalize W.heap.size + 1 = gp at *
  generalize ((W.alloc (.cells cf.cells 23)).alloc (.cells p.cells 28)).alloc (.cells (Pol.mk 0 0 0 0 0 0 0 0 0 0 false false .none 0 0 0).cells 28) = w0 at *
  have h0 : ∀ i, w0.drew.cell? ⟨gp, i, none⟩ = p.cells[i]? := fun i => blk_cell (w := w0.drew) HP i
  have hs0 : Aside0 (Below W.heap.size W w0.drew ∧ w0.drew.heap[gp]? = some (.cells p.cells 28 (0, 0)) ∧ w0.drew.heap[gr]? = some (.cells (Pol.mk 0 0 0 0 0 0 0 0 0 0 false false .none 0 0 0).cells 28 (0, 0))) := ⟨HB.drew, HP, HR⟩
  clear HB HP HR
  have hT0 := st28 hs0.out.2.1
  go_cut [] (fun wc => Aside0 (Below W.heap.size W wc ∧ wc.heap[gp]? = some (.cells ({ p with state := s1 } : Pol).cells 28 (0, 0)) ∧ wc.heap[gr]? = some (.cells (Pol.mk 0 0 0 0 0 0 0 0 0 0 false false .none 0 0 0).cells 28 (0, 0))))
  case first =>
    go_region_law (first
        | (go_simp; go_at_call 29; go_loud (refine (of_calls p _).mono ?_; rintro e w1 ⟨rfl, b1⟩; obtain ⟨k0, kT, kS⟩ := keepS b1 (by assumption) (by assumption)))
        | (go_simp; go_at_call 28; go_loud (refine (breaker_Send.calls _ _ _ _ _ _ _ _ HBS.out).mono ?_; rintro e w1 ⟨rfl, b1⟩; obtain ⟨k0, kT, kS⟩ := keepS b1 (by assumption) (by assumption)))
        | (go_simp; go_at_call 27; go_loud (refine (to_calls p _ _ _ _).mono ?_; rintro e w1 ⟨rfl, b1⟩; obtain ⟨k0, kT, kS⟩ := keepS b1 (by assumption) (by assumption))))
    all_goals
      go_wp2
      go_meet
      case rel => exact ⟨below_setRow kS.out.1 hgp, setRow_heap _ _ _ _ _ _ kS.out.2.1, (setRow_other _ _ _ _ hne.symm).trans kS.out.2.2⟩
  case rest =>
    clear h0 hs0 hT0
    obtain ⟨q1, hq1⟩ : ∃ q1 : Pol, q1 = { p with state := s1 } := ⟨_, rfl⟩
    rw [← hq1] at hcut
    have hc1 : ∀ i, wc.cell? ⟨gp, i, none⟩ = q1.cells[i]? := fun i => blk_cell hcut.out.2.1 i
    have hf1 : ∀ i, wc.frozen? ⟨gp, i, none⟩ = false := fun i => blk_frozen hcut.out.2.1 i
    go_upto_region 4 with (fail)
    have F1 := blk_put hcut.out.2.1 0 (.int .i64 now) (show q1.cells.setIfInBounds 0 (.int .i64 now) = ({ q1 with last := now } : Pol).cells from rfl)
    have F2 := blk_put F1 8 (.int .i64 (wrap64 (p.flying + 1))) (show ({ q1 with last := now } : Pol).cells.setIfInBounds 8 (.int .i64 (wrap64 (p.flying + 1))) = ({ q1 with last := now, flying := wrap64 (p.flying + 1) } : Pol).cells from rfl)
    have FB := (hcut.out.1.setCell (p := ⟨gp, 0, none⟩) hgp (.int .i64 now)).setCell (p := ⟨gp, 8, none⟩) hgp (.int .i64 (wrap64 (p.flying + 1)))
    have FR := blk_far (blk_far hcut.out.2.2 (p := ⟨gp, 0, none⟩) (by simpa using hne.symm) (.int .i64 now)) (p := ⟨gp, 8, none⟩) (by simpa using hne.symm) (.int .i64 (wrap64 (p.flying + 1)))
    clear hc1 hf1 hcut
    generalize (wc.setCell ⟨gp, 0, none⟩ (.int .i64 now)).setCell ⟨gp, 8, none⟩ (.int .i64 (wrap64 (p.flying + 1))) = w5 at *
    obtain ⟨q2, hq2⟩ : ∃ q2 : Pol, q2 = { q1 with last := now, flying := wrap64 (p.flying + 1) } := ⟨_, rfl⟩
    rw [← hq2] at F2
    have HQ := Aside0.mk (show sendP p now = q2 by rw [hq2, hq1]; exact HSP.out)
    have H5 := Aside0.mk (And.intro FB FR)
    have hc2 : ∀ i, w5.cell? ⟨gp, i, none⟩ = q2.cells[i]? := fun i => blk_cell F2 i
    have hT2 := st28 FR
    clear F1 F2 FB FR hq1 hq2 HSP HBS
    go_wp2
    exact bodyPost_ret (v := .agg q2.cells) (results_cell_row Try.results15 _ _ gr 28 q2.cells (0, 0) _ rfl (setRow_heap _ _ _ _ _ _ H5.out.2) Try.underlying28 rfl size28) rfl ⟨by rw [HQ.out], below_setRow H5.out.1 hgr⟩
end Go.Proofs.Ytdmebkdikminjaa.Given
