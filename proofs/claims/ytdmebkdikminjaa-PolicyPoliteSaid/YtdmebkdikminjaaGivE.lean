/- the document's landed, Send, fail, walked. -/
import Derived.Test.YtdmebkdikminjaaGivD
import Derived.Outline
namespace Go.Proofs.Ytdmebkdikminjaa.Given
open Go.RowKit Go.Proofs.Ytdmebkdikminjaa.QBase Go.Proofs.YtdmebkdikminjaaW.PrintWords Go.Proofs.YtdmebkdikminjaaW.PrintLast Go.Proofs.YtdmebkdikminjaaW.PrintMore
set_option linter.unusedVariables false
set_option linter.unusedSimpArgs false
attribute [local go_sem] max2_int min2_int max_two min_two max_three min_three max_four min_four
attribute [local go_sem high] foldE foldC
attribute [local go_sem] foldP mx_fold
attribute [local go_sem high] cc0 cc1 cc2 cc3 cc4 cc5 cc6 cc7 cc8 cc9 cc10 cc11 cc12 cc13 pc0 pc1 pc2 pc3 pc4 pc5 pc6 pc7 pc8 pc9 pc10 pc11 pc12 pc13 ps0 ps1 ps2 ps3 ps4 ps5 ps6 ps7 ps8 ps9 ps10 ps11 ps12 ps13 pcs ccs
theorem rup_eq' (e : Int) : decorumref18_Up.f e = some (upP e) := rup_eq e
theorem rjitP_eq (w d : Int) : decorumref18_Jitter.f w d = some (jitP w d) := rjit_eq w d
def cutF (n : Int) : Int := mn (mx n 0) 1099511627776
theorem cutF_bd (n : Int) : 0 ≤ cutF n ∧ cutF n ≤ 1099511627776 := by unfold cutF mx mn; omega
theorem cutF_eq (n : Int) : decorumref18_cut.f n 0 1099511627776 = some (cutF n) := by
  rw [cut_eq]; congr 1; unfold cutF mx mn; omega
theorem land_pos {p : Pol} (h : 0 < p.flying) : landP p = { p with flying := p.flying - 1 } := by
  have e : mx (p.flying - 1) 0 = p.flying - 1 := by unfold mx; omega
  unfold landP; rw [e]
theorem land_neg {p : Pol} (h : ¬ 0 < p.flying) : landP p = { p with flying := 0 } := by
  have e : mx (p.flying - 1) 0 = 0 := by unfold mx; omega
  unfold landP; rw [e]
theorem brk_fst {fails state till now most opn : Int} : (brkFail fails state till now most opn).1 = cutF fails + 1 := by
  unfold brkFail; simp only []; split <;> rfl
theorem brk_no {fails state till now most opn : Int} (h : state ≠ 2) (h' : ¬ mx most 1 ≤ cutF fails + 1) : brkFail fails state till now most opn = (cutF fails + 1, state, till) := by
  unfold brkFail; rw [if_neg]; · rfl
  · intro hh; rcases hh with hh | hh
    · exact h hh
    · exact h' hh
theorem brk_yes {fails state till now most opn : Int} (h : state = 2 ∨ mx most 1 ≤ cutF fails + 1) : brkFail fails state till now most opn = (cutF fails + 1, 1, mx till (ad now opn)) := by
  unfold brkFail; rw [if_pos]; · rfl
  · rcases h with h | h
    · exact .inl h
    · exact .inr h
set_option maxHeartbeats 8000000 in
set_option maxRecDepth 100000 in
theorem rleast_calls (cf : Cfg) (p : Pol) (W : World) : Calls Try.prog 31 #[.agg cf.cells, .agg p.cells] W fun e w' => e = .returned (.int .i64 (leastP cf p)) ∧ Below W.heap.size W w' := by
  go_enter Try.func31, Try.ntmps31
  go_wp2
  all_goals
    go_ret
    exact ⟨ret_int (by unfold leastP mx; omega), ((Below.refl _ _).alloc (Nat.le_refl _) _).alloc (by simp) _⟩
set_option maxHeartbeats 8000000 in
set_option maxRecDepth 100000 in
theorem landed_calls (p : Pol) (W : World) (hlo : -4611686018427387904 < p.flying) (hhi : p.flying < 4611686018427387904) : Calls Try.prog 34 #[.agg p.cells] W fun e w' => e = .returned (.agg (landP p).cells) ∧ Below W.heap.size W w' := by
  have HL1 := Aside0.mk (fun h => land_pos (p := p) h)
  have HL0 := Aside0.mk (fun h => land_neg (p := p) h)
  go_enter Try.func34, Try.ntmps34
  go_upto_region 1 with (fail)
  have H : Bk W ([(W.heap.size + 1, .cells (Pol.mk 0 0 0 0 0 0 0 0 0 0 false false .none 0 0 0).cells 28 (0, 0)), (W.heap.size, .cells p.cells 28 (0, 0))] : List (Nat × Obj)) ((W.alloc (.cells p.cells 28)).alloc (.cells (Pol.mk 0 0 0 0 0 0 0 0 0 0 false false .none 0 0 0).cells 28)) := by simpa using ((Bk.start W).alloc (.cells p.cells 28)).alloc (.cells (Pol.mk 0 0 0 0 0 0 0 0 0 0 false false .none 0 0 0).cells 28)
  have hlb1 : W.heap.size ≤ W.heap.size := by omega
  have hnb1b2 : W.heap.size ≠ W.heap.size + 1 := by omega
  have hlb2 : W.heap.size ≤ W.heap.size + 1 := by omega
  have hnb2b1 : W.heap.size + 1 ≠ W.heap.size := by omega
  generalize W.heap.size + 1 = b2 at *
  generalize ((W.alloc (.cells p.cells 28)).alloc (.cells (Pol.mk 0 0 0 0 0 0 0 0 0 0 false false .none 0 0 0).cells 28)) = w at *
  have hc : ∀ i, w.cell? ⟨W.heap.size, i, none⟩ = p.cells[i]? := fun i => H.cell (.tail _ (.head _)) i
  have hf : ∀ i, w.frozen? ⟨W.heap.size, i, none⟩ = false := fun i => H.free (.tail _ (.head _)) i
  by_cases h : 0 < p.flying
  · have Hh := Aside0.mk h
    go_upto_region 4 with (fail)
    have H2 := (Bk.put [(b2, .cells (Pol.mk 0 0 0 0 0 0 0 0 0 0 false false .none 0 0 0).cells 28 (0, 0))] [] (cs' := ({ p with flying := (p.flying - 1) } : Pol).cells) H hlb1 (by intro y hy; simp only [List.cons_append, List.nil_append, List.mem_cons, List.not_mem_nil, or_false] at hy; rcases hy with rfl <;> assumption) 8 (.int .i64 (p.flying - 1)) rfl)
    generalize (w.setCell ⟨W.heap.size, 8, none⟩ (.int .i64 (p.flying - 1))) = w2 at *
    clear hc hf H
    try clear x
    have H := H2; clear H2
    generalize hq1 : ({ p with flying := (p.flying - 1) } : Pol) = q1 at *
    have Hq1 := Aside0.mk hq1
    clear hq1
    have hc5 : ∀ i, w2.cell? ⟨W.heap.size, i, none⟩ = q1.cells[i]? := fun i => H.cell (.tail _ (.head _)) i
    have hT := st28 (H.get (.head _))
    go_wp2
    refine bodyPost_ret (v := .agg q1.cells) (results_cell_row Try.results34 _ _ b2 28 q1.cells (0, 0) _ rfl (setRow_heap _ _ _ _ _ _ (H.get (.head _))) Try.underlying28 rfl size28) rfl ⟨?_, below_setRow H.1 hlb2⟩
    rw [HL1.out Hh.out]
  · have Hh := Aside0.mk h
    go_upto_region 4 with (fail)
    have H2 := (Bk.put [(b2, .cells (Pol.mk 0 0 0 0 0 0 0 0 0 0 false false .none 0 0 0).cells 28 (0, 0))] [] (cs' := ({ p with flying := 0 } : Pol).cells) H hlb1 (by intro y hy; simp only [List.cons_append, List.nil_append, List.mem_cons, List.not_mem_nil, or_false] at hy; rcases hy with rfl <;> assumption) 8 (.int .i64 0) rfl)
    generalize (w.setCell ⟨W.heap.size, 8, none⟩ (.int .i64 0)) = w2 at *
    clear hc hf H
    try clear x
    have H := H2; clear H2
    generalize hq1 : ({ p with flying := 0 } : Pol) = q1 at *
    have Hq1 := Aside0.mk hq1
    clear hq1
    have hc5 : ∀ i, w2.cell? ⟨W.heap.size, i, none⟩ = q1.cells[i]? := fun i => H.cell (.tail _ (.head _)) i
    have hT := st28 (H.get (.head _))
    go_wp2
    refine bodyPost_ret (v := .agg q1.cells) (results_cell_row Try.results34 _ _ b2 28 q1.cells (0, 0) _ rfl (setRow_heap _ _ _ _ _ _ (H.get (.head _))) Try.underlying28 rfl size28) rfl ⟨?_, below_setRow H.1 hlb2⟩
    rw [HL0.out Hh.out]
set_option maxHeartbeats 8000000 in
set_option maxRecDepth 100000 in
theorem rsend_calls (p : Pol) (now : Int) (W : World) : Calls Try.prog 16 #[.agg p.cells, .int .i64 now] W fun e w' => e = .returned (.agg (sendP p now).cells) ∧ Below W.heap.size W w' := by
  go_enter Try.func16, Try.ntmps16
  go_upto_region 1 with (fail)
  have H : Bk W ([(W.heap.size + 1, .cells (Pol.mk 0 0 0 0 0 0 0 0 0 0 false false .none 0 0 0).cells 28 (0, 0)), (W.heap.size, .cells p.cells 28 (0, 0))] : List (Nat × Obj)) ((W.alloc (.cells p.cells 28)).alloc (.cells (Pol.mk 0 0 0 0 0 0 0 0 0 0 false false .none 0 0 0).cells 28)) := by simpa using ((Bk.start W).alloc (.cells p.cells 28)).alloc (.cells (Pol.mk 0 0 0 0 0 0 0 0 0 0 false false .none 0 0 0).cells 28)
  have hlb2 : W.heap.size ≤ W.heap.size := by omega
  have hnb2b4 : W.heap.size ≠ W.heap.size + 1 := by omega
  have hlb4 : W.heap.size ≤ W.heap.size + 1 := by omega
  have hnb4b2 : W.heap.size + 1 ≠ W.heap.size := by omega
  generalize W.heap.size + 1 = b4 at *
  generalize ((W.alloc (.cells p.cells 28)).alloc (.cells (Pol.mk 0 0 0 0 0 0 0 0 0 0 false false .none 0 0 0).cells 28)) = w at *
  have hc : ∀ i, w.cell? ⟨W.heap.size, i, none⟩ = p.cells[i]? := fun i => H.cell (.tail _ (.head _)) i
  have hf : ∀ i, w.frozen? ⟨W.heap.size, i, none⟩ = false := fun i => H.free (.tail _ (.head _)) i
  rcases (by omega : (p.state = 1 ∧ p.till ≤ now) ∨ (p.state = 1 ∧ ¬ p.till ≤ now) ∨ p.state ≠ 1) with h | h | h
  · have Hh := Aside0.mk h
    have h1 : (p.state == 1) = true := by simp [h.1]
    have h2 := h.2
    clear h
    go_upto_region 5 with (fail)
    clear h1 h2
    have H2 := (Bk.put [(b4, .cells (Pol.mk 0 0 0 0 0 0 0 0 0 0 false false .none 0 0 0).cells 28 (0, 0))] [] (cs' := ({ p with state := 2, last := now, flying := wrap64 (p.flying + 1) } : Pol).cells) (Bk.put [(b4, .cells (Pol.mk 0 0 0 0 0 0 0 0 0 0 false false .none 0 0 0).cells 28 (0, 0))] [] (cs' := ({ p with state := 2, last := now } : Pol).cells) (Bk.put [(b4, .cells (Pol.mk 0 0 0 0 0 0 0 0 0 0 false false .none 0 0 0).cells 28 (0, 0))] [] (cs' := ({ p with state := 2 } : Pol).cells) H hlb2 (by intro y hy; simp only [List.cons_append, List.nil_append, List.mem_cons, List.not_mem_nil, or_false] at hy; rcases hy with rfl <;> assumption) 4 (.int .i64 2) rfl) hlb2 (by intro y hy; simp only [List.cons_append, List.nil_append, List.mem_cons, List.not_mem_nil, or_false] at hy; rcases hy with rfl <;> assumption) 0 (.int .i64 now) rfl) hlb2 (by intro y hy; simp only [List.cons_append, List.nil_append, List.mem_cons, List.not_mem_nil, or_false] at hy; rcases hy with rfl <;> assumption) 8 (.int .i64 (wrap64 (p.flying + 1))) rfl)
    generalize (((w.setCell ⟨W.heap.size, 4, none⟩ (.int .i64 2)).setCell ⟨W.heap.size, 0, none⟩ (.int .i64 now)).setCell ⟨W.heap.size, 8, none⟩ (.int .i64 (wrap64 (p.flying + 1)))) = w2 at *
    clear hc hf H
    try clear x
    have H := H2; clear H2
    generalize hq1 : ({ p with state := 2, last := now, flying := wrap64 (p.flying + 1) } : Pol) = q1 at *
    have Hq1 := Aside0.mk hq1
    clear hq1
    have hc5 : ∀ i, w2.cell? ⟨W.heap.size, i, none⟩ = q1.cells[i]? := fun i => H.cell (.tail _ (.head _)) i
    have hT := st28 (H.get (.head _))
    go_wp2
    refine bodyPost_ret (v := .agg q1.cells) (results_cell_row Try.results16 _ _ b4 28 q1.cells (0, 0) _ rfl (setRow_heap _ _ _ _ _ _ (H.get (.head _))) Try.underlying28 rfl size28) rfl ⟨?_, below_setRow H.1 hlb4⟩
    rw [← Hq1.out]; unfold sendP; rw [if_pos ⟨Hh.out.1, Hh.out.2⟩]
  · have Hh := Aside0.mk h
    have h1 : (p.state == 1) = true := by simp [h.1]
    have h2 := h.2
    clear h
    go_upto_region 5 with (fail)
    clear h1 h2
    have H2 := (Bk.put [(b4, .cells (Pol.mk 0 0 0 0 0 0 0 0 0 0 false false .none 0 0 0).cells 28 (0, 0))] [] (cs' := ({ p with last := now, flying := wrap64 (p.flying + 1) } : Pol).cells) (Bk.put [(b4, .cells (Pol.mk 0 0 0 0 0 0 0 0 0 0 false false .none 0 0 0).cells 28 (0, 0))] [] (cs' := ({ p with last := now } : Pol).cells) H hlb2 (by intro y hy; simp only [List.cons_append, List.nil_append, List.mem_cons, List.not_mem_nil, or_false] at hy; rcases hy with rfl <;> assumption) 0 (.int .i64 now) rfl) hlb2 (by intro y hy; simp only [List.cons_append, List.nil_append, List.mem_cons, List.not_mem_nil, or_false] at hy; rcases hy with rfl <;> assumption) 8 (.int .i64 (wrap64 (p.flying + 1))) rfl)
    generalize ((w.setCell ⟨W.heap.size, 0, none⟩ (.int .i64 now)).setCell ⟨W.heap.size, 8, none⟩ (.int .i64 (wrap64 (p.flying + 1)))) = w2 at *
    clear hc hf H
    try clear x
    have H := H2; clear H2
    generalize hq1 : ({ p with last := now, flying := wrap64 (p.flying + 1) } : Pol) = q1 at *
    have Hq1 := Aside0.mk hq1
    clear hq1
    have hc5 : ∀ i, w2.cell? ⟨W.heap.size, i, none⟩ = q1.cells[i]? := fun i => H.cell (.tail _ (.head _)) i
    have hT := st28 (H.get (.head _))
    go_wp2
    refine bodyPost_ret (v := .agg q1.cells) (results_cell_row Try.results16 _ _ b4 28 q1.cells (0, 0) _ rfl (setRow_heap _ _ _ _ _ _ (H.get (.head _))) Try.underlying28 rfl size28) rfl ⟨?_, below_setRow H.1 hlb4⟩
    rw [← Hq1.out]; unfold sendP; rw [if_neg (fun hh => absurd hh.2 (by have := Hh.out.2; omega))]
  · have Hh := Aside0.mk h
    have h1 : (p.state == 1) = false := by simp [h]
    clear h
    go_upto_region 5 with (fail)
    clear h1
    have H2 := (Bk.put [(b4, .cells (Pol.mk 0 0 0 0 0 0 0 0 0 0 false false .none 0 0 0).cells 28 (0, 0))] [] (cs' := ({ p with last := now, flying := wrap64 (p.flying + 1) } : Pol).cells) (Bk.put [(b4, .cells (Pol.mk 0 0 0 0 0 0 0 0 0 0 false false .none 0 0 0).cells 28 (0, 0))] [] (cs' := ({ p with last := now } : Pol).cells) H hlb2 (by intro y hy; simp only [List.cons_append, List.nil_append, List.mem_cons, List.not_mem_nil, or_false] at hy; rcases hy with rfl <;> assumption) 0 (.int .i64 now) rfl) hlb2 (by intro y hy; simp only [List.cons_append, List.nil_append, List.mem_cons, List.not_mem_nil, or_false] at hy; rcases hy with rfl <;> assumption) 8 (.int .i64 (wrap64 (p.flying + 1))) rfl)
    generalize ((w.setCell ⟨W.heap.size, 0, none⟩ (.int .i64 now)).setCell ⟨W.heap.size, 8, none⟩ (.int .i64 (wrap64 (p.flying + 1)))) = w2 at *
    clear hc hf H
    try clear x
    have H := H2; clear H2
    generalize hq1 : ({ p with last := now, flying := wrap64 (p.flying + 1) } : Pol) = q1 at *
    have Hq1 := Aside0.mk hq1
    clear hq1
    have hc5 : ∀ i, w2.cell? ⟨W.heap.size, i, none⟩ = q1.cells[i]? := fun i => H.cell (.tail _ (.head _)) i
    have hT := st28 (H.get (.head _))
    go_wp2
    refine bodyPost_ret (v := .agg q1.cells) (results_cell_row Try.results16 _ _ b4 28 q1.cells (0, 0) _ rfl (setRow_heap _ _ _ _ _ _ (H.get (.head _))) Try.underlying28 rfl size28) rfl ⟨?_, below_setRow H.1 hlb4⟩
    rw [← Hq1.out]; unfold sendP; rw [if_neg (fun hh => Hh.out hh.1)]
set_option maxHeartbeats 8000000 in
set_option maxRecDepth 100000 in
theorem rfail_calls (cf : Cfg) (p : Pol) (now draw : Int) (W : World) : Calls Try.prog 35 #[.agg cf.cells, .agg p.cells, .int .i64 now, .int .i64 draw] W fun e w' => e = .returned (.agg (failP cf p now draw).cells) ∧ Below W.heap.size W w' := by
  have hF := cutF_bd p.fails
  obtain ⟨f1, s1, t1, hb⟩ : ∃ f1 s1 t1, brkFail p.fails p.state p.till now cf.brk cf.opn = (f1, s1, t1) := ⟨_, _, _, rfl⟩
  have HBF := Aside0.mk hb
  clear hb
  go_enter Try.func35, Try.ntmps35
  go_upto_region 1 with (fail)
  have H : Bk W ([(W.heap.size + 1 + 1, .cells (Pol.mk 0 0 0 0 0 0 0 0 0 0 false false .none 0 0 0).cells 28 (0, 0)), (W.heap.size + 1, .cells p.cells 28 (0, 0)), (W.heap.size, .cells cf.cells 23 (0, 0))] : List (Nat × Obj)) (((W.alloc (.cells cf.cells 23)).alloc (.cells p.cells 28)).alloc (.cells (Pol.mk 0 0 0 0 0 0 0 0 0 0 false false .none 0 0 0).cells 28)) := by simpa using (((Bk.start W).alloc (.cells cf.cells 23)).alloc (.cells p.cells 28)).alloc (.cells (Pol.mk 0 0 0 0 0 0 0 0 0 0 false false .none 0 0 0).cells 28)
  have hlb4 : W.heap.size ≤ W.heap.size := by omega
  have hnb4b5 : W.heap.size ≠ W.heap.size + 1 := by omega
  have hnb4b8 : W.heap.size ≠ W.heap.size + 1 + 1 := by omega
  have hlb5 : W.heap.size ≤ W.heap.size + 1 := by omega
  have hnb5b4 : W.heap.size + 1 ≠ W.heap.size := by omega
  have hnb5b8 : W.heap.size + 1 ≠ W.heap.size + 1 + 1 := by omega
  have hlb8 : W.heap.size ≤ W.heap.size + 1 + 1 := by omega
  have hnb8b4 : W.heap.size + 1 + 1 ≠ W.heap.size := by omega
  have hnb8b5 : W.heap.size + 1 + 1 ≠ W.heap.size + 1 := by omega
  generalize W.heap.size + 1 + 1 = b8 at *
  generalize W.heap.size + 1 = b5 at *
  generalize (((W.alloc (.cells cf.cells 23)).alloc (.cells p.cells 28)).alloc (.cells (Pol.mk 0 0 0 0 0 0 0 0 0 0 false false .none 0 0 0).cells 28)) = w at *
  have hcb5 : ∀ (x : Kp (Bk W [(b8, .cells (Pol.mk 0 0 0 0 0 0 0 0 0 0 false false .none 0 0 0).cells 28 (0, 0)), (b5, .cells p.cells 28 (0, 0)), (W.heap.size, .cells cf.cells 23 (0, 0))])) i, x.w.cell? ⟨b5, i, none⟩ = (p.cells)[i]? := fun x i => x.h.cell (.tail _ (.head _)) i
  have hfb5 : ∀ (x : Kp (Bk W [(b8, .cells (Pol.mk 0 0 0 0 0 0 0 0 0 0 false false .none 0 0 0).cells 28 (0, 0)), (b5, .cells p.cells 28 (0, 0)), (W.heap.size, .cells cf.cells 23 (0, 0))])) i, x.w.frozen? ⟨b5, i, none⟩ = false := fun x i => x.h.free (.tail _ (.head _)) i
  have hN : Nonempty (Kp (Bk W [(b8, .cells (Pol.mk 0 0 0 0 0 0 0 0 0 0 false false .none 0 0 0).cells 28 (0, 0)), (b5, .cells p.cells 28 (0, 0)), (W.heap.size, .cells cf.cells 23 (0, 0))])) := ⟨⟨_, H⟩⟩
  refine Calm.plain (fun w' => ∃ x : Kp (Bk W [(b8, .cells (Pol.mk 0 0 0 0 0 0 0 0 0 0 false false .none 0 0 0).cells 28 (0, 0)), (b5, .cells p.cells 28 (0, 0)), (W.heap.size, .cells cf.cells 23 (0, 0))]), w' = x.w) 5 ⟨⟨_, H⟩, rfl⟩ ?_
  simp only [List.take_succ_cons, List.take_zero, List.drop_succ_cons, List.drop_zero]
  repeat (first | go_big_quiet_skip | (go_big_quiet_want; (first | refine quiet_p b5 p (fun y => y.h.get (.tail _ (.head _))) rfl rfl ?_); simp only [Act.put, List.setIfInBounds_toArray, List.set_cons_succ, List.set_cons_zero]; go_big_quiet_on) | (go_big_quiet_want; go_big_quiet_op; first | go_big_quiet_on | go_big_quiet_call ((go_at_call 42; exact Bk.calld (Kp.h _) (decorumref18_cut.calls _ _ _ _ _ (cutF_eq _))))))
  refine wpQuiet_nil ?_
  rintro _ ⟨x, rfl⟩
  go_upto_region 2 with (fail)
  have H2 := (Bk.put [(b8, .cells (Pol.mk 0 0 0 0 0 0 0 0 0 0 false false .none 0 0 0).cells 28 (0, 0))] [(W.heap.size, .cells cf.cells 23 (0, 0))] (cs' := ({ p with fails := cutF p.fails + 1 } : Pol).cells) x.h hlb5 (by intro y hy; simp only [List.cons_append, List.nil_append, List.mem_cons, List.not_mem_nil, or_false] at hy; rcases hy with rfl | rfl <;> assumption) 3 (.int .i64 (cutF p.fails + 1)) rfl)
  generalize (x.w.setCell ⟨b5, 3, none⟩ (.int .i64 (cutF p.fails + 1))) = w2 at *
  clear hcb5 hfb5 hN H
  try clear x
  have H := H2; clear H2
  generalize hq1 : ({ p with fails := cutF p.fails + 1 } : Pol) = q1 at *
  have Hq1 := Aside0.mk hq1
  clear hq1
  have e1 : q1.fails = cutF p.fails + 1 := by rw [← Hq1.out]
  have e2 : q1.state = p.state := by rw [← Hq1.out]
  have e3 : q1.till = p.till := by rw [← Hq1.out]
  have E := Aside0.mk (And.intro e1 (And.intro e2 e3))
  clear e1 e2 e3 hF
  have gcb4 : ∀ i, w2.cell? ⟨W.heap.size, i, none⟩ = (cf.cells)[i]? := fun i => H.cell (.tail _ (.tail _ (.head _))) i
  go_upto_if 20 with (fail)
  go_cut [9] (fun v w' => v = .int .i64 (mx cf.brk 1) ∧ Aside0 (w' = w2))
  case first =>
    by_cases h : cf.brk < 1
    · have e : mx cf.brk 1 = 1 := by unfold mx; omega
      go_wp2; go_meet
      case rel => exact ⟨by rw [e], ⟨rfl⟩⟩
    · have e : mx cf.brk 1 = cf.brk := by unfold mx; omega
      go_wp2; go_meet
      case rel => exact ⟨by rw [e], ⟨rfl⟩⟩
  case rest =>
    obtain ⟨rfl, ⟨ew⟩⟩ := hcut
    subst ew
    obtain ⟨B, hB⟩ : ∃ B, B = mx cf.brk 1 := ⟨_, rfl⟩
    rw [← hB]
    have HB := Aside0.mk hB
    clear hB gcb4
    have gcb4 : ∀ i, wc.cell? ⟨W.heap.size, i, none⟩ = (cf.cells)[i]? := fun i => H.cell (.tail _ (.tail _ (.head _))) i
    have gcb5 : ∀ i, wc.cell? ⟨b5, i, none⟩ = (q1.cells)[i]? := fun i => H.cell (.tail _ (.head _)) i
    have gfb5 : ∀ i, wc.frozen? ⟨b5, i, none⟩ = false := fun i => H.free (.tail _ (.head _)) i
    go_upto_region 5 with (fail)
    obtain ⟨b, hb⟩ : ∃ b, b = decide (q1.state = 2 ∨ B ≤ q1.fails) := ⟨_, rfl⟩
    have Hb := Aside0.mk hb; clear hb
    go_cut [29] (fun v w' => v = .bool b ∧ Aside0 (w' = wc))
    case first =>
      by_cases h : q1.state = 2
      · have h1 : (q1.state == 2) = true := by simp [h]
        have Hh := Aside0.mk h; clear h
        go_wp2; go_meet
        case rel => exact ⟨by rw [Hb.out, decide_eq_true (Or.inl Hh.out)], ⟨rfl⟩⟩
      · have h1 : (q1.state == 2) = false := by simp [h]
        have Hh := Aside0.mk h; clear h
        go_wp2; go_meet
        case rel => exact ⟨by rw [Hb.out]; congr 1; have := Hh.out; simp [this], ⟨rfl⟩⟩
    case rest =>
      rename_i wd
      obtain ⟨rfl, ⟨ew⟩⟩ := hcut
      subst ew
      go_upto_if 29 with (fail)
      go_cut [10] (fun v w' => Aside0 (Bk W [(b8, .cells (Pol.mk 0 0 0 0 0 0 0 0 0 0 false false .none 0 0 0).cells 28 (0, 0)), (b5, .cells ({ q1 with state := s1, till := t1 } : Pol).cells 28 (0, 0)), (W.heap.size, .cells cf.cells 23 (0, 0))] w'))
      case first =>
        have hyes : (p.state = 2 ∨ mx cf.brk 1 ≤ cutF p.fails + 1) → s1 = 1 ∧ t1 = mx p.till (ad now cf.opn) := fun h => by have := HBF.out; rw [brk_yes h] at this; simp only [Prod.mk.injEq] at this; exact ⟨this.2.1.symm, this.2.2.symm⟩
        have hno : p.state ≠ 2 → ¬ mx cf.brk 1 ≤ cutF p.fails + 1 → s1 = p.state ∧ t1 = p.till := fun h h' => by have := HBF.out; rw [brk_no h h'] at this; simp only [Prod.mk.injEq] at this; exact ⟨this.2.1.symm, this.2.2.symm⟩
        rw [← HB.out, ← E.out.1, ← E.out.2.1, ← E.out.2.2] at hyes hno
        have HY := Aside0.mk hyes
        have HN := Aside0.mk hno
        clear hyes hno
        rcases (by omega : q1.state = 2 ∨ (q1.state ≠ 2 ∧ B ≤ q1.fails) ∨ (q1.state ≠ 2 ∧ ¬ B ≤ q1.fails)) with h | h | h
        · have Hh := Aside0.mk h
          have h1 : b = true := by rw [Hb.out]; exact decide_eq_true (Or.inl h)
          subst h1
          clear h
          obtain ⟨e1, e2⟩ := HY.out (.inl Hh.out)
          subst e1; have HE := Aside0.mk e2; clear e2
          go_upto_region 7 with (fail)
          have H2 := (Bk.put [(b8, .cells (Pol.mk 0 0 0 0 0 0 0 0 0 0 false false .none 0 0 0).cells 28 (0, 0))] [(W.heap.size, .cells cf.cells 23 (0, 0))] (cs' := ({ q1 with state := 1 } : Pol).cells) H hlb5 (by intro y hy; simp only [List.cons_append, List.nil_append, List.mem_cons, List.not_mem_nil, or_false] at hy; rcases hy with rfl | rfl <;> assumption) 4 (.int .i64 1) rfl)
          generalize (wc.setCell ⟨b5, 4, none⟩ (.int .i64 1)) = w2 at *
          clear gcb4 gcb5 gfb5 H
          try clear x
          have H := H2; clear H2
          generalize hq2 : ({ q1 with state := 1 } : Pol) = q2 at *
          have Hq2 := Aside0.mk hq2
          clear hq2
          have e4 : q2.till = q1.till := by rw [← Hq2.out]
          have HE4 := Aside0.mk e4; clear e4
          have gcb4 : ∀ i, w2.cell? ⟨W.heap.size, i, none⟩ = (cf.cells)[i]? := fun i => H.cell (.tail _ (.tail _ (.head _))) i
          have gcb5 : ∀ i, w2.cell? ⟨b5, i, none⟩ = (q2.cells)[i]? := fun i => H.cell (.tail _ (.head _)) i
          have gfb5 : ∀ i, w2.frozen? ⟨b5, i, none⟩ = false := fun i => H.free (.tail _ (.head _)) i
          go_upto_if 38 with (go_at_call 26; refine (decorumref01_Add.calls 1 _ _ _ _ (radd_eq 1 _ _ (by decide))).mono ?_; rintro e wd ⟨rfl, ⟨nd, rfl⟩⟩)
          by_cases h : q2.till < ad now cf.opn
          · go_wp2
            go_meet
            case rel =>
              refine ⟨?_⟩
              have e : t1 = ad now cf.opn := by rw [HE.out, ← HE4.out]; unfold mx; omega
              rw [e]
              have H2 := Bk.put [(b8, .cells (Pol.mk 0 0 0 0 0 0 0 0 0 0 false false .none 0 0 0).cells 28 (0, 0))] [(W.heap.size, .cells cf.cells 23 (0, 0))] (cs' := ({ q1 with state := 1, till := ad now cf.opn } : Pol).cells) (⟨⟨H.1.os, H.1.tape, H.1.output, H.1.size, H.1.block⟩, H.2⟩ : Bk W [(b8, .cells (Pol.mk 0 0 0 0 0 0 0 0 0 0 false false .none 0 0 0).cells 28 (0, 0)), (b5, .cells q2.cells 28 (0, 0)), (W.heap.size, .cells cf.cells 23 (0, 0))] (w2.drewN nd)) hlb5 (by intro y hy; simp only [List.cons_append, List.nil_append, List.mem_cons, List.not_mem_nil, or_false] at hy; rcases hy with rfl | rfl <;> assumption) 5 (.int .i64 (ad now cf.opn)) (by rw [← Hq2.out]; rfl)
              exact H2
          · go_wp2
            go_meet
            case rel =>
              refine ⟨?_⟩
              have e : t1 = q2.till := by rw [HE.out, ← HE4.out]; unfold mx; omega
              have e2 : ({ q1 with state := 1, till := t1 } : Pol) = q2 := by rw [e, ← Hq2.out]
              rw [e2]
              exact ⟨⟨H.1.os, H.1.tape, H.1.output, H.1.size, H.1.block⟩, H.2⟩
        · have Hh := Aside0.mk h
          have h1 : b = true := by rw [Hb.out]; exact decide_eq_true (Or.inr h.2)
          subst h1
          clear h
          obtain ⟨e1, e2⟩ := HY.out (.inr Hh.out.2)
          subst e1; have HE := Aside0.mk e2; clear e2
          go_upto_region 7 with (fail)
          have H2 := (Bk.put [(b8, .cells (Pol.mk 0 0 0 0 0 0 0 0 0 0 false false .none 0 0 0).cells 28 (0, 0))] [(W.heap.size, .cells cf.cells 23 (0, 0))] (cs' := ({ q1 with state := 1 } : Pol).cells) H hlb5 (by intro y hy; simp only [List.cons_append, List.nil_append, List.mem_cons, List.not_mem_nil, or_false] at hy; rcases hy with rfl | rfl <;> assumption) 4 (.int .i64 1) rfl)
          generalize (wc.setCell ⟨b5, 4, none⟩ (.int .i64 1)) = w2 at *
          clear gcb4 gcb5 gfb5 H
          try clear x
          have H := H2; clear H2
          generalize hq2 : ({ q1 with state := 1 } : Pol) = q2 at *
          have Hq2 := Aside0.mk hq2
          clear hq2
          have e4 : q2.till = q1.till := by rw [← Hq2.out]
          have HE4 := Aside0.mk e4; clear e4
          have gcb4 : ∀ i, w2.cell? ⟨W.heap.size, i, none⟩ = (cf.cells)[i]? := fun i => H.cell (.tail _ (.tail _ (.head _))) i
          have gcb5 : ∀ i, w2.cell? ⟨b5, i, none⟩ = (q2.cells)[i]? := fun i => H.cell (.tail _ (.head _)) i
          have gfb5 : ∀ i, w2.frozen? ⟨b5, i, none⟩ = false := fun i => H.free (.tail _ (.head _)) i
          go_upto_if 38 with (go_at_call 26; refine (decorumref01_Add.calls 1 _ _ _ _ (radd_eq 1 _ _ (by decide))).mono ?_; rintro e wd ⟨rfl, ⟨nd, rfl⟩⟩)
          by_cases h : q2.till < ad now cf.opn
          · go_wp2
            go_meet
            case rel =>
              refine ⟨?_⟩
              have e : t1 = ad now cf.opn := by rw [HE.out, ← HE4.out]; unfold mx; omega
              rw [e]
              have H2 := Bk.put [(b8, .cells (Pol.mk 0 0 0 0 0 0 0 0 0 0 false false .none 0 0 0).cells 28 (0, 0))] [(W.heap.size, .cells cf.cells 23 (0, 0))] (cs' := ({ q1 with state := 1, till := ad now cf.opn } : Pol).cells) (⟨⟨H.1.os, H.1.tape, H.1.output, H.1.size, H.1.block⟩, H.2⟩ : Bk W [(b8, .cells (Pol.mk 0 0 0 0 0 0 0 0 0 0 false false .none 0 0 0).cells 28 (0, 0)), (b5, .cells q2.cells 28 (0, 0)), (W.heap.size, .cells cf.cells 23 (0, 0))] (w2.drewN nd)) hlb5 (by intro y hy; simp only [List.cons_append, List.nil_append, List.mem_cons, List.not_mem_nil, or_false] at hy; rcases hy with rfl | rfl <;> assumption) 5 (.int .i64 (ad now cf.opn)) (by rw [← Hq2.out]; rfl)
              exact H2
          · go_wp2
            go_meet
            case rel =>
              refine ⟨?_⟩
              have e : t1 = q2.till := by rw [HE.out, ← HE4.out]; unfold mx; omega
              have e2 : ({ q1 with state := 1, till := t1 } : Pol) = q2 := by rw [e, ← Hq2.out]
              rw [e2]
              exact ⟨⟨H.1.os, H.1.tape, H.1.output, H.1.size, H.1.block⟩, H.2⟩
        · have Hh := Aside0.mk h
          have h1 : b = false := by rw [Hb.out]; exact decide_eq_false (fun hh => hh.elim h.1 h.2)
          subst h1
          clear h
          go_wp2
          go_meet
          case rel =>
            obtain ⟨e1, e2⟩ := HN.out Hh.out.1 Hh.out.2
            subst e1 e2; exact ⟨H⟩
      case rest =>
        clear H gcb4 gcb5 gfb5
        have H := hcut.out; clear hcut
        go_upto_region 10 with (fail)
        generalize hq2 : ({ q1 with state := s1, till := t1 } : Pol) = q2 at *
        have Hq2 := Aside0.mk hq2
        clear hq2
        have hcb5 : ∀ (x : Kp (Bk W [(b8, .cells (Pol.mk 0 0 0 0 0 0 0 0 0 0 false false .none 0 0 0).cells 28 (0, 0)), (b5, .cells q2.cells 28 (0, 0)), (W.heap.size, .cells cf.cells 23 (0, 0))])) i, x.w.cell? ⟨b5, i, none⟩ = (q2.cells)[i]? := fun x i => x.h.cell (.tail _ (.head _)) i
        have hfb5 : ∀ (x : Kp (Bk W [(b8, .cells (Pol.mk 0 0 0 0 0 0 0 0 0 0 false false .none 0 0 0).cells 28 (0, 0)), (b5, .cells q2.cells 28 (0, 0)), (W.heap.size, .cells cf.cells 23 (0, 0))])) i, x.w.frozen? ⟨b5, i, none⟩ = false := fun x i => x.h.free (.tail _ (.head _)) i
        have hN : Nonempty (Kp (Bk W [(b8, .cells (Pol.mk 0 0 0 0 0 0 0 0 0 0 false false .none 0 0 0).cells 28 (0, 0)), (b5, .cells q2.cells 28 (0, 0)), (W.heap.size, .cells cf.cells 23 (0, 0))])) := ⟨⟨_, H⟩⟩
        refine Calm.plain (fun w' => ∃ x : Kp (Bk W [(b8, .cells (Pol.mk 0 0 0 0 0 0 0 0 0 0 false false .none 0 0 0).cells 28 (0, 0)), (b5, .cells q2.cells 28 (0, 0)), (W.heap.size, .cells cf.cells 23 (0, 0))]), w' = x.w) 4 ⟨⟨_, H⟩, rfl⟩ ?_
        simp only [List.take_succ_cons, List.take_zero, List.drop_succ_cons, List.drop_zero]
        repeat (first | go_big_quiet_skip | (go_big_quiet_want; (first | refine quiet_p b5 q2 (fun y => y.h.get (.tail _ (.head _))) rfl rfl ?_); simp only [Act.put, List.setIfInBounds_toArray, List.set_cons_succ, List.set_cons_zero]; go_big_quiet_on) | (go_big_quiet_want; go_big_quiet_op; first | go_big_quiet_on | go_big_quiet_call ((go_at_call 43; exact Bk.calld (Kp.h _) (decorumref18_Up.calls _ _ _ (rup_eq' _))))))
        refine wpQuiet_nil ?_
        rintro _ ⟨x, rfl⟩
        go_upto_region 11 with (fail)
        have H2 := (Bk.put [(b8, .cells (Pol.mk 0 0 0 0 0 0 0 0 0 0 false false .none 0 0 0).cells 28 (0, 0))] [(W.heap.size, .cells cf.cells 23 (0, 0))] (cs' := ({ q2 with exp := upP q2.exp } : Pol).cells) x.h hlb5 (by intro y hy; simp only [List.cons_append, List.nil_append, List.mem_cons, List.not_mem_nil, or_false] at hy; rcases hy with rfl | rfl <;> assumption) 2 (.int .i64 (upP q2.exp)) rfl)
        generalize (x.w.setCell ⟨b5, 2, none⟩ (.int .i64 (upP q2.exp))) = w2 at *
        clear hcb5 hfb5 hN H
        try clear x
        have H := H2; clear H2
        generalize hq3 : ({ q2 with exp := upP q2.exp } : Pol) = q3 at *
        have Hq3 := Aside0.mk hq3
        clear hq3
        have hcb4 : ∀ (x : Kp (Bk W [(b8, .cells (Pol.mk 0 0 0 0 0 0 0 0 0 0 false false .none 0 0 0).cells 28 (0, 0)), (b5, .cells q3.cells 28 (0, 0)), (W.heap.size, .cells cf.cells 23 (0, 0))])) i, x.w.cell? ⟨W.heap.size, i, none⟩ = (cf.cells)[i]? := fun x i => x.h.cell (.tail _ (.tail _ (.head _))) i
        have hcb5 : ∀ (x : Kp (Bk W [(b8, .cells (Pol.mk 0 0 0 0 0 0 0 0 0 0 false false .none 0 0 0).cells 28 (0, 0)), (b5, .cells q3.cells 28 (0, 0)), (W.heap.size, .cells cf.cells 23 (0, 0))])) i, x.w.cell? ⟨b5, i, none⟩ = (q3.cells)[i]? := fun x i => x.h.cell (.tail _ (.head _)) i
        have hfb5 : ∀ (x : Kp (Bk W [(b8, .cells (Pol.mk 0 0 0 0 0 0 0 0 0 0 false false .none 0 0 0).cells 28 (0, 0)), (b5, .cells q3.cells 28 (0, 0)), (W.heap.size, .cells cf.cells 23 (0, 0))])) i, x.w.frozen? ⟨b5, i, none⟩ = false := fun x i => x.h.free (.tail _ (.head _)) i
        have hN : Nonempty (Kp (Bk W [(b8, .cells (Pol.mk 0 0 0 0 0 0 0 0 0 0 false false .none 0 0 0).cells 28 (0, 0)), (b5, .cells q3.cells 28 (0, 0)), (W.heap.size, .cells cf.cells 23 (0, 0))])) := ⟨⟨_, H⟩⟩
        refine Calm.plain (fun w' => ∃ x : Kp (Bk W [(b8, .cells (Pol.mk 0 0 0 0 0 0 0 0 0 0 false false .none 0 0 0).cells 28 (0, 0)), (b5, .cells q3.cells 28 (0, 0)), (W.heap.size, .cells cf.cells 23 (0, 0))]), w' = x.w) 4 ⟨⟨_, H⟩, rfl⟩ ?_
        simp only [List.take_succ_cons, List.take_zero, List.drop_succ_cons, List.drop_zero]
        repeat (first | go_big_quiet_skip | (go_big_quiet_want; (first | refine quiet_c W.heap.size cf (fun y => y.h.get (.tail _ (.tail _ (.head _)))) rfl rfl ?_ | refine quiet_p b5 q3 (fun y => y.h.get (.tail _ (.head _))) rfl rfl ?_); simp only [Act.put, List.setIfInBounds_toArray, List.set_cons_succ, List.set_cons_zero]; go_big_quiet_on) | (go_big_quiet_want; go_big_quiet_op; first | go_big_quiet_on | go_big_quiet_call ((go_at_call 31; exact Bk.call (Kp.h _) (rleast_calls cf q3 _)))))
        refine wpQuiet_nil ?_
        rintro _ ⟨x, rfl⟩
        go_upto_region 12 with (fail)
        have H2 := (Bk.put [(b8, .cells (Pol.mk 0 0 0 0 0 0 0 0 0 0 false false .none 0 0 0).cells 28 (0, 0))] [(W.heap.size, .cells cf.cells 23 (0, 0))] (cs' := ({ q3 with gap := leastP cf q3 } : Pol).cells) x.h hlb5 (by intro y hy; simp only [List.cons_append, List.nil_append, List.mem_cons, List.not_mem_nil, or_false] at hy; rcases hy with rfl | rfl <;> assumption) 1 (.int .i64 (leastP cf q3)) rfl)
        generalize (x.w.setCell ⟨b5, 1, none⟩ (.int .i64 (leastP cf q3))) = w2 at *
        clear hcb4 hcb5 hfb5 hN H
        try clear x
        have H := H2; clear H2
        generalize hq4 : ({ q3 with gap := leastP cf q3 } : Pol) = q4 at *
        have Hq4 := Aside0.mk hq4
        clear hq4
        have hcb4 : ∀ (x : Kp (Bk W [(b8, .cells (Pol.mk 0 0 0 0 0 0 0 0 0 0 false false .none 0 0 0).cells 28 (0, 0)), (b5, .cells q4.cells 28 (0, 0)), (W.heap.size, .cells cf.cells 23 (0, 0))])) i, x.w.cell? ⟨W.heap.size, i, none⟩ = (cf.cells)[i]? := fun x i => x.h.cell (.tail _ (.tail _ (.head _))) i
        have hcb5 : ∀ (x : Kp (Bk W [(b8, .cells (Pol.mk 0 0 0 0 0 0 0 0 0 0 false false .none 0 0 0).cells 28 (0, 0)), (b5, .cells q4.cells 28 (0, 0)), (W.heap.size, .cells cf.cells 23 (0, 0))])) i, x.w.cell? ⟨b5, i, none⟩ = (q4.cells)[i]? := fun x i => x.h.cell (.tail _ (.head _)) i
        have hN : Nonempty (Kp (Bk W [(b8, .cells (Pol.mk 0 0 0 0 0 0 0 0 0 0 false false .none 0 0 0).cells 28 (0, 0)), (b5, .cells q4.cells 28 (0, 0)), (W.heap.size, .cells cf.cells 23 (0, 0))])) := ⟨⟨_, H⟩⟩
        refine Calm.plain (fun w' => ∃ x : Kp (Bk W [(b8, .cells (Pol.mk 0 0 0 0 0 0 0 0 0 0 false false .none 0 0 0).cells 28 (0, 0)), (b5, .cells q4.cells 28 (0, 0)), (W.heap.size, .cells cf.cells 23 (0, 0))]), w' = x.w) 10 ⟨⟨_, H⟩, rfl⟩ ?_
        simp only [List.take_succ_cons, List.take_zero, List.drop_succ_cons, List.drop_zero]
        repeat (first | go_big_quiet_skip | (go_big_quiet_want; (first | refine quiet_c W.heap.size cf (fun y => y.h.get (.tail _ (.tail _ (.head _)))) rfl rfl ?_ | refine quiet_p b5 q4 (fun y => y.h.get (.tail _ (.head _))) rfl rfl ?_); simp only [Act.put, List.setIfInBounds_toArray, List.set_cons_succ, List.set_cons_zero]; go_big_quiet_on) | (go_big_quiet_want; go_big_quiet_op; first | go_big_quiet_on | go_big_quiet_call (first
      | (go_at_call 45; exact Bk.calld (Kp.h _) (decorumref18_Most.calls _ _ _ _ _ _ (rmost_eq 20 _ _ _ (by decide))))
      | (go_at_call 44; exact Bk.calld (Kp.h _) (decorumref18_Jitter.calls _ _ _ _ (rjitP_eq _ _))))))
        refine wpQuiet_nil ?_
        rintro _ ⟨x, rfl⟩
        have e1 : q4.gap = leastP cf q4 := by rw [← Hq4.out]; rfl
        have E1 := Aside0.mk e1; clear e1
        obtain ⟨J, hJ⟩ : ∃ J, J = (jitP (mst cf.base cf.most q4.exp) draw) := ⟨_, rfl⟩
        rw [← hJ]; have HJ := Aside0.mk hJ; clear hJ
        have H := x.h
        clear hcb4 hcb5 hN
        have gcb5 : ∀ i, x.w.cell? ⟨b5, i, none⟩ = (q4.cells)[i]? := fun i => H.cell (.tail _ (.head _)) i
        have gfb5 : ∀ i, x.w.frozen? ⟨b5, i, none⟩ = false := fun i => H.free (.tail _ (.head _)) i
        go_upto_if 61 with (fail)
        go_cut [] (fun w' => Aside0 (Bk W [(b8, .cells (Pol.mk 0 0 0 0 0 0 0 0 0 0 false false .none 0 0 0).cells 28 (0, 0)), (b5, .cells ({ q4 with gap := mx (leastP cf q4) J } : Pol).cells 28 (0, 0)), (W.heap.size, .cells cf.cells 23 (0, 0))] w'))
        case first =>
          by_cases h : q4.gap < J
          · go_wp2; go_meet
            case rel =>
              have e : mx (leastP cf q4) J = J := by rw [← E1.out]; unfold mx; omega
              rw [e]; exact ⟨Bk.put [(b8, .cells (Pol.mk 0 0 0 0 0 0 0 0 0 0 false false .none 0 0 0).cells 28 (0, 0))] [(W.heap.size, .cells cf.cells 23 (0, 0))] (cs' := ({ q4 with gap := J } : Pol).cells) H hlb5 (by intro y hy; simp only [List.cons_append, List.nil_append, List.mem_cons, List.not_mem_nil, or_false] at hy; rcases hy with rfl | rfl <;> assumption) 1 (.int .i64 J) rfl⟩
          · go_wp2; go_meet
            case rel =>
              have e : mx (leastP cf q4) J = q4.gap := by rw [← E1.out]; unfold mx; omega
              rw [e]; exact ⟨H⟩
        case rest =>
          clear H gcb5 gfb5
          have H := hcut.out; clear hcut
          generalize hq5 : ({ q4 with gap := mx (leastP cf q4) J } : Pol) = q5 at *
          have Hq5 := Aside0.mk hq5
          clear hq5
          have hc5 := fun i => H.cell (.tail _ (.head _)) i
          have hT := st28 (H.get (.head _))
          go_wp2
          refine bodyPost_ret (v := .agg q5.cells) (results_cell_row Try.results35 _ _ b8 28 q5.cells (0, 0) _ rfl (setRow_heap _ _ _ _ _ _ (H.get (.head _))) Try.underlying28 rfl size28) rfl ⟨?_, below_setRow H.1 hlb8⟩
          rw [← Hq5.out, HJ.out, ← Hq4.out, ← Hq3.out, ← Hq2.out, ← Hq1.out]; unfold failP; rw [HBF.out]; have e : f1 = cutF p.fails + 1 := (by have e := congrArg Prod.fst HBF.out; rw [brk_fst] at e; exact e.symm)
          subst e; rfl
end Go.Proofs.Ytdmebkdikminjaa.Given
