/- policy.Lost, Answer, Learn, walked. -/
import Derived.Test.YtdmebkdikminjaaGivC
import Derived.Outline
namespace Go.Proofs.Ytdmebkdikminjaa.Given
open Go.RowKit Go.Proofs.Ytdmebkdikminjaa.QBase Go.Proofs.YtdmebkdikminjaaW.PrintWords Go.Proofs.YtdmebkdikminjaaW.PrintLast Go.Proofs.YtdmebkdikminjaaW.PrintMore
set_option linter.unusedVariables false
set_option linter.unusedSimpArgs false
attribute [local go_sem] max2_int min2_int max_two min_two max_three min_three max_four min_four
attribute [local go_sem high] foldE foldC
attribute [local go_sem] foldP mx_fold
attribute [local go_sem high] cc0 cc1 cc2 cc3 cc4 cc5 cc6 cc7 cc8 cc9 cc10 cc11 cc12 cc13 pc0 pc1 pc2 pc3 pc4 pc5 pc6 pc7 pc8 pc9 pc10 pc11 pc12 pc13 ps0 ps1 ps2 ps3 ps4 ps5 ps6 ps7 ps8 ps9 ps10 ps11 ps12 ps13 pcs ccs
set_option maxHeartbeats 8000000 in
set_option maxRecDepth 100000 in
theorem lost_calls (cf : Cfg) (p : Pol) (now draw : Int) (W : World) (hlo : -4611686018427387904 < p.flying) (hhi : p.flying < 4611686018427387904) : Calls Try.prog 23 #[.agg cf.cells, .agg p.cells, .int .i64 now, .int .i64 draw] W fun e w' => e = .returned (.agg (lostP cf p now draw).cells) ∧ Below W.heap.size W w' := by
  go_enter Try.func23, Try.ntmps23
  go_upto_region 1 with (fail)
  have H : Bk W ([(W.heap.size + 1 + 1, .cells (Pol.mk 0 0 0 0 0 0 0 0 0 0 false false .none 0 0 0).cells 28 (0, 0)), (W.heap.size + 1, .cells p.cells 28 (0, 0)), (W.heap.size, .cells cf.cells 23 (0, 0))] : List (Nat × Obj)) (((W.alloc (.cells cf.cells 23)).alloc (.cells p.cells 28)).alloc (.cells (Pol.mk 0 0 0 0 0 0 0 0 0 0 false false .none 0 0 0).cells 28)) := by simpa using (((Bk.start W).alloc (.cells cf.cells 23)).alloc (.cells p.cells 28)).alloc (.cells (Pol.mk 0 0 0 0 0 0 0 0 0 0 false false .none 0 0 0).cells 28)
  have hlb4 : W.heap.size ≤ W.heap.size := by omega
  have hnb4b5 : W.heap.size ≠ W.heap.size + 1 := by omega
  have hnb4b8 : W.heap.size ≠ W.heap.size + 1 + 1 := by omega
  have hlb5 : W.heap.size ≤ W.heap.size + 1 := by omega
  have hnb5b4 : W.heap.size + 1 ≠ W.heap.size := by omega
  have hnb5b8 : W.heap.size + 1 ≠ W.heap.size + 1 + 1 := by omega
  have hlb8 : W.heap.size ≤ W.heap.size + 1 + 1 := by omega
  have hnb8b4 : W.heap.size + 1 + 1 ≠ W.heap.size := by omega
  have hnb8b5 : W.heap.size + 1 + 1 ≠ W.heap.size + 1 := by omega
  generalize W.heap.size + 1 + 1 = b8 at *
  generalize W.heap.size + 1 = b5 at *
  generalize (((W.alloc (.cells cf.cells 23)).alloc (.cells p.cells 28)).alloc (.cells (Pol.mk 0 0 0 0 0 0 0 0 0 0 false false .none 0 0 0).cells 28)) = w at *
  have hcb5 : ∀ (x : Kp (Bk W [(b8, .cells (Pol.mk 0 0 0 0 0 0 0 0 0 0 false false .none 0 0 0).cells 28 (0, 0)), (b5, .cells p.cells 28 (0, 0)), (W.heap.size, .cells cf.cells 23 (0, 0))])) i, x.w.cell? ⟨b5, i, none⟩ = (p.cells)[i]? := fun x i => x.h.cell (.tail _ (.head _)) i
  have hfb5 : ∀ (x : Kp (Bk W [(b8, .cells (Pol.mk 0 0 0 0 0 0 0 0 0 0 false false .none 0 0 0).cells 28 (0, 0)), (b5, .cells p.cells 28 (0, 0)), (W.heap.size, .cells cf.cells 23 (0, 0))])) i, x.w.frozen? ⟨b5, i, none⟩ = false := fun x i => x.h.free (.tail _ (.head _)) i
  have hN : Nonempty (Kp (Bk W [(b8, .cells (Pol.mk 0 0 0 0 0 0 0 0 0 0 false false .none 0 0 0).cells 28 (0, 0)), (b5, .cells p.cells 28 (0, 0)), (W.heap.size, .cells cf.cells 23 (0, 0))])) := ⟨⟨_, H⟩⟩
  refine Calm.plain (fun w' => ∃ x : Kp (Bk W [(b8, .cells (Pol.mk 0 0 0 0 0 0 0 0 0 0 false false .none 0 0 0).cells 28 (0, 0)), (b5, .cells p.cells 28 (0, 0)), (W.heap.size, .cells cf.cells 23 (0, 0))]), w' = x.w) 5 ⟨⟨_, H⟩, rfl⟩ ?_
  simp only [List.take_succ_cons, List.take_zero, List.drop_succ_cons, List.drop_zero]
  repeat (first | go_big_quiet_skip | (go_big_quiet_want; (first | refine quiet_p b5 p (fun y => y.h.get (.tail _ (.head _))) rfl rfl ?_); simp only [Act.put, List.setIfInBounds_toArray, List.set_cons_succ, List.set_cons_zero]; go_big_quiet_on) | (go_big_quiet_want; go_big_quiet_op; first | go_big_quiet_on | go_big_quiet_call (fail)))
  refine wpQuiet_nil ?_
  rintro _ ⟨x, rfl⟩
  go_upto_region 2 with (fail)
  have H2 := (Bk.put [(b8, .cells (Pol.mk 0 0 0 0 0 0 0 0 0 0 false false .none 0 0 0).cells 28 (0, 0))] [(W.heap.size, .cells cf.cells 23 (0, 0))] (cs' := (landP p).cells) x.h hlb5 (by intro y hy; simp only [List.cons_append, List.nil_append, List.mem_cons, List.not_mem_nil, or_false] at hy; rcases hy with rfl | rfl <;> assumption) 8 (.int .i64 (mx (p.flying - 1) 0)) rfl)
  generalize (x.w.setCell ⟨b5, 8, none⟩ (.int .i64 (mx (p.flying - 1) 0))) = w2 at *
  clear hcb5 hfb5 hN H
  try clear x
  have H := H2; clear H2
  generalize hq1 : (landP p : Pol) = q1 at *
  have Hq1 := Aside0.mk hq1
  clear hq1
  have hcb4 : ∀ (x : Kp (Bk W [(b8, .cells (Pol.mk 0 0 0 0 0 0 0 0 0 0 false false .none 0 0 0).cells 28 (0, 0)), (b5, .cells q1.cells 28 (0, 0)), (W.heap.size, .cells cf.cells 23 (0, 0))])) i, x.w.cell? ⟨W.heap.size, i, none⟩ = (cf.cells)[i]? := fun x i => x.h.cell (.tail _ (.tail _ (.head _))) i
  have hcb5 : ∀ (x : Kp (Bk W [(b8, .cells (Pol.mk 0 0 0 0 0 0 0 0 0 0 false false .none 0 0 0).cells 28 (0, 0)), (b5, .cells q1.cells 28 (0, 0)), (W.heap.size, .cells cf.cells 23 (0, 0))])) i, x.w.cell? ⟨b5, i, none⟩ = (q1.cells)[i]? := fun x i => x.h.cell (.tail _ (.head _)) i
  have hN : Nonempty (Kp (Bk W [(b8, .cells (Pol.mk 0 0 0 0 0 0 0 0 0 0 false false .none 0 0 0).cells 28 (0, 0)), (b5, .cells q1.cells 28 (0, 0)), (W.heap.size, .cells cf.cells 23 (0, 0))])) := ⟨⟨_, H⟩⟩
  refine Calm.plain (fun w' => ∃ x : Kp (Bk W [(b8, .cells (Pol.mk 0 0 0 0 0 0 0 0 0 0 false false .none 0 0 0).cells 28 (0, 0)), (b5, .cells q1.cells 28 (0, 0)), (W.heap.size, .cells cf.cells 23 (0, 0))]), w' = x.w) 5 ⟨⟨_, H⟩, rfl⟩ ?_
  simp only [List.take_succ_cons, List.take_zero, List.drop_succ_cons, List.drop_zero]
  repeat (first | go_big_quiet_skip | (go_big_quiet_want; (first | refine quiet_c W.heap.size cf (fun y => y.h.get (.tail _ (.tail _ (.head _)))) rfl rfl ?_ | refine quiet_p b5 q1 (fun y => y.h.get (.tail _ (.head _))) rfl rfl ?_); simp only [Act.put, List.setIfInBounds_toArray, List.set_cons_succ, List.set_cons_zero]; go_big_quiet_on) | (go_big_quiet_want; go_big_quiet_op; first | go_big_quiet_on | go_big_quiet_call ((go_at_call 32; exact Bk.call (Kp.h _) (fail_calls cf q1 now draw _)))))
  refine wpQuiet_nil ?_
  rintro _ ⟨x, rfl⟩
  have hT := st28 (x.h.get (.head _))
  go_wp2
  refine bodyPost_ret (v := .agg (failP cf q1 now draw).cells) (results_cell_row Try.results23 _ _ b8 28 (failP cf q1 now draw).cells (0, 0) _ rfl (setRow_heap _ _ _ _ _ _ (x.h.get (.head _))) Try.underlying28 rfl size28) rfl ⟨?_, below_setRow x.h.1 hlb8⟩
  rw [← Hq1.out]; rfl
set_option maxHeartbeats 8000000 in
set_option maxRecDepth 100000 in
theorem answer_calls (cf : Cfg) (p : Pol) (cls retry reset now draw : Int) (W : World) (hlo : -4611686018427387904 < p.flying) (hhi : p.flying < 4611686018427387904) : Calls Try.prog 21 #[.agg cf.cells, .agg p.cells, .agg #[.int .i64 cls, .int .i64 retry, .int .i64 reset], .int .i64 now, .int .i64 draw] W fun e w' => e = .returned (.agg (answerP cf p cls retry reset now draw).cells) ∧ Below W.heap.size W w' := by
  obtain ⟨b, hb⟩ : ∃ b, b = decide (cls = 3 ∨ cls = 4) := ⟨_, rfl⟩
  have HD := Aside0.mk hb
  clear hb
  go_enter Try.func21, Try.ntmps21
  go_upto_region 1 with (fail)
  have H : Bk W ([(W.heap.size + 1 + 1 + 1, .cells (Pol.mk 0 0 0 0 0 0 0 0 0 0 false false .none 0 0 0).cells 28 (0, 0)), (W.heap.size + 1 + 1, .cells #[.int .i64 cls, .int .i64 retry, .int .i64 reset] 42 (0, 0)), (W.heap.size + 1, .cells p.cells 28 (0, 0)), (W.heap.size, .cells cf.cells 23 (0, 0))] : List (Nat × Obj)) ((((W.alloc (.cells cf.cells 23)).alloc (.cells p.cells 28)).alloc (.cells #[.int .i64 cls, .int .i64 retry, .int .i64 reset] 42)).alloc (.cells (Pol.mk 0 0 0 0 0 0 0 0 0 0 false false .none 0 0 0).cells 28)) := by simpa using ((((Bk.start W).alloc (.cells cf.cells 23)).alloc (.cells p.cells 28)).alloc (.cells #[.int .i64 cls, .int .i64 retry, .int .i64 reset] 42)).alloc (.cells (Pol.mk 0 0 0 0 0 0 0 0 0 0 false false .none 0 0 0).cells 28)
  have hlb5 : W.heap.size ≤ W.heap.size := by omega
  have hnb5b6 : W.heap.size ≠ W.heap.size + 1 := by omega
  have hnb5b7 : W.heap.size ≠ W.heap.size + 1 + 1 := by omega
  have hnb5bA : W.heap.size ≠ W.heap.size + 1 + 1 + 1 := by omega
  have hlb6 : W.heap.size ≤ W.heap.size + 1 := by omega
  have hnb6b5 : W.heap.size + 1 ≠ W.heap.size := by omega
  have hnb6b7 : W.heap.size + 1 ≠ W.heap.size + 1 + 1 := by omega
  have hnb6bA : W.heap.size + 1 ≠ W.heap.size + 1 + 1 + 1 := by omega
  have hlb7 : W.heap.size ≤ W.heap.size + 1 + 1 := by omega
  have hnb7b5 : W.heap.size + 1 + 1 ≠ W.heap.size := by omega
  have hnb7b6 : W.heap.size + 1 + 1 ≠ W.heap.size + 1 := by omega
  have hnb7bA : W.heap.size + 1 + 1 ≠ W.heap.size + 1 + 1 + 1 := by omega
  have hlbA : W.heap.size ≤ W.heap.size + 1 + 1 + 1 := by omega
  have hnbAb5 : W.heap.size + 1 + 1 + 1 ≠ W.heap.size := by omega
  have hnbAb6 : W.heap.size + 1 + 1 + 1 ≠ W.heap.size + 1 := by omega
  have hnbAb7 : W.heap.size + 1 + 1 + 1 ≠ W.heap.size + 1 + 1 := by omega
  generalize W.heap.size + 1 + 1 + 1 = bA at *
  generalize W.heap.size + 1 + 1 = b7 at *
  generalize W.heap.size + 1 = b6 at *
  generalize ((((W.alloc (.cells cf.cells 23)).alloc (.cells p.cells 28)).alloc (.cells #[.int .i64 cls, .int .i64 retry, .int .i64 reset] 42)).alloc (.cells (Pol.mk 0 0 0 0 0 0 0 0 0 0 false false .none 0 0 0).cells 28)) = w at *
  have hcb6 : ∀ (x : Kp (Bk W [(bA, .cells (Pol.mk 0 0 0 0 0 0 0 0 0 0 false false .none 0 0 0).cells 28 (0, 0)), (b7, .cells #[.int .i64 cls, .int .i64 retry, .int .i64 reset] 42 (0, 0)), (b6, .cells p.cells 28 (0, 0)), (W.heap.size, .cells cf.cells 23 (0, 0))])) i, x.w.cell? ⟨b6, i, none⟩ = (p.cells)[i]? := fun x i => x.h.cell (.tail _ (.tail _ (.head _))) i
  have hfb6 : ∀ (x : Kp (Bk W [(bA, .cells (Pol.mk 0 0 0 0 0 0 0 0 0 0 false false .none 0 0 0).cells 28 (0, 0)), (b7, .cells #[.int .i64 cls, .int .i64 retry, .int .i64 reset] 42 (0, 0)), (b6, .cells p.cells 28 (0, 0)), (W.heap.size, .cells cf.cells 23 (0, 0))])) i, x.w.frozen? ⟨b6, i, none⟩ = false := fun x i => x.h.free (.tail _ (.tail _ (.head _))) i
  have hN : Nonempty (Kp (Bk W [(bA, .cells (Pol.mk 0 0 0 0 0 0 0 0 0 0 false false .none 0 0 0).cells 28 (0, 0)), (b7, .cells #[.int .i64 cls, .int .i64 retry, .int .i64 reset] 42 (0, 0)), (b6, .cells p.cells 28 (0, 0)), (W.heap.size, .cells cf.cells 23 (0, 0))])) := ⟨⟨_, H⟩⟩
  refine Calm.plain (fun w' => ∃ x : Kp (Bk W [(bA, .cells (Pol.mk 0 0 0 0 0 0 0 0 0 0 false false .none 0 0 0).cells 28 (0, 0)), (b7, .cells #[.int .i64 cls, .int .i64 retry, .int .i64 reset] 42 (0, 0)), (b6, .cells p.cells 28 (0, 0)), (W.heap.size, .cells cf.cells 23 (0, 0))]), w' = x.w) 5 ⟨⟨_, H⟩, rfl⟩ ?_
  simp only [List.take_succ_cons, List.take_zero, List.drop_succ_cons, List.drop_zero]
  repeat (first | go_big_quiet_skip | (go_big_quiet_want; (first | refine quiet_p b6 p (fun y => y.h.get (.tail _ (.tail _ (.head _)))) rfl rfl ?_); simp only [Act.put, List.setIfInBounds_toArray, List.set_cons_succ, List.set_cons_zero]; go_big_quiet_on) | (go_big_quiet_want; go_big_quiet_op; first | go_big_quiet_on | go_big_quiet_call (fail)))
  refine wpQuiet_nil ?_
  rintro _ ⟨x, rfl⟩
  go_upto_region 2 with (fail)
  have H2 := (Bk.put [(bA, .cells (Pol.mk 0 0 0 0 0 0 0 0 0 0 false false .none 0 0 0).cells 28 (0, 0)), (b7, .cells #[.int .i64 cls, .int .i64 retry, .int .i64 reset] 42 (0, 0))] [(W.heap.size, .cells cf.cells 23 (0, 0))] (cs' := (landP p).cells) x.h hlb6 (by intro y hy; simp only [List.cons_append, List.nil_append, List.mem_cons, List.not_mem_nil, or_false] at hy; rcases hy with rfl | rfl | rfl <;> assumption) 8 (.int .i64 (mx (p.flying - 1) 0)) rfl)
  generalize (x.w.setCell ⟨b6, 8, none⟩ (.int .i64 (mx (p.flying - 1) 0))) = w2 at *
  clear hcb6 hfb6 hN H
  try clear x
  have H := H2; clear H2
  generalize hq1 : (landP p : Pol) = q1 at *
  have Hq1 := Aside0.mk hq1
  clear hq1
  have hc6 : ∀ i, w2.cell? ⟨b6, i, none⟩ = q1.cells[i]? := fun i => H.cell (.tail _ (.tail _ (.head _))) i
  have hc7 : ∀ i, w2.cell? ⟨b7, i, none⟩ = (#[.int .i64 cls, .int .i64 retry, .int .i64 reset] : Array Value)[i]? := fun i => H.cell (.tail _ (.head _)) i
  have hf6 : ∀ i, w2.frozen? ⟨b6, i, none⟩ = false := fun i => H.free (.tail _ (.tail _ (.head _))) i
  go_region
  go_upto_region 3 with (fail)
  have H2 := (Bk.put [(bA, .cells (Pol.mk 0 0 0 0 0 0 0 0 0 0 false false .none 0 0 0).cells 28 (0, 0)), (b7, .cells #[.int .i64 cls, .int .i64 retry, .int .i64 reset] 42 (0, 0))] [(W.heap.size, .cells cf.cells 23 (0, 0))] (cs' := ({ q1 with retry := mx q1.retry retry, reset := mx q1.reset reset } : Pol).cells) (Bk.put [(bA, .cells (Pol.mk 0 0 0 0 0 0 0 0 0 0 false false .none 0 0 0).cells 28 (0, 0)), (b7, .cells #[.int .i64 cls, .int .i64 retry, .int .i64 reset] 42 (0, 0))] [(W.heap.size, .cells cf.cells 23 (0, 0))] (cs' := ({ q1 with retry := mx q1.retry retry } : Pol).cells) H hlb6 (by intro y hy; simp only [List.cons_append, List.nil_append, List.mem_cons, List.not_mem_nil, or_false] at hy; rcases hy with rfl | rfl | rfl <;> assumption) 6 (.int .i64 (mx q1.retry retry)) rfl) hlb6 (by intro y hy; simp only [List.cons_append, List.nil_append, List.mem_cons, List.not_mem_nil, or_false] at hy; rcases hy with rfl | rfl | rfl <;> assumption) 7 (.int .i64 (mx q1.reset reset)) rfl).drew
  generalize ((w2.setCell ⟨b6, 6, none⟩ (.int .i64 (mx q1.retry retry))).setCell ⟨b6, 7, none⟩ (.int .i64 (mx q1.reset reset))).drew = w3 at *
  clear hc6 hc7 hf6 H
  try clear x
  have H := H2; clear H2
  generalize hq2 : ({ q1 with retry := mx q1.retry retry, reset := mx q1.reset reset } : Pol) = q2 at *
  have Hq2 := Aside0.mk hq2
  clear hq2
  have hc7 : ∀ i, w3.cell? ⟨b7, i, none⟩ = (#[.int .i64 cls, .int .i64 retry, .int .i64 reset] : Array Value)[i]? := fun i => H.cell (.tail _ (.head _)) i
  rcases (by omega : cls = 3 ∨ cls = 4 ∨ (cls ≠ 3 ∧ cls ≠ 4)) with h | h | h
  · have t1 : (cls == 3) = true := by simp [h]
    have Hh := Aside0.mk h
    clear h
    go_upto_region 4 with (fail)
    clear hc7 t1
    have hcb5 : ∀ (x : Kp (Bk W [(bA, .cells (Pol.mk 0 0 0 0 0 0 0 0 0 0 false false .none 0 0 0).cells 28 (0, 0)), (b7, .cells #[.int .i64 cls, .int .i64 retry, .int .i64 reset] 42 (0, 0)), (b6, .cells q2.cells 28 (0, 0)), (W.heap.size, .cells cf.cells 23 (0, 0))])) i, x.w.cell? ⟨W.heap.size, i, none⟩ = (cf.cells)[i]? := fun x i => x.h.cell (.tail _ (.tail _ (.tail _ (.head _)))) i
    have hcb6 : ∀ (x : Kp (Bk W [(bA, .cells (Pol.mk 0 0 0 0 0 0 0 0 0 0 false false .none 0 0 0).cells 28 (0, 0)), (b7, .cells #[.int .i64 cls, .int .i64 retry, .int .i64 reset] 42 (0, 0)), (b6, .cells q2.cells 28 (0, 0)), (W.heap.size, .cells cf.cells 23 (0, 0))])) i, x.w.cell? ⟨b6, i, none⟩ = (q2.cells)[i]? := fun x i => x.h.cell (.tail _ (.tail _ (.head _))) i
    have hN : Nonempty (Kp (Bk W [(bA, .cells (Pol.mk 0 0 0 0 0 0 0 0 0 0 false false .none 0 0 0).cells 28 (0, 0)), (b7, .cells #[.int .i64 cls, .int .i64 retry, .int .i64 reset] 42 (0, 0)), (b6, .cells q2.cells 28 (0, 0)), (W.heap.size, .cells cf.cells 23 (0, 0))])) := ⟨⟨_, H⟩⟩
    refine Calm.plain (fun w' => ∃ x : Kp (Bk W [(bA, .cells (Pol.mk 0 0 0 0 0 0 0 0 0 0 false false .none 0 0 0).cells 28 (0, 0)), (b7, .cells #[.int .i64 cls, .int .i64 retry, .int .i64 reset] 42 (0, 0)), (b6, .cells q2.cells 28 (0, 0)), (W.heap.size, .cells cf.cells 23 (0, 0))]), w' = x.w) 5 ⟨⟨_, H⟩, rfl⟩ ?_
    simp only [List.take_succ_cons, List.take_zero, List.drop_succ_cons, List.drop_zero]
    repeat (first | go_big_quiet_skip | (go_big_quiet_want; (first | refine quiet_c W.heap.size cf (fun y => y.h.get (.tail _ (.tail _ (.tail _ (.head _))))) rfl rfl ?_ | refine quiet_p b6 q2 (fun y => y.h.get (.tail _ (.tail _ (.head _)))) rfl rfl ?_); simp only [Act.put, List.setIfInBounds_toArray, List.set_cons_succ, List.set_cons_zero]; go_big_quiet_on) | (go_big_quiet_want; go_big_quiet_op; first | go_big_quiet_on | go_big_quiet_call ((go_at_call 32; exact Bk.call (Kp.h _) (fail_calls cf q2 now draw _)))))
    refine wpQuiet_nil ?_
    rintro _ ⟨x, rfl⟩
    have hT := st28 (x.h.get (.head _))
    go_wp2
    refine bodyPost_ret (v := .agg (failP cf q2 now draw).cells) (results_cell_row Try.results21 _ _ bA 28 (failP cf q2 now draw).cells (0, 0) _ rfl (setRow_heap _ _ _ _ _ _ (x.h.get (.head _))) Try.underlying28 rfl size28) rfl ⟨?_, below_setRow x.h.1 hlbA⟩
    rw [← Hq2.out, ← Hq1.out]; unfold answerP; rw [if_pos (by exact .inl Hh.out)]; rfl
  · have t1 : (cls == 3) = false := by simp [h]
    have t2 : (cls == 4) = true := by simp [h]
    have Hh := Aside0.mk h
    clear h
    go_upto_region 4 with (fail)
    clear hc7 t1 t2
    have hcb5 : ∀ (x : Kp (Bk W [(bA, .cells (Pol.mk 0 0 0 0 0 0 0 0 0 0 false false .none 0 0 0).cells 28 (0, 0)), (b7, .cells #[.int .i64 cls, .int .i64 retry, .int .i64 reset] 42 (0, 0)), (b6, .cells q2.cells 28 (0, 0)), (W.heap.size, .cells cf.cells 23 (0, 0))])) i, x.w.cell? ⟨W.heap.size, i, none⟩ = (cf.cells)[i]? := fun x i => x.h.cell (.tail _ (.tail _ (.tail _ (.head _)))) i
    have hcb6 : ∀ (x : Kp (Bk W [(bA, .cells (Pol.mk 0 0 0 0 0 0 0 0 0 0 false false .none 0 0 0).cells 28 (0, 0)), (b7, .cells #[.int .i64 cls, .int .i64 retry, .int .i64 reset] 42 (0, 0)), (b6, .cells q2.cells 28 (0, 0)), (W.heap.size, .cells cf.cells 23 (0, 0))])) i, x.w.cell? ⟨b6, i, none⟩ = (q2.cells)[i]? := fun x i => x.h.cell (.tail _ (.tail _ (.head _))) i
    have hN : Nonempty (Kp (Bk W [(bA, .cells (Pol.mk 0 0 0 0 0 0 0 0 0 0 false false .none 0 0 0).cells 28 (0, 0)), (b7, .cells #[.int .i64 cls, .int .i64 retry, .int .i64 reset] 42 (0, 0)), (b6, .cells q2.cells 28 (0, 0)), (W.heap.size, .cells cf.cells 23 (0, 0))])) := ⟨⟨_, H⟩⟩
    refine Calm.plain (fun w' => ∃ x : Kp (Bk W [(bA, .cells (Pol.mk 0 0 0 0 0 0 0 0 0 0 false false .none 0 0 0).cells 28 (0, 0)), (b7, .cells #[.int .i64 cls, .int .i64 retry, .int .i64 reset] 42 (0, 0)), (b6, .cells q2.cells 28 (0, 0)), (W.heap.size, .cells cf.cells 23 (0, 0))]), w' = x.w) 5 ⟨⟨_, H⟩, rfl⟩ ?_
    simp only [List.take_succ_cons, List.take_zero, List.drop_succ_cons, List.drop_zero]
    repeat (first | go_big_quiet_skip | (go_big_quiet_want; (first | refine quiet_c W.heap.size cf (fun y => y.h.get (.tail _ (.tail _ (.tail _ (.head _))))) rfl rfl ?_ | refine quiet_p b6 q2 (fun y => y.h.get (.tail _ (.tail _ (.head _)))) rfl rfl ?_); simp only [Act.put, List.setIfInBounds_toArray, List.set_cons_succ, List.set_cons_zero]; go_big_quiet_on) | (go_big_quiet_want; go_big_quiet_op; first | go_big_quiet_on | go_big_quiet_call ((go_at_call 32; exact Bk.call (Kp.h _) (fail_calls cf q2 now draw _)))))
    refine wpQuiet_nil ?_
    rintro _ ⟨x, rfl⟩
    have hT := st28 (x.h.get (.head _))
    go_wp2
    refine bodyPost_ret (v := .agg (failP cf q2 now draw).cells) (results_cell_row Try.results21 _ _ bA 28 (failP cf q2 now draw).cells (0, 0) _ rfl (setRow_heap _ _ _ _ _ _ (x.h.get (.head _))) Try.underlying28 rfl size28) rfl ⟨?_, below_setRow x.h.1 hlbA⟩
    rw [← Hq2.out, ← Hq1.out]; unfold answerP; rw [if_pos (by exact .inr Hh.out)]; rfl
  · have t1 : (cls == 3) = false := by simp [h.1]
    have t2 : (cls == 4) = false := by simp [h.2]
    have Hh := Aside0.mk h
    clear h
    go_upto_region 5 with (fail)
    clear hc7 t1 t2
    have hcb5 : ∀ (x : Kp (Bk W [(bA, .cells (Pol.mk 0 0 0 0 0 0 0 0 0 0 false false .none 0 0 0).cells 28 (0, 0)), (b7, .cells #[.int .i64 cls, .int .i64 retry, .int .i64 reset] 42 (0, 0)), (b6, .cells q2.cells 28 (0, 0)), (W.heap.size, .cells cf.cells 23 (0, 0))])) i, x.w.cell? ⟨W.heap.size, i, none⟩ = (cf.cells)[i]? := fun x i => x.h.cell (.tail _ (.tail _ (.tail _ (.head _)))) i
    have hcb6 : ∀ (x : Kp (Bk W [(bA, .cells (Pol.mk 0 0 0 0 0 0 0 0 0 0 false false .none 0 0 0).cells 28 (0, 0)), (b7, .cells #[.int .i64 cls, .int .i64 retry, .int .i64 reset] 42 (0, 0)), (b6, .cells q2.cells 28 (0, 0)), (W.heap.size, .cells cf.cells 23 (0, 0))])) i, x.w.cell? ⟨b6, i, none⟩ = (q2.cells)[i]? := fun x i => x.h.cell (.tail _ (.tail _ (.head _))) i
    have hN : Nonempty (Kp (Bk W [(bA, .cells (Pol.mk 0 0 0 0 0 0 0 0 0 0 false false .none 0 0 0).cells 28 (0, 0)), (b7, .cells #[.int .i64 cls, .int .i64 retry, .int .i64 reset] 42 (0, 0)), (b6, .cells q2.cells 28 (0, 0)), (W.heap.size, .cells cf.cells 23 (0, 0))])) := ⟨⟨_, H⟩⟩
    refine Calm.region (fun w' => ∃ x : Kp (Bk W [(bA, .cells (Pol.mk 0 0 0 0 0 0 0 0 0 0 false false .none 0 0 0).cells 28 (0, 0)), (b7, .cells #[.int .i64 cls, .int .i64 retry, .int .i64 reset] 42 (0, 0)), (b6, .cells q2.cells 28 (0, 0)), (W.heap.size, .cells cf.cells 23 (0, 0))]), w' = x.w) [0, 1, 2, 3, 4] 5 [] (by kernel_rfl) (by kernel_rfl) ⟨⟨_, H.drew⟩, rfl⟩ ?_
    simp only [Calm.pick, List.drop_succ_cons, List.drop_zero, List.take_succ_cons, List.take_zero, List.cons_append, List.nil_append]
    repeat (first | go_big_quiet_skip | (go_big_quiet_want; (first | refine quiet_c W.heap.size cf (fun y => y.h.get (.tail _ (.tail _ (.tail _ (.head _))))) rfl rfl ?_ | refine quiet_p b6 q2 (fun y => y.h.get (.tail _ (.tail _ (.head _)))) rfl rfl ?_); simp only [Act.put, List.setIfInBounds_toArray, List.set_cons_succ, List.set_cons_zero]; go_big_quiet_on) | (go_big_quiet_want; go_big_quiet_op; first | go_big_quiet_on | go_big_quiet_call ((first
      | (go_at_call 29; exact Bk.call (Kp.h _) (of_calls q2 _))
      | (go_at_call 33; exact Bk.call (Kp.h _) (breaker_Good.calls _ _ _ _ _ _ _ (rfl : breaker_Good.f _ _ _ = some (0, 0, 0))))
      | (go_at_call 27; exact Bk.call (Kp.h _) (to_calls q2 _ _ _ _))))))
    refine wpQuiet_nil ?_
    rintro _ ⟨x, rfl⟩
    have hT := st28 (x.h.get (.tail _ (.tail _ (.head _))))
    go_upto_region 6 with (fail)
    have H2 := Bk.row [(bA, .cells (Pol.mk 0 0 0 0 0 0 0 0 0 0 false false .none 0 0 0).cells 28 (0, 0)), (b7, .cells #[.int .i64 cls, .int .i64 retry, .int .i64 reset] 42 (0, 0))] [(W.heap.size, .cells cf.cells 23 (0, 0))] (cs' := ({ q2 with state := 0, fails := 0, till := 0 } : Pol).cells) x.h hlb6 (by intro y hy; simp only [List.cons_append, List.nil_append, List.mem_cons, List.not_mem_nil, or_false] at hy; rcases hy with rfl | rfl | rfl <;> assumption)
    generalize x.w.setRow b6 (({ q2 with state := 0, fails := 0, till := 0 } : Pol).cells) = w2 at *
    clear hT
    clear hcb5 hcb6 hN H
    try clear x
    have H := H2; clear H2
    generalize hq3 : ({ q2 with state := 0, fails := 0, till := 0 } : Pol) = q3 at *
    have Hq3 := Aside0.mk hq3
    clear hq3
    have hcb6 : ∀ (x : Kp (Bk W [(bA, .cells (Pol.mk 0 0 0 0 0 0 0 0 0 0 false false .none 0 0 0).cells 28 (0, 0)), (b7, .cells #[.int .i64 cls, .int .i64 retry, .int .i64 reset] 42 (0, 0)), (b6, .cells q3.cells 28 (0, 0)), (W.heap.size, .cells cf.cells 23 (0, 0))])) i, x.w.cell? ⟨b6, i, none⟩ = (q3.cells)[i]? := fun x i => x.h.cell (.tail _ (.tail _ (.head _))) i
    have hfb6 : ∀ (x : Kp (Bk W [(bA, .cells (Pol.mk 0 0 0 0 0 0 0 0 0 0 false false .none 0 0 0).cells 28 (0, 0)), (b7, .cells #[.int .i64 cls, .int .i64 retry, .int .i64 reset] 42 (0, 0)), (b6, .cells q3.cells 28 (0, 0)), (W.heap.size, .cells cf.cells 23 (0, 0))])) i, x.w.frozen? ⟨b6, i, none⟩ = false := fun x i => x.h.free (.tail _ (.tail _ (.head _))) i
    have hN : Nonempty (Kp (Bk W [(bA, .cells (Pol.mk 0 0 0 0 0 0 0 0 0 0 false false .none 0 0 0).cells 28 (0, 0)), (b7, .cells #[.int .i64 cls, .int .i64 retry, .int .i64 reset] 42 (0, 0)), (b6, .cells q3.cells 28 (0, 0)), (W.heap.size, .cells cf.cells 23 (0, 0))])) := ⟨⟨_, H⟩⟩
    refine Calm.plain (fun w' => ∃ x : Kp (Bk W [(bA, .cells (Pol.mk 0 0 0 0 0 0 0 0 0 0 false false .none 0 0 0).cells 28 (0, 0)), (b7, .cells #[.int .i64 cls, .int .i64 retry, .int .i64 reset] 42 (0, 0)), (b6, .cells q3.cells 28 (0, 0)), (W.heap.size, .cells cf.cells 23 (0, 0))]), w' = x.w) 1 ⟨⟨_, H⟩, rfl⟩ ?_
    simp only [List.take_succ_cons, List.take_zero, List.drop_succ_cons, List.drop_zero]
    repeat (first | go_big_quiet_skip | (go_big_quiet_want; (first | refine quiet_p b6 q3 (fun y => y.h.get (.tail _ (.tail _ (.head _)))) rfl rfl ?_); simp only [Act.put, List.setIfInBounds_toArray, List.set_cons_succ, List.set_cons_zero]; go_big_quiet_on) | (go_big_quiet_want; go_big_quiet_op; first | go_big_quiet_on | go_big_quiet_call (fail)))
    refine wpQuiet_nil ?_
    rintro _ ⟨x, rfl⟩
    go_upto_region 7 with (fail)
    have H2 := (Bk.put [(bA, .cells (Pol.mk 0 0 0 0 0 0 0 0 0 0 false false .none 0 0 0).cells 28 (0, 0)), (b7, .cells #[.int .i64 cls, .int .i64 retry, .int .i64 reset] 42 (0, 0))] [(W.heap.size, .cells cf.cells 23 (0, 0))] (cs' := ({ q3 with exp := 0 } : Pol).cells) x.h hlb6 (by intro y hy; simp only [List.cons_append, List.nil_append, List.mem_cons, List.not_mem_nil, or_false] at hy; rcases hy with rfl | rfl | rfl <;> assumption) 2 (.int .i64 0) rfl)
    generalize (x.w.setCell ⟨b6, 2, none⟩ (.int .i64 0)) = w2 at *
    clear hcb6 hfb6 hN H
    try clear x
    have H := H2; clear H2
    generalize hq4 : ({ q3 with exp := 0 } : Pol) = q4 at *
    have Hq4 := Aside0.mk hq4
    clear hq4
    have hcb5 : ∀ (x : Kp (Bk W [(bA, .cells (Pol.mk 0 0 0 0 0 0 0 0 0 0 false false .none 0 0 0).cells 28 (0, 0)), (b7, .cells #[.int .i64 cls, .int .i64 retry, .int .i64 reset] 42 (0, 0)), (b6, .cells q4.cells 28 (0, 0)), (W.heap.size, .cells cf.cells 23 (0, 0))])) i, x.w.cell? ⟨W.heap.size, i, none⟩ = (cf.cells)[i]? := fun x i => x.h.cell (.tail _ (.tail _ (.tail _ (.head _)))) i
    have hcb6 : ∀ (x : Kp (Bk W [(bA, .cells (Pol.mk 0 0 0 0 0 0 0 0 0 0 false false .none 0 0 0).cells 28 (0, 0)), (b7, .cells #[.int .i64 cls, .int .i64 retry, .int .i64 reset] 42 (0, 0)), (b6, .cells q4.cells 28 (0, 0)), (W.heap.size, .cells cf.cells 23 (0, 0))])) i, x.w.cell? ⟨b6, i, none⟩ = (q4.cells)[i]? := fun x i => x.h.cell (.tail _ (.tail _ (.head _))) i
    have hfb6 : ∀ (x : Kp (Bk W [(bA, .cells (Pol.mk 0 0 0 0 0 0 0 0 0 0 false false .none 0 0 0).cells 28 (0, 0)), (b7, .cells #[.int .i64 cls, .int .i64 retry, .int .i64 reset] 42 (0, 0)), (b6, .cells q4.cells 28 (0, 0)), (W.heap.size, .cells cf.cells 23 (0, 0))])) i, x.w.frozen? ⟨b6, i, none⟩ = false := fun x i => x.h.free (.tail _ (.tail _ (.head _))) i
    have hN : Nonempty (Kp (Bk W [(bA, .cells (Pol.mk 0 0 0 0 0 0 0 0 0 0 false false .none 0 0 0).cells 28 (0, 0)), (b7, .cells #[.int .i64 cls, .int .i64 retry, .int .i64 reset] 42 (0, 0)), (b6, .cells q4.cells 28 (0, 0)), (W.heap.size, .cells cf.cells 23 (0, 0))])) := ⟨⟨_, H⟩⟩
    refine Calm.plain (fun w' => ∃ x : Kp (Bk W [(bA, .cells (Pol.mk 0 0 0 0 0 0 0 0 0 0 false false .none 0 0 0).cells 28 (0, 0)), (b7, .cells #[.int .i64 cls, .int .i64 retry, .int .i64 reset] 42 (0, 0)), (b6, .cells q4.cells 28 (0, 0)), (W.heap.size, .cells cf.cells 23 (0, 0))]), w' = x.w) 4 ⟨⟨_, H⟩, rfl⟩ ?_
    simp only [List.take_succ_cons, List.take_zero, List.drop_succ_cons, List.drop_zero]
    repeat (first | go_big_quiet_skip | (go_big_quiet_want; (first | refine quiet_c W.heap.size cf (fun y => y.h.get (.tail _ (.tail _ (.tail _ (.head _))))) rfl rfl ?_ | refine quiet_p b6 q4 (fun y => y.h.get (.tail _ (.tail _ (.head _)))) rfl rfl ?_); simp only [Act.put, List.setIfInBounds_toArray, List.set_cons_succ, List.set_cons_zero]; go_big_quiet_on) | (go_big_quiet_want; go_big_quiet_op; first | go_big_quiet_on | go_big_quiet_call ((go_at_call 30; exact Bk.call (Kp.h _) (least_calls cf q4 _)))))
    refine wpQuiet_nil ?_
    rintro _ ⟨x, rfl⟩
    go_upto_region 8 with (fail)
    have H2 := (Bk.put [(bA, .cells (Pol.mk 0 0 0 0 0 0 0 0 0 0 false false .none 0 0 0).cells 28 (0, 0)), (b7, .cells #[.int .i64 cls, .int .i64 retry, .int .i64 reset] 42 (0, 0))] [(W.heap.size, .cells cf.cells 23 (0, 0))] (cs' := ({ q4 with gap := leastP cf q4 } : Pol).cells) x.h hlb6 (by intro y hy; simp only [List.cons_append, List.nil_append, List.mem_cons, List.not_mem_nil, or_false] at hy; rcases hy with rfl | rfl | rfl <;> assumption) 1 (.int .i64 (leastP cf q4)) rfl)
    generalize (x.w.setCell ⟨b6, 1, none⟩ (.int .i64 (leastP cf q4))) = w2 at *
    clear hcb5 hcb6 hfb6 hN H
    try clear x
    have H := H2; clear H2
    generalize hq5 : ({ q4 with gap := leastP cf q4 } : Pol) = q5 at *
    have Hq5 := Aside0.mk hq5
    clear hq5
    have hc5 : ∀ i, w2.cell? ⟨b6, i, none⟩ = q5.cells[i]? := fun i => H.cell (.tail _ (.tail _ (.head _))) i
    have hT := st28 (H.get (.head _))
    go_wp2
    refine bodyPost_ret (v := .agg q5.cells) (results_cell_row Try.results21 _ _ bA 28 q5.cells (0, 0) _ rfl (setRow_heap _ _ _ _ _ _ (H.get (.head _))) Try.underlying28 rfl size28) rfl ⟨?_, below_setRow H.1 hlbA⟩
    rw [← Hq5.out, ← Hq4.out, ← Hq3.out, ← Hq2.out, ← Hq1.out]; unfold answerP; rw [if_neg (by have := Hh.out; omega)]; rfl
set_option maxHeartbeats 8000000 in
set_option maxRecDepth 100000 in
theorem learn_calls (cf : Cfg) (p : Pol) (al no : Bool) (A : Option Addr) (n k : Nat) (delay now : Int) (W : World) : Calls Try.prog 18 #[.agg cf.cells, .agg p.cells, .agg #[.bool al, .bool no, .slice A n k, .int .i64 delay], .int .i64 now] W fun e w' => e = .returned (.agg (learnP cf p al no A n k delay now).cells) ∧ Below W.heap.size W w' := by
  go_enter Try.func18, Try.ntmps18
  go_upto_region 1 with (fail)
  have H : Bk W ([(W.heap.size + 1 + 1 + 1, .cells (Pol.mk 0 0 0 0 0 0 0 0 0 0 false false .none 0 0 0).cells 28 (0, 0)), (W.heap.size + 1 + 1, .cells #[.bool al, .bool no, .slice A n k, .int .i64 delay] 26 (0, 0)), (W.heap.size + 1, .cells p.cells 28 (0, 0)), (W.heap.size, .cells cf.cells 23 (0, 0))] : List (Nat × Obj)) ((((W.alloc (.cells cf.cells 23)).alloc (.cells p.cells 28)).alloc (.cells #[.bool al, .bool no, .slice A n k, .int .i64 delay] 26)).alloc (.cells (Pol.mk 0 0 0 0 0 0 0 0 0 0 false false .none 0 0 0).cells 28)) := by simpa using ((((Bk.start W).alloc (.cells cf.cells 23)).alloc (.cells p.cells 28)).alloc (.cells #[.bool al, .bool no, .slice A n k, .int .i64 delay] 26)).alloc (.cells (Pol.mk 0 0 0 0 0 0 0 0 0 0 false false .none 0 0 0).cells 28)
  have hlb4 : W.heap.size ≤ W.heap.size := by omega
  have hnb4b5 : W.heap.size ≠ W.heap.size + 1 := by omega
  have hnb4b6 : W.heap.size ≠ W.heap.size + 1 + 1 := by omega
  have hnb4b8 : W.heap.size ≠ W.heap.size + 1 + 1 + 1 := by omega
  have hlb5 : W.heap.size ≤ W.heap.size + 1 := by omega
  have hnb5b4 : W.heap.size + 1 ≠ W.heap.size := by omega
  have hnb5b6 : W.heap.size + 1 ≠ W.heap.size + 1 + 1 := by omega
  have hnb5b8 : W.heap.size + 1 ≠ W.heap.size + 1 + 1 + 1 := by omega
  have hlb6 : W.heap.size ≤ W.heap.size + 1 + 1 := by omega
  have hnb6b4 : W.heap.size + 1 + 1 ≠ W.heap.size := by omega
  have hnb6b5 : W.heap.size + 1 + 1 ≠ W.heap.size + 1 := by omega
  have hnb6b8 : W.heap.size + 1 + 1 ≠ W.heap.size + 1 + 1 + 1 := by omega
  have hlb8 : W.heap.size ≤ W.heap.size + 1 + 1 + 1 := by omega
  have hnb8b4 : W.heap.size + 1 + 1 + 1 ≠ W.heap.size := by omega
  have hnb8b5 : W.heap.size + 1 + 1 + 1 ≠ W.heap.size + 1 := by omega
  have hnb8b6 : W.heap.size + 1 + 1 + 1 ≠ W.heap.size + 1 + 1 := by omega
  generalize W.heap.size + 1 + 1 + 1 = b8 at *
  generalize W.heap.size + 1 + 1 = b6 at *
  generalize W.heap.size + 1 = b5 at *
  generalize ((((W.alloc (.cells cf.cells 23)).alloc (.cells p.cells 28)).alloc (.cells #[.bool al, .bool no, .slice A n k, .int .i64 delay] 26)).alloc (.cells (Pol.mk 0 0 0 0 0 0 0 0 0 0 false false .none 0 0 0).cells 28)) = w at *
  have hcb4 : ∀ (x : Kp (Bk W [(b8, .cells (Pol.mk 0 0 0 0 0 0 0 0 0 0 false false .none 0 0 0).cells 28 (0, 0)), (b6, .cells #[.bool al, .bool no, .slice A n k, .int .i64 delay] 26 (0, 0)), (b5, .cells p.cells 28 (0, 0)), (W.heap.size, .cells cf.cells 23 (0, 0))])) i, x.w.cell? ⟨W.heap.size, i, none⟩ = (cf.cells)[i]? := fun x i => x.h.cell (.tail _ (.tail _ (.tail _ (.head _)))) i
  have hcb5 : ∀ (x : Kp (Bk W [(b8, .cells (Pol.mk 0 0 0 0 0 0 0 0 0 0 false false .none 0 0 0).cells 28 (0, 0)), (b6, .cells #[.bool al, .bool no, .slice A n k, .int .i64 delay] 26 (0, 0)), (b5, .cells p.cells 28 (0, 0)), (W.heap.size, .cells cf.cells 23 (0, 0))])) i, x.w.cell? ⟨b5, i, none⟩ = (p.cells)[i]? := fun x i => x.h.cell (.tail _ (.tail _ (.head _))) i
  have hcb6 : ∀ (x : Kp (Bk W [(b8, .cells (Pol.mk 0 0 0 0 0 0 0 0 0 0 false false .none 0 0 0).cells 28 (0, 0)), (b6, .cells #[.bool al, .bool no, .slice A n k, .int .i64 delay] 26 (0, 0)), (b5, .cells p.cells 28 (0, 0)), (W.heap.size, .cells cf.cells 23 (0, 0))])) i, x.w.cell? ⟨b6, i, none⟩ = (#[.bool al, .bool no, .slice A n k, .int .i64 delay])[i]? := fun x i => x.h.cell (.tail _ (.head _)) i
  have hfb5 : ∀ (x : Kp (Bk W [(b8, .cells (Pol.mk 0 0 0 0 0 0 0 0 0 0 false false .none 0 0 0).cells 28 (0, 0)), (b6, .cells #[.bool al, .bool no, .slice A n k, .int .i64 delay] 26 (0, 0)), (b5, .cells p.cells 28 (0, 0)), (W.heap.size, .cells cf.cells 23 (0, 0))])) i, x.w.frozen? ⟨b5, i, none⟩ = false := fun x i => x.h.free (.tail _ (.tail _ (.head _))) i
  have hN : Nonempty (Kp (Bk W [(b8, .cells (Pol.mk 0 0 0 0 0 0 0 0 0 0 false false .none 0 0 0).cells 28 (0, 0)), (b6, .cells #[.bool al, .bool no, .slice A n k, .int .i64 delay] 26 (0, 0)), (b5, .cells p.cells 28 (0, 0)), (W.heap.size, .cells cf.cells 23 (0, 0))])) := ⟨⟨_, H⟩⟩
  refine Calm.region (fun w' => ∃ x : Kp (Bk W [(b8, .cells (Pol.mk 0 0 0 0 0 0 0 0 0 0 false false .none 0 0 0).cells 28 (0, 0)), (b6, .cells #[.bool al, .bool no, .slice A n k, .int .i64 delay] 26 (0, 0)), (b5, .cells p.cells 28 (0, 0)), (W.heap.size, .cells cf.cells 23 (0, 0))]), w' = x.w) [0, 1, 2, 3, 4, 5] 6 [7, 8] (by kernel_rfl) (by kernel_rfl) ⟨⟨_, H.drew⟩, rfl⟩ ?_
  simp only [Calm.pick, List.drop_succ_cons, List.drop_zero, List.take_succ_cons, List.take_zero, List.cons_append, List.nil_append]
  repeat (first | go_big_quiet_skip | (go_big_quiet_want; (first | refine quiet_c W.heap.size cf (fun y => y.h.get (.tail _ (.tail _ (.tail _ (.head _))))) rfl rfl ?_ | refine quiet_p b5 p (fun y => y.h.get (.tail _ (.tail _ (.head _)))) rfl rfl ?_); simp only [Act.put, List.setIfInBounds_toArray, List.set_cons_succ, List.set_cons_zero]; go_big_quiet_on) | (go_big_quiet_want; go_big_quiet_op; first | go_big_quiet_on | go_big_quiet_call ((go_at_call 25; exact Bk.call (Kp.h _) (tick_Add.calls _ _ _ _ (add_eq _ _))))))
  refine wpQuiet_nil ?_
  rintro _ ⟨x, rfl⟩
  go_upto_region 2 with (fail)
  have H2 := (Bk.put [(b8, .cells (Pol.mk 0 0 0 0 0 0 0 0 0 0 false false .none 0 0 0).cells 28 (0, 0)), (b6, .cells #[.bool al, .bool no, .slice A n k, .int .i64 delay] 26 (0, 0))] [(W.heap.size, .cells cf.cells 23 (0, 0))] (cs' := ({ p with all := al, none := no, A := A, n := n, c := k, delay := delay, known := ad now cf.keep } : Pol).cells) (Bk.put [(b8, .cells (Pol.mk 0 0 0 0 0 0 0 0 0 0 false false .none 0 0 0).cells 28 (0, 0)), (b6, .cells #[.bool al, .bool no, .slice A n k, .int .i64 delay] 26 (0, 0))] [(W.heap.size, .cells cf.cells 23 (0, 0))] (cs' := ({ p with all := al, none := no, A := A, n := n, c := k, delay := delay } : Pol).cells) (Bk.put [(b8, .cells (Pol.mk 0 0 0 0 0 0 0 0 0 0 false false .none 0 0 0).cells 28 (0, 0)), (b6, .cells #[.bool al, .bool no, .slice A n k, .int .i64 delay] 26 (0, 0))] [(W.heap.size, .cells cf.cells 23 (0, 0))] (cs' := ({ p with all := al, none := no, A := A, n := n, c := k } : Pol).cells) (Bk.put [(b8, .cells (Pol.mk 0 0 0 0 0 0 0 0 0 0 false false .none 0 0 0).cells 28 (0, 0)), (b6, .cells #[.bool al, .bool no, .slice A n k, .int .i64 delay] 26 (0, 0))] [(W.heap.size, .cells cf.cells 23 (0, 0))] (cs' := ({ p with all := al, none := no } : Pol).cells) (Bk.put [(b8, .cells (Pol.mk 0 0 0 0 0 0 0 0 0 0 false false .none 0 0 0).cells 28 (0, 0)), (b6, .cells #[.bool al, .bool no, .slice A n k, .int .i64 delay] 26 (0, 0))] [(W.heap.size, .cells cf.cells 23 (0, 0))] (cs' := ({ p with all := al } : Pol).cells) x.h hlb5 (by intro y hy; simp only [List.cons_append, List.nil_append, List.mem_cons, List.not_mem_nil, or_false] at hy; rcases hy with rfl | rfl | rfl <;> assumption) 10 (.bool al) rfl) hlb5 (by intro y hy; simp only [List.cons_append, List.nil_append, List.mem_cons, List.not_mem_nil, or_false] at hy; rcases hy with rfl | rfl | rfl <;> assumption) 11 (.bool no) rfl) hlb5 (by intro y hy; simp only [List.cons_append, List.nil_append, List.mem_cons, List.not_mem_nil, or_false] at hy; rcases hy with rfl | rfl | rfl <;> assumption) 12 (.slice A n k) rfl) hlb5 (by intro y hy; simp only [List.cons_append, List.nil_append, List.mem_cons, List.not_mem_nil, or_false] at hy; rcases hy with rfl | rfl | rfl <;> assumption) 13 (.int .i64 delay) rfl) hlb5 (by intro y hy; simp only [List.cons_append, List.nil_append, List.mem_cons, List.not_mem_nil, or_false] at hy; rcases hy with rfl | rfl | rfl <;> assumption) 9 (.int .i64 (ad now cf.keep)) rfl)
  generalize (((((x.w.setCell ⟨b5, 10, none⟩ (.bool al)).setCell ⟨b5, 11, none⟩ (.bool no)).setCell ⟨b5, 12, none⟩ (.slice A n k)).setCell ⟨b5, 13, none⟩ (.int .i64 delay)).setCell ⟨b5, 9, none⟩ (.int .i64 (ad now cf.keep))) = w2 at *
  clear hcb4 hcb5 hcb6 hfb5 hN H
  try clear x
  have H := H2; clear H2
  generalize hq1 : ({ p with all := al, none := no, A := A, n := n, c := k, delay := delay, known := ad now cf.keep } : Pol) = q1 at *
  have Hq1 := Aside0.mk hq1
  clear hq1
  have hcb4 : ∀ (x : Kp (Bk W [(b8, .cells (Pol.mk 0 0 0 0 0 0 0 0 0 0 false false .none 0 0 0).cells 28 (0, 0)), (b6, .cells #[.bool al, .bool no, .slice A n k, .int .i64 delay] 26 (0, 0)), (b5, .cells q1.cells 28 (0, 0)), (W.heap.size, .cells cf.cells 23 (0, 0))])) i, x.w.cell? ⟨W.heap.size, i, none⟩ = (cf.cells)[i]? := fun x i => x.h.cell (.tail _ (.tail _ (.tail _ (.head _)))) i
  have hcb5 : ∀ (x : Kp (Bk W [(b8, .cells (Pol.mk 0 0 0 0 0 0 0 0 0 0 false false .none 0 0 0).cells 28 (0, 0)), (b6, .cells #[.bool al, .bool no, .slice A n k, .int .i64 delay] 26 (0, 0)), (b5, .cells q1.cells 28 (0, 0)), (W.heap.size, .cells cf.cells 23 (0, 0))])) i, x.w.cell? ⟨b5, i, none⟩ = (q1.cells)[i]? := fun x i => x.h.cell (.tail _ (.tail _ (.head _))) i
  have hfb5 : ∀ (x : Kp (Bk W [(b8, .cells (Pol.mk 0 0 0 0 0 0 0 0 0 0 false false .none 0 0 0).cells 28 (0, 0)), (b6, .cells #[.bool al, .bool no, .slice A n k, .int .i64 delay] 26 (0, 0)), (b5, .cells q1.cells 28 (0, 0)), (W.heap.size, .cells cf.cells 23 (0, 0))])) i, x.w.frozen? ⟨b5, i, none⟩ = false := fun x i => x.h.free (.tail _ (.tail _ (.head _))) i
  have hN : Nonempty (Kp (Bk W [(b8, .cells (Pol.mk 0 0 0 0 0 0 0 0 0 0 false false .none 0 0 0).cells 28 (0, 0)), (b6, .cells #[.bool al, .bool no, .slice A n k, .int .i64 delay] 26 (0, 0)), (b5, .cells q1.cells 28 (0, 0)), (W.heap.size, .cells cf.cells 23 (0, 0))])) := ⟨⟨_, H⟩⟩
  refine Calm.region (fun w' => ∃ x : Kp (Bk W [(b8, .cells (Pol.mk 0 0 0 0 0 0 0 0 0 0 false false .none 0 0 0).cells 28 (0, 0)), (b6, .cells #[.bool al, .bool no, .slice A n k, .int .i64 delay] 26 (0, 0)), (b5, .cells q1.cells 28 (0, 0)), (W.heap.size, .cells cf.cells 23 (0, 0))]), w' = x.w) [0, 1, 2, 3, 4, 5, 6] 7 [] (by kernel_rfl) (by kernel_rfl) ⟨⟨_, H.drew⟩, rfl⟩ ?_
  simp only [Calm.pick, List.drop_succ_cons, List.drop_zero, List.take_succ_cons, List.take_zero, List.cons_append, List.nil_append]
  repeat (first | go_big_quiet_skip | (go_big_quiet_want; (first | refine quiet_c W.heap.size cf (fun y => y.h.get (.tail _ (.tail _ (.tail _ (.head _))))) rfl rfl ?_ | refine quiet_p b5 q1 (fun y => y.h.get (.tail _ (.tail _ (.head _)))) rfl rfl ?_); simp only [Act.put, List.setIfInBounds_toArray, List.set_cons_succ, List.set_cons_zero]; go_big_quiet_on) | (go_big_quiet_want; go_big_quiet_op; first | go_big_quiet_on | go_big_quiet_call ((go_at_call 30; exact Bk.call (Kp.h _) (least_calls cf q1 _)))))
  refine wpQuiet_nil ?_
  rintro _ ⟨x, rfl⟩
  go_upto_region 3 with (fail)
  have H2 := (Bk.put [(b8, .cells (Pol.mk 0 0 0 0 0 0 0 0 0 0 false false .none 0 0 0).cells 28 (0, 0)), (b6, .cells #[.bool al, .bool no, .slice A n k, .int .i64 delay] 26 (0, 0))] [(W.heap.size, .cells cf.cells 23 (0, 0))] (cs' := ({ q1 with gap := (mx q1.gap (leastP cf q1)) } : Pol).cells) x.h hlb5 (by intro y hy; simp only [List.cons_append, List.nil_append, List.mem_cons, List.not_mem_nil, or_false] at hy; rcases hy with rfl | rfl | rfl <;> assumption) 1 (.int .i64 (mx q1.gap (leastP cf q1))) rfl)
  generalize (x.w.setCell ⟨b5, 1, none⟩ (.int .i64 (mx q1.gap (leastP cf q1)))) = w2 at *
  clear hcb4 hcb5 hfb5 hN H
  try clear x
  have H := H2; clear H2
  generalize hq2 : ({ q1 with gap := (mx q1.gap (leastP cf q1)) } : Pol) = q2 at *
  have Hq2 := Aside0.mk hq2
  clear hq2
  have hc5 : ∀ i, w2.cell? ⟨b5, i, none⟩ = q2.cells[i]? := fun i => H.cell (.tail _ (.tail _ (.head _))) i
  have hT := st28 (H.get (.head _))
  go_wp2
  refine bodyPost_ret (v := .agg q2.cells) (results_cell_row Try.results18 _ _ b8 28 q2.cells (0, 0) _ rfl (setRow_heap _ _ _ _ _ _ (H.get (.head _))) Try.underlying28 rfl size28) rfl ⟨?_, below_setRow H.1 hlb8⟩
  rw [← Hq2.out, ← Hq1.out]; rfl
end Go.Proofs.Ytdmebkdikminjaa.Given
