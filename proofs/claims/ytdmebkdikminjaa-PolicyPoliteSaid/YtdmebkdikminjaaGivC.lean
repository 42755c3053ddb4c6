/- policy.fail, walked. -/
import Derived.Test.YtdmebkdikminjaaBk
import Derived.Outline
namespace Go.Proofs.Ytdmebkdikminjaa.Given
open Go.RowKit Go.Proofs.Ytdmebkdikminjaa.QBase Go.Proofs.YtdmebkdikminjaaW.PrintWords Go.Proofs.YtdmebkdikminjaaW.PrintLast Go.Proofs.YtdmebkdikminjaaW.PrintMore
set_option linter.unusedVariables false
set_option linter.unusedSimpArgs false
attribute [local go_sem] max2_int min2_int max_two min_two max_three min_three max_four min_four
attribute [local go_sem high] foldE foldC
attribute [local go_sem] foldP mx_fold
attribute [local go_sem high] cc0 cc1 cc2 cc3 cc4 cc5 cc6 cc7 cc8 cc9 cc10 cc11 cc12 cc13 pc0 pc1 pc2 pc3 pc4 pc5 pc6 pc7 pc8 pc9 pc10 pc11 pc12 pc13 ps0 ps1 ps2 ps3 ps4 ps5 ps6 ps7 ps8 ps9 ps10 ps11 ps12 ps13 pcs ccs
theorem upP_eq (e : Int) : back_Up.f e = some (upP e) := rfl
theorem jitP_eq (w d : Int) : back_Jitter.f w d = some (jitP w d) := jitter_eq w d
set_option maxHeartbeats 8000000 in
set_option maxRecDepth 100000 in
theorem fail_calls (cf : Cfg) (p : Pol) (now draw : Int) (W : World) : Calls Try.prog 32 #[.agg cf.cells, .agg p.cells, .int .i64 now, .int .i64 draw] W fun e w' => e = .returned (.agg (failP cf p now draw).cells) ∧ Below W.heap.size W w' := by
  obtain ⟨f1, s1, t1, hb⟩ : ∃ f1 s1 t1, brkFail p.fails p.state p.till now cf.brk cf.opn = (f1, s1, t1) := ⟨_, _, _, rfl⟩
  have HBS := Aside0.mk (show breaker_Fail.f p.state p.fails p.till now cf.brk cf.opn = some (s1, f1, t1) by rw [bfail_f, hb])
  have HBF := Aside0.mk hb
  clear hb
  go_enter Try.func32, Try.ntmps32
  go_upto_region 1 with (fail)
  have H : Bk W ([(W.heap.size + 1 + 1, .cells (Pol.mk 0 0 0 0 0 0 0 0 0 0 false false .none 0 0 0).cells 28 (0, 0)), (W.heap.size + 1, .cells p.cells 28 (0, 0)), (W.heap.size, .cells cf.cells 23 (0, 0))] : List (Nat × Obj)) (((W.alloc (.cells cf.cells 23)).alloc (.cells p.cells 28)).alloc (.cells (Pol.mk 0 0 0 0 0 0 0 0 0 0 false false .none 0 0 0).cells 28)) := by simpa using (((Bk.start W).alloc (.cells cf.cells 23)).alloc (.cells p.cells 28)).alloc (.cells (Pol.mk 0 0 0 0 0 0 0 0 0 0 false false .none 0 0 0).cells 28)
  have hlb4 : W.heap.size ≤ W.heap.size := by omega
  have hnb4b5 : W.heap.size ≠ W.heap.size + 1 := by omega
  have hnb4b8 : W.heap.size ≠ W.heap.size + 1 + 1 := by omega
  have hlb5 : W.heap.size ≤ W.heap.size + 1 := by omega
  have hnb5b4 : W.heap.size + 1 ≠ W.heap.size := by omega
  have hnb5b8 : W.heap.size + 1 ≠ W.heap.size + 1 + 1 := by omega
  have hlb8 : W.heap.size ≤ W.heap.size + 1 + 1 := by omega
  have hnb8b4 : W.heap.size + 1 + 1 ≠ W.heap.size := by omega
  have hnb8b5 : W.heap.size + 1 + 1 ≠ W.heap.size + 1 := by omega
  generalize W.heap.size + 1 + 1 = b8 at *
  generalize W.heap.size + 1 = b5 at *
  generalize (((W.alloc (.cells cf.cells 23)).alloc (.cells p.cells 28)).alloc (.cells (Pol.mk 0 0 0 0 0 0 0 0 0 0 false false .none 0 0 0).cells 28)) = w at *
  have hcb4 : ∀ (x : Kp (Bk W [(b8, .cells (Pol.mk 0 0 0 0 0 0 0 0 0 0 false false .none 0 0 0).cells 28 (0, 0)), (b5, .cells p.cells 28 (0, 0)), (W.heap.size, .cells cf.cells 23 (0, 0))])) i, x.w.cell? ⟨W.heap.size, i, none⟩ = (cf.cells)[i]? := fun x i => x.h.cell (.tail _ (.tail _ (.head _))) i
  have hcb5 : ∀ (x : Kp (Bk W [(b8, .cells (Pol.mk 0 0 0 0 0 0 0 0 0 0 false false .none 0 0 0).cells 28 (0, 0)), (b5, .cells p.cells 28 (0, 0)), (W.heap.size, .cells cf.cells 23 (0, 0))])) i, x.w.cell? ⟨b5, i, none⟩ = (p.cells)[i]? := fun x i => x.h.cell (.tail _ (.head _)) i
  have hN : Nonempty (Kp (Bk W [(b8, .cells (Pol.mk 0 0 0 0 0 0 0 0 0 0 false false .none 0 0 0).cells 28 (0, 0)), (b5, .cells p.cells 28 (0, 0)), (W.heap.size, .cells cf.cells 23 (0, 0))])) := ⟨⟨_, H⟩⟩
  refine Calm.region (fun w' => ∃ x : Kp (Bk W [(b8, .cells (Pol.mk 0 0 0 0 0 0 0 0 0 0 false false .none 0 0 0).cells 28 (0, 0)), (b5, .cells p.cells 28 (0, 0)), (W.heap.size, .cells cf.cells 23 (0, 0))]), w' = x.w) [0, 1, 2, 3, 4, 5, 6, 7, 8, 9] 10 [] (by kernel_rfl) (by kernel_rfl) ⟨⟨_, H.drew⟩, rfl⟩ ?_
  simp only [Calm.pick, List.drop_succ_cons, List.drop_zero, List.take_succ_cons, List.take_zero, List.cons_append, List.nil_append]
  repeat (first | go_big_quiet_skip | (go_big_quiet_want; (first | refine quiet_c W.heap.size cf (fun y => y.h.get (.tail _ (.tail _ (.head _)))) rfl rfl ?_ | refine quiet_p b5 p (fun y => y.h.get (.tail _ (.head _))) rfl rfl ?_); simp only [Act.put, List.setIfInBounds_toArray, List.set_cons_succ, List.set_cons_zero]; go_big_quiet_on) | (go_big_quiet_want; go_big_quiet_op; first | go_big_quiet_on | go_big_quiet_call (first
      | (go_at_call 29; exact Bk.call (Kp.h _) (of_calls p _))
      | (go_at_call 38; exact Bk.call (Kp.h _) (breaker_Fail.calls _ _ _ _ _ _ _ _ _ _ HBS.out))
      | (go_at_call 27; exact Bk.call (Kp.h _) (to_calls p _ _ _ _)))))
  refine wpQuiet_nil ?_
  rintro _ ⟨x, rfl⟩
  have hT := st28 (x.h.get (.tail _ (.head _)))
  go_upto_region 2 with (fail)
  have H2 := Bk.row [(b8, .cells (Pol.mk 0 0 0 0 0 0 0 0 0 0 false false .none 0 0 0).cells 28 (0, 0))] [(W.heap.size, .cells cf.cells 23 (0, 0))] (cs' := ({ p with state := s1, fails := f1, till := t1 } : Pol).cells) x.h hlb5 (by intro y hy; simp only [List.cons_append, List.nil_append, List.mem_cons, List.not_mem_nil, or_false] at hy; rcases hy with rfl | rfl <;> assumption)
  generalize x.w.setRow b5 (({ p with state := s1, fails := f1, till := t1 } : Pol).cells) = w2 at *
  clear hT
  clear hcb4 hcb5 hN H
  try clear x
  have H := H2; clear H2
  generalize hq1 : ({ p with state := s1, fails := f1, till := t1 } : Pol) = q1 at *
  have Hq1 := Aside0.mk hq1
  clear hq1
  have hcb5 : ∀ (x : Kp (Bk W [(b8, .cells (Pol.mk 0 0 0 0 0 0 0 0 0 0 false false .none 0 0 0).cells 28 (0, 0)), (b5, .cells q1.cells 28 (0, 0)), (W.heap.size, .cells cf.cells 23 (0, 0))])) i, x.w.cell? ⟨b5, i, none⟩ = (q1.cells)[i]? := fun x i => x.h.cell (.tail _ (.head _)) i
  have hfb5 : ∀ (x : Kp (Bk W [(b8, .cells (Pol.mk 0 0 0 0 0 0 0 0 0 0 false false .none 0 0 0).cells 28 (0, 0)), (b5, .cells q1.cells 28 (0, 0)), (W.heap.size, .cells cf.cells 23 (0, 0))])) i, x.w.frozen? ⟨b5, i, none⟩ = false := fun x i => x.h.free (.tail _ (.head _)) i
  have hN : Nonempty (Kp (Bk W [(b8, .cells (Pol.mk 0 0 0 0 0 0 0 0 0 0 false false .none 0 0 0).cells 28 (0, 0)), (b5, .cells q1.cells 28 (0, 0)), (W.heap.size, .cells cf.cells 23 (0, 0))])) := ⟨⟨_, H⟩⟩
  refine Calm.plain (fun w' => ∃ x : Kp (Bk W [(b8, .cells (Pol.mk 0 0 0 0 0 0 0 0 0 0 false false .none 0 0 0).cells 28 (0, 0)), (b5, .cells q1.cells 28 (0, 0)), (W.heap.size, .cells cf.cells 23 (0, 0))]), w' = x.w) 4 ⟨⟨_, H⟩, rfl⟩ ?_
  simp only [List.take_succ_cons, List.take_zero, List.drop_succ_cons, List.drop_zero]
  repeat (first | go_big_quiet_skip | (go_big_quiet_want; (first | refine quiet_p b5 q1 (fun y => y.h.get (.tail _ (.head _))) rfl rfl ?_); simp only [Act.put, List.setIfInBounds_toArray, List.set_cons_succ, List.set_cons_zero]; go_big_quiet_on) | (go_big_quiet_want; go_big_quiet_op; first | go_big_quiet_on | go_big_quiet_call ((go_at_call 39; exact Bk.call (Kp.h _) (back_Up.calls _ _ _ (upP_eq _))))))
  refine wpQuiet_nil ?_
  rintro _ ⟨x, rfl⟩
  go_upto_region 3 with (fail)
  have H2 := (Bk.put [(b8, .cells (Pol.mk 0 0 0 0 0 0 0 0 0 0 false false .none 0 0 0).cells 28 (0, 0))] [(W.heap.size, .cells cf.cells 23 (0, 0))] (cs' := ({ q1 with exp := upP q1.exp } : Pol).cells) x.h hlb5 (by intro y hy; simp only [List.cons_append, List.nil_append, List.mem_cons, List.not_mem_nil, or_false] at hy; rcases hy with rfl | rfl <;> assumption) 2 (.int .i64 (upP q1.exp)) rfl)
  generalize (x.w.setCell ⟨b5, 2, none⟩ (.int .i64 (upP q1.exp))) = w2 at *
  clear hcb5 hfb5 hN H
  try clear x
  have H := H2; clear H2
  generalize hq2 : ({ q1 with exp := upP q1.exp } : Pol) = q2 at *
  have Hq2 := Aside0.mk hq2
  clear hq2
  have hcb4 : ∀ (x : Kp (Bk W [(b8, .cells (Pol.mk 0 0 0 0 0 0 0 0 0 0 false false .none 0 0 0).cells 28 (0, 0)), (b5, .cells q2.cells 28 (0, 0)), (W.heap.size, .cells cf.cells 23 (0, 0))])) i, x.w.cell? ⟨W.heap.size, i, none⟩ = (cf.cells)[i]? := fun x i => x.h.cell (.tail _ (.tail _ (.head _))) i
  have hcb5 : ∀ (x : Kp (Bk W [(b8, .cells (Pol.mk 0 0 0 0 0 0 0 0 0 0 false false .none 0 0 0).cells 28 (0, 0)), (b5, .cells q2.cells 28 (0, 0)), (W.heap.size, .cells cf.cells 23 (0, 0))])) i, x.w.cell? ⟨b5, i, none⟩ = (q2.cells)[i]? := fun x i => x.h.cell (.tail _ (.head _)) i
  have hfb5 : ∀ (x : Kp (Bk W [(b8, .cells (Pol.mk 0 0 0 0 0 0 0 0 0 0 false false .none 0 0 0).cells 28 (0, 0)), (b5, .cells q2.cells 28 (0, 0)), (W.heap.size, .cells cf.cells 23 (0, 0))])) i, x.w.frozen? ⟨b5, i, none⟩ = false := fun x i => x.h.free (.tail _ (.head _)) i
  have hN : Nonempty (Kp (Bk W [(b8, .cells (Pol.mk 0 0 0 0 0 0 0 0 0 0 false false .none 0 0 0).cells 28 (0, 0)), (b5, .cells q2.cells 28 (0, 0)), (W.heap.size, .cells cf.cells 23 (0, 0))])) := ⟨⟨_, H⟩⟩
  refine Calm.region (fun w' => ∃ x : Kp (Bk W [(b8, .cells (Pol.mk 0 0 0 0 0 0 0 0 0 0 false false .none 0 0 0).cells 28 (0, 0)), (b5, .cells q2.cells 28 (0, 0)), (W.heap.size, .cells cf.cells 23 (0, 0))]), w' = x.w) [0, 1, 2, 3, 4, 5, 6, 7, 8, 9, 10, 11, 12, 13] 14 [] (by kernel_rfl) (by kernel_rfl) ⟨⟨_, H.drew⟩, rfl⟩ ?_
  simp only [Calm.pick, List.drop_succ_cons, List.drop_zero, List.take_succ_cons, List.take_zero, List.cons_append, List.nil_append]
  repeat (first | go_big_quiet_skip | (go_big_quiet_want; (first | refine quiet_c W.heap.size cf (fun y => y.h.get (.tail _ (.tail _ (.head _)))) rfl rfl ?_ | refine quiet_p b5 q2 (fun y => y.h.get (.tail _ (.head _))) rfl rfl ?_); simp only [Act.put, List.setIfInBounds_toArray, List.set_cons_succ, List.set_cons_zero]; go_big_quiet_on) | (go_big_quiet_want; go_big_quiet_op; first | go_big_quiet_on | go_big_quiet_call (first
      | (go_at_call 30; exact Bk.call (Kp.h _) (least_calls cf q2 _))
      | (go_at_call 41; exact Bk.call (Kp.h _) (back_Most.calls _ _ _ _ _ _ (back_eq 20 _ _ _ (by decide))))
      | (go_at_call 40; exact Bk.call (Kp.h _) (back_Jitter.calls _ _ _ _ (jitP_eq _ _))))))
  refine wpQuiet_nil ?_
  rintro _ ⟨x, rfl⟩
  go_upto_region 4 with (fail)
  have H2 := (Bk.put [(b8, .cells (Pol.mk 0 0 0 0 0 0 0 0 0 0 false false .none 0 0 0).cells 28 (0, 0))] [(W.heap.size, .cells cf.cells 23 (0, 0))] (cs' := ({ q2 with gap := (mx (leastP cf q2) (jitP (mst cf.base cf.most q2.exp) draw)) } : Pol).cells) x.h hlb5 (by intro y hy; simp only [List.cons_append, List.nil_append, List.mem_cons, List.not_mem_nil, or_false] at hy; rcases hy with rfl | rfl <;> assumption) 1 (.int .i64 (mx (leastP cf q2) (jitP (mst cf.base cf.most q2.exp) draw))) rfl)
  generalize (x.w.setCell ⟨b5, 1, none⟩ (.int .i64 (mx (leastP cf q2) (jitP (mst cf.base cf.most q2.exp) draw)))) = w2 at *
  clear hcb4 hcb5 hfb5 hN H
  try clear x
  have H := H2; clear H2
  generalize hq3 : ({ q2 with gap := (mx (leastP cf q2) (jitP (mst cf.base cf.most q2.exp) draw)) } : Pol) = q3 at *
  have Hq3 := Aside0.mk hq3
  clear hq3
  have hc5 : ∀ i, w2.cell? ⟨b5, i, none⟩ = q3.cells[i]? := fun i => H.cell (.tail _ (.head _)) i
  have hT := st28 (H.get (.head _))
  go_wp2
  refine bodyPost_ret (v := .agg q3.cells) (results_cell_row Try.results32 _ _ b8 28 q3.cells (0, 0) _ rfl (setRow_heap _ _ _ _ _ _ (H.get (.head _))) Try.underlying28 rfl size28) rfl ⟨?_, below_setRow H.1 hlb8⟩
  rw [← Hq3.out, ← Hq2.out, ← Hq1.out]; unfold failP; rw [HBF.out]; rfl
end Go.Proofs.Ytdmebkdikminjaa.Given
