/- the document's Lost, Answer, Learn, walked. -/
import Derived.Test.YtdmebkdikminjaaGivE
import Derived.Outline
namespace Go.Proofs.Ytdmebkdikminjaa.Given
open Go.RowKit Go.Proofs.Ytdmebkdikminjaa.QBase Go.Proofs.YtdmebkdikminjaaW.PrintWords Go.Proofs.YtdmebkdikminjaaW.PrintLast Go.Proofs.YtdmebkdikminjaaW.PrintMore
set_option linter.unusedVariables false
set_option linter.unusedSimpArgs false
attribute [local go_sem] max2_int min2_int max_two min_two max_three min_three max_four min_four
attribute [local go_sem high] foldE foldC
attribute [local go_sem] foldP mx_fold
attribute [local go_sem high] cc0 cc1 cc2 cc3 cc4 cc5 cc6 cc7 cc8 cc9 cc10 cc11 cc12 cc13 pc0 pc1 pc2 pc3 pc4 pc5 pc6 pc7 pc8 pc9 pc10 pc11 pc12 pc13 ps0 ps1 ps2 ps3 ps4 ps5 ps6 ps7 ps8 ps9 ps10 ps11 ps12 ps13 pcs ccs
set_option maxHeartbeats 8000000 in
set_option maxRecDepth 100000 in
theorem rlost_calls (cf : Cfg) (p : Pol) (now draw : Int) (W : World) (hlo : -4611686018427387904 < p.flying) (hhi : p.flying < 4611686018427387904) : Calls Try.prog 24 #[.agg cf.cells, .agg p.cells, .int .i64 now, .int .i64 draw] W fun e w' => e = .returned (.agg (lostP cf p now draw).cells) ∧ Below W.heap.size W w' := by
  go_enter Try.func24, Try.ntmps24
  go_upto_region 1 with (fail)
  have H : Bk W ([(W.heap.size + 1 + 1, .cells (Pol.mk 0 0 0 0 0 0 0 0 0 0 false false .none 0 0 0).cells 28 (0, 0)), (W.heap.size + 1, .cells p.cells 28 (0, 0)), (W.heap.size, .cells cf.cells 23 (0, 0))] : List (Nat × Obj)) (((W.alloc (.cells cf.cells 23)).alloc (.cells p.cells 28)).alloc (.cells (Pol.mk 0 0 0 0 0 0 0 0 0 0 false false .none 0 0 0).cells 28)) := by simpa using (((Bk.start W).alloc (.cells cf.cells 23)).alloc (.cells p.cells 28)).alloc (.cells (Pol.mk 0 0 0 0 0 0 0 0 0 0 false false .none 0 0 0).cells 28)
  have hlb4 : W.heap.size ≤ W.heap.size := by omega
  have hnb4b5 : W.heap.size ≠ W.heap.size + 1 := by omega
  have hnb4b8 : W.heap.size ≠ W.heap.size + 1 + 1 := by omega
  have hlb5 : W.heap.size ≤ W.heap.size + 1 := by omega
  have hnb5b4 : W.heap.size + 1 ≠ W.heap.size := by omega
  have hnb5b8 : W.heap.size + 1 ≠ W.heap.size + 1 + 1 := by omega
  have hlb8 : W.heap.size ≤ W.heap.size + 1 + 1 := by omega
  have hnb8b4 : W.heap.size + 1 + 1 ≠ W.heap.size := by omega
  have hnb8b5 : W.heap.size + 1 + 1 ≠ W.heap.size + 1 := by omega
  generalize W.heap.size + 1 + 1 = b8 at *
  generalize W.heap.size + 1 = b5 at *
  generalize (((W.alloc (.cells cf.cells 23)).alloc (.cells p.cells 28)).alloc (.cells (Pol.mk 0 0 0 0 0 0 0 0 0 0 false false .none 0 0 0).cells 28)) = w at *
  have hcb4 : ∀ (x : Kp (Bk W [(b8, .cells (Pol.mk 0 0 0 0 0 0 0 0 0 0 false false .none 0 0 0).cells 28 (0, 0)), (b5, .cells p.cells 28 (0, 0)), (W.heap.size, .cells cf.cells 23 (0, 0))])) i, x.w.cell? ⟨W.heap.size, i, none⟩ = (cf.cells)[i]? := fun x i => x.h.cell (.tail _ (.tail _ (.head _))) i
  have hcb5 : ∀ (x : Kp (Bk W [(b8, .cells (Pol.mk 0 0 0 0 0 0 0 0 0 0 false false .none 0 0 0).cells 28 (0, 0)), (b5, .cells p.cells 28 (0, 0)), (W.heap.size, .cells cf.cells 23 (0, 0))])) i, x.w.cell? ⟨b5, i, none⟩ = (p.cells)[i]? := fun x i => x.h.cell (.tail _ (.head _)) i
  have hN : Nonempty (Kp (Bk W [(b8, .cells (Pol.mk 0 0 0 0 0 0 0 0 0 0 false false .none 0 0 0).cells 28 (0, 0)), (b5, .cells p.cells 28 (0, 0)), (W.heap.size, .cells cf.cells 23 (0, 0))])) := ⟨⟨_, H⟩⟩
  refine Calm.region (fun w' => ∃ x : Kp (Bk W [(b8, .cells (Pol.mk 0 0 0 0 0 0 0 0 0 0 false false .none 0 0 0).cells 28 (0, 0)), (b5, .cells p.cells 28 (0, 0)), (W.heap.size, .cells cf.cells 23 (0, 0))]), w' = x.w) [0, 1, 2, 3, 4, 5] 6 [] (by kernel_rfl) (by kernel_rfl) ⟨⟨_, H.drew⟩, rfl⟩ ?_
  simp only [Calm.pick, List.drop_succ_cons, List.drop_zero, List.take_succ_cons, List.take_zero, List.cons_append, List.nil_append]
  repeat (first | go_big_quiet_skip | (go_big_quiet_want; (first | refine quiet_c W.heap.size cf (fun y => y.h.get (.tail _ (.tail _ (.head _)))) rfl rfl ?_ | refine quiet_p b5 p (fun y => y.h.get (.tail _ (.head _))) rfl rfl ?_); simp only [Act.put, List.setIfInBounds_toArray, List.set_cons_succ, List.set_cons_zero]; go_big_quiet_on) | (go_big_quiet_want; go_big_quiet_op; first | go_big_quiet_on | go_big_quiet_call (first
      | (go_at_call 34; exact Bk.call (Kp.h _) (landed_calls p _ hlo hhi))
      | (go_at_call 35; exact Bk.call (Kp.h _) (rfail_calls cf (landP p) now draw _)))))
  refine wpQuiet_nil ?_
  rintro _ ⟨x, rfl⟩
  have hT := st28 (x.h.get (.head _))
  go_wp2
  refine bodyPost_ret (v := .agg (failP cf (landP p) now draw).cells) (results_cell_row Try.results24 _ _ b8 28 (failP cf (landP p) now draw).cells (0, 0) _ rfl (setRow_heap _ _ _ _ _ _ (x.h.get (.head _))) Try.underlying28 rfl size28) rfl ⟨?_, below_setRow x.h.1 hlb8⟩
  rfl
set_option maxHeartbeats 8000000 in
set_option maxRecDepth 100000 in
theorem ranswer_calls (cf : Cfg) (p : Pol) (cls retry reset now draw : Int) (W : World) (hlo : -4611686018427387904 < p.flying) (hhi : p.flying < 4611686018427387904) : Calls Try.prog 22 #[.agg cf.cells, .agg p.cells, .agg #[.int .i64 cls, .int .i64 retry, .int .i64 reset], .int .i64 now, .int .i64 draw] W fun e w' => e = .returned (.agg (answerP cf p cls retry reset now draw).cells) ∧ Below W.heap.size W w' := by
  go_enter Try.func22, Try.ntmps22
  go_upto_region 1 with (fail)
  have H : Bk W ([(W.heap.size + 1 + 1 + 1, .cells (Pol.mk 0 0 0 0 0 0 0 0 0 0 false false .none 0 0 0).cells 28 (0, 0)), (W.heap.size + 1 + 1, .cells #[.int .i64 cls, .int .i64 retry, .int .i64 reset] 42 (0, 0)), (W.heap.size + 1, .cells p.cells 28 (0, 0)), (W.heap.size, .cells cf.cells 23 (0, 0))] : List (Nat × Obj)) ((((W.alloc (.cells cf.cells 23)).alloc (.cells p.cells 28)).alloc (.cells #[.int .i64 cls, .int .i64 retry, .int .i64 reset] 42)).alloc (.cells (Pol.mk 0 0 0 0 0 0 0 0 0 0 false false .none 0 0 0).cells 28)) := by simpa using ((((Bk.start W).alloc (.cells cf.cells 23)).alloc (.cells p.cells 28)).alloc (.cells #[.int .i64 cls, .int .i64 retry, .int .i64 reset] 42)).alloc (.cells (Pol.mk 0 0 0 0 0 0 0 0 0 0 false false .none 0 0 0).cells 28)
  have hlb5 : W.heap.size ≤ W.heap.size := by omega
  have hnb5b6 : W.heap.size ≠ W.heap.size + 1 := by omega
  have hnb5b7 : W.heap.size ≠ W.heap.size + 1 + 1 := by omega
  have hnb5bA : W.heap.size ≠ W.heap.size + 1 + 1 + 1 := by omega
  have hlb6 : W.heap.size ≤ W.heap.size + 1 := by omega
  have hnb6b5 : W.heap.size + 1 ≠ W.heap.size := by omega
  have hnb6b7 : W.heap.size + 1 ≠ W.heap.size + 1 + 1 := by omega
  have hnb6bA : W.heap.size + 1 ≠ W.heap.size + 1 + 1 + 1 := by omega
  have hlb7 : W.heap.size ≤ W.heap.size + 1 + 1 := by omega
  have hnb7b5 : W.heap.size + 1 + 1 ≠ W.heap.size := by omega
  have hnb7b6 : W.heap.size + 1 + 1 ≠ W.heap.size + 1 := by omega
  have hnb7bA : W.heap.size + 1 + 1 ≠ W.heap.size + 1 + 1 + 1 := by omega
  have hlbA : W.heap.size ≤ W.heap.size + 1 + 1 + 1 := by omega
  have hnbAb5 : W.heap.size + 1 + 1 + 1 ≠ W.heap.size := by omega
  have hnbAb6 : W.heap.size + 1 + 1 + 1 ≠ W.heap.size + 1 := by omega
  have hnbAb7 : W.heap.size + 1 + 1 + 1 ≠ W.heap.size + 1 + 1 := by omega
  generalize W.heap.size + 1 + 1 + 1 = bA at *
  generalize W.heap.size + 1 + 1 = b7 at *
  generalize W.heap.size + 1 = b6 at *
  generalize ((((W.alloc (.cells cf.cells 23)).alloc (.cells p.cells 28)).alloc (.cells #[.int .i64 cls, .int .i64 retry, .int .i64 reset] 42)).alloc (.cells (Pol.mk 0 0 0 0 0 0 0 0 0 0 false false .none 0 0 0).cells 28)) = w at *
  have hcb6 : ∀ (x : Kp (Bk W [(bA, .cells (Pol.mk 0 0 0 0 0 0 0 0 0 0 false false .none 0 0 0).cells 28 (0, 0)), (b7, .cells #[.int .i64 cls, .int .i64 retry, .int .i64 reset] 42 (0, 0)), (b6, .cells p.cells 28 (0, 0)), (W.heap.size, .cells cf.cells 23 (0, 0))])) i, x.w.cell? ⟨b6, i, none⟩ = (p.cells)[i]? := fun x i => x.h.cell (.tail _ (.tail _ (.head _))) i
  have hN : Nonempty (Kp (Bk W [(bA, .cells (Pol.mk 0 0 0 0 0 0 0 0 0 0 false false .none 0 0 0).cells 28 (0, 0)), (b7, .cells #[.int .i64 cls, .int .i64 retry, .int .i64 reset] 42 (0, 0)), (b6, .cells p.cells 28 (0, 0)), (W.heap.size, .cells cf.cells 23 (0, 0))])) := ⟨⟨_, H⟩⟩
  refine Calm.plain (fun w' => ∃ x : Kp (Bk W [(bA, .cells (Pol.mk 0 0 0 0 0 0 0 0 0 0 false false .none 0 0 0).cells 28 (0, 0)), (b7, .cells #[.int .i64 cls, .int .i64 retry, .int .i64 reset] 42 (0, 0)), (b6, .cells p.cells 28 (0, 0)), (W.heap.size, .cells cf.cells 23 (0, 0))]), w' = x.w) 2 ⟨⟨_, H⟩, rfl⟩ ?_
  simp only [List.take_succ_cons, List.take_zero, List.drop_succ_cons, List.drop_zero]
  repeat (first | go_big_quiet_skip | (go_big_quiet_want; (first | refine quiet_p b6 p (fun y => y.h.get (.tail _ (.tail _ (.head _)))) rfl rfl ?_); simp only [Act.put, List.setIfInBounds_toArray, List.set_cons_succ, List.set_cons_zero]; go_big_quiet_on) | (go_big_quiet_want; go_big_quiet_op; first | go_big_quiet_on | go_big_quiet_call ((go_at_call 34; exact Bk.call (Kp.h _) (landed_calls p _ hlo hhi)))))
  refine wpQuiet_nil ?_
  rintro _ ⟨x, rfl⟩
  have hT := st28 (x.h.get (.tail _ (.tail _ (.head _))))
  go_upto_region 2 with (fail)
  have H2 := Bk.row [(bA, .cells (Pol.mk 0 0 0 0 0 0 0 0 0 0 false false .none 0 0 0).cells 28 (0, 0)), (b7, .cells #[.int .i64 cls, .int .i64 retry, .int .i64 reset] 42 (0, 0))] [(W.heap.size, .cells cf.cells 23 (0, 0))] (cs' := (landP p).cells) x.h hlb6 (by intro y hy; simp only [List.cons_append, List.nil_append, List.mem_cons, List.not_mem_nil, or_false] at hy; rcases hy with rfl | rfl | rfl <;> assumption)
  generalize x.w.setRow b6 ((landP p).cells) = w2 at *
  clear hT
  clear hcb6 hN H
  try clear x
  have H := H2; clear H2
  generalize hq1 : (landP p : Pol) = q1 at *
  have Hq1 := Aside0.mk hq1
  clear hq1
  have gcb6 : ∀ i, w2.cell? ⟨b6, i, none⟩ = (q1.cells)[i]? := fun i => H.cell (.tail _ (.tail _ (.head _))) i
  have gcb7 : ∀ i, w2.cell? ⟨b7, i, none⟩ = (#[.int .i64 cls, .int .i64 retry, .int .i64 reset])[i]? := fun i => H.cell (.tail _ (.head _)) i
  have gfb6 : ∀ i, w2.frozen? ⟨b6, i, none⟩ = false := fun i => H.free (.tail _ (.tail _ (.head _))) i
  go_upto_if 17 with (fail)
  go_cut [] (fun w' => Aside0 (Bk W [(bA, .cells (Pol.mk 0 0 0 0 0 0 0 0 0 0 false false .none 0 0 0).cells 28 (0, 0)), (b7, .cells #[.int .i64 cls, .int .i64 retry, .int .i64 reset] 42 (0, 0)), (b6, .cells ({ q1 with retry := mx q1.retry retry } : Pol).cells 28 (0, 0)), (W.heap.size, .cells cf.cells 23 (0, 0))] w'))
  case first =>
    by_cases h : q1.retry < retry
    · go_wp2; go_meet
      case rel =>
        have e : mx q1.retry retry = retry := by unfold mx; omega
        rw [e]; exact ⟨Bk.put [(bA, .cells (Pol.mk 0 0 0 0 0 0 0 0 0 0 false false .none 0 0 0).cells 28 (0, 0)), (b7, .cells #[.int .i64 cls, .int .i64 retry, .int .i64 reset] 42 (0, 0))] [(W.heap.size, .cells cf.cells 23 (0, 0))] (cs' := ({ q1 with retry := retry } : Pol).cells) H hlb6 (by intro y hy; simp only [List.cons_append, List.nil_append, List.mem_cons, List.not_mem_nil, or_false] at hy; rcases hy with rfl | rfl | rfl <;> assumption) 6 (.int .i64 retry) rfl⟩
    · go_wp2; go_meet
      case rel =>
        have e : mx q1.retry retry = q1.retry := by unfold mx; omega
        rw [e]; exact ⟨H⟩
  case rest =>
    clear H gcb6 gcb7 gfb6
    have H := hcut.out; clear hcut
    generalize hq2 : ({ q1 with retry := mx q1.retry retry } : Pol) = q2 at *
    have Hq2 := Aside0.mk hq2
    clear hq2
    rename_i wd
    have gcb6 : ∀ i, wc.cell? ⟨b6, i, none⟩ = (q2.cells)[i]? := fun i => H.cell (.tail _ (.tail _ (.head _))) i
    have gcb7 : ∀ i, wc.cell? ⟨b7, i, none⟩ = (#[.int .i64 cls, .int .i64 retry, .int .i64 reset])[i]? := fun i => H.cell (.tail _ (.head _)) i
    have gfb6 : ∀ i, wc.frozen? ⟨b6, i, none⟩ = false := fun i => H.free (.tail _ (.tail _ (.head _))) i
    go_upto_if 25 with (fail)
    go_cut [] (fun w' => Aside0 (Bk W [(bA, .cells (Pol.mk 0 0 0 0 0 0 0 0 0 0 false false .none 0 0 0).cells 28 (0, 0)), (b7, .cells #[.int .i64 cls, .int .i64 retry, .int .i64 reset] 42 (0, 0)), (b6, .cells ({ q2 with reset := mx q2.reset reset } : Pol).cells 28 (0, 0)), (W.heap.size, .cells cf.cells 23 (0, 0))] w'))
    case first =>
      by_cases h : q2.reset < reset
      · go_wp2; go_meet
        case rel =>
          have e : mx q2.reset reset = reset := by unfold mx; omega
          rw [e]; exact ⟨Bk.put [(bA, .cells (Pol.mk 0 0 0 0 0 0 0 0 0 0 false false .none 0 0 0).cells 28 (0, 0)), (b7, .cells #[.int .i64 cls, .int .i64 retry, .int .i64 reset] 42 (0, 0))] [(W.heap.size, .cells cf.cells 23 (0, 0))] (cs' := ({ q2 with reset := reset } : Pol).cells) H hlb6 (by intro y hy; simp only [List.cons_append, List.nil_append, List.mem_cons, List.not_mem_nil, or_false] at hy; rcases hy with rfl | rfl | rfl <;> assumption) 7 (.int .i64 reset) rfl⟩
      · go_wp2; go_meet
        case rel =>
          have e : mx q2.reset reset = q2.reset := by unfold mx; omega
          rw [e]; exact ⟨H⟩
    case rest =>
      clear H gcb6 gcb7 gfb6
      have H := hcut.out; clear hcut
      generalize hq3 : ({ q2 with reset := mx q2.reset reset } : Pol) = q3 at *
      have Hq3 := Aside0.mk hq3
      clear hq3
      have gcb7 : ∀ i, wc.cell? ⟨b7, i, none⟩ = (#[.int .i64 cls, .int .i64 retry, .int .i64 reset])[i]? := fun i => H.cell (.tail _ (.head _)) i
      rcases (by omega : cls = 3 ∨ cls = 4 ∨ (cls ≠ 3 ∧ cls ≠ 4)) with h | h | h
      · have t1 : (cls == 3) = true := by simp [h]
        have Hh := Aside0.mk h
        clear h
        go_upto_region 7 with (fail)
        clear t1 gcb7
        have hcb5 : ∀ (x : Kp (Bk W [(bA, .cells (Pol.mk 0 0 0 0 0 0 0 0 0 0 false false .none 0 0 0).cells 28 (0, 0)), (b7, .cells #[.int .i64 cls, .int .i64 retry, .int .i64 reset] 42 (0, 0)), (b6, .cells q3.cells 28 (0, 0)), (W.heap.size, .cells cf.cells 23 (0, 0))])) i, x.w.cell? ⟨W.heap.size, i, none⟩ = (cf.cells)[i]? := fun x i => x.h.cell (.tail _ (.tail _ (.tail _ (.head _)))) i
        have hcb6 : ∀ (x : Kp (Bk W [(bA, .cells (Pol.mk 0 0 0 0 0 0 0 0 0 0 false false .none 0 0 0).cells 28 (0, 0)), (b7, .cells #[.int .i64 cls, .int .i64 retry, .int .i64 reset] 42 (0, 0)), (b6, .cells q3.cells 28 (0, 0)), (W.heap.size, .cells cf.cells 23 (0, 0))])) i, x.w.cell? ⟨b6, i, none⟩ = (q3.cells)[i]? := fun x i => x.h.cell (.tail _ (.tail _ (.head _))) i
        have hN : Nonempty (Kp (Bk W [(bA, .cells (Pol.mk 0 0 0 0 0 0 0 0 0 0 false false .none 0 0 0).cells 28 (0, 0)), (b7, .cells #[.int .i64 cls, .int .i64 retry, .int .i64 reset] 42 (0, 0)), (b6, .cells q3.cells 28 (0, 0)), (W.heap.size, .cells cf.cells 23 (0, 0))])) := ⟨⟨_, H⟩⟩
        refine Calm.plain (fun w' => ∃ x : Kp (Bk W [(bA, .cells (Pol.mk 0 0 0 0 0 0 0 0 0 0 false false .none 0 0 0).cells 28 (0, 0)), (b7, .cells #[.int .i64 cls, .int .i64 retry, .int .i64 reset] 42 (0, 0)), (b6, .cells q3.cells 28 (0, 0)), (W.heap.size, .cells cf.cells 23 (0, 0))]), w' = x.w) 5 ⟨⟨_, H⟩, rfl⟩ ?_
        simp only [List.take_succ_cons, List.take_zero, List.drop_succ_cons, List.drop_zero]
        repeat (first | go_big_quiet_skip | (go_big_quiet_want; (first | refine quiet_c W.heap.size cf (fun y => y.h.get (.tail _ (.tail _ (.tail _ (.head _))))) rfl rfl ?_ | refine quiet_p b6 q3 (fun y => y.h.get (.tail _ (.tail _ (.head _)))) rfl rfl ?_); simp only [Act.put, List.setIfInBounds_toArray, List.set_cons_succ, List.set_cons_zero]; go_big_quiet_on) | (go_big_quiet_want; go_big_quiet_op; first | go_big_quiet_on | go_big_quiet_call ((go_at_call 35; exact Bk.call (Kp.h _) (rfail_calls cf q3 now draw _)))))
        refine wpQuiet_nil ?_
        rintro _ ⟨x, rfl⟩
        have hT := st28 (x.h.get (.head _))
        go_wp2
        refine bodyPost_ret (v := .agg (failP cf q3 now draw).cells) (results_cell_row Try.results22 _ _ bA 28 (failP cf q3 now draw).cells (0, 0) _ rfl (setRow_heap _ _ _ _ _ _ (x.h.get (.head _))) Try.underlying28 rfl size28) rfl ⟨?_, below_setRow x.h.1 hlbA⟩
        rw [← Hq3.out, ← Hq2.out, ← Hq1.out]; unfold answerP; rw [if_pos (by exact .inl Hh.out)]; rfl
      · have t1 : (cls == 3) = false := by simp [h]
        have t2 : (cls == 4) = true := by simp [h]
        have Hh := Aside0.mk h
        clear h
        go_upto_region 7 with (fail)
        clear t1 t2 gcb7
        have hcb5 : ∀ (x : Kp (Bk W [(bA, .cells (Pol.mk 0 0 0 0 0 0 0 0 0 0 false false .none 0 0 0).cells 28 (0, 0)), (b7, .cells #[.int .i64 cls, .int .i64 retry, .int .i64 reset] 42 (0, 0)), (b6, .cells q3.cells 28 (0, 0)), (W.heap.size, .cells cf.cells 23 (0, 0))])) i, x.w.cell? ⟨W.heap.size, i, none⟩ = (cf.cells)[i]? := fun x i => x.h.cell (.tail _ (.tail _ (.tail _ (.head _)))) i
        have hcb6 : ∀ (x : Kp (Bk W [(bA, .cells (Pol.mk 0 0 0 0 0 0 0 0 0 0 false false .none 0 0 0).cells 28 (0, 0)), (b7, .cells #[.int .i64 cls, .int .i64 retry, .int .i64 reset] 42 (0, 0)), (b6, .cells q3.cells 28 (0, 0)), (W.heap.size, .cells cf.cells 23 (0, 0))])) i, x.w.cell? ⟨b6, i, none⟩ = (q3.cells)[i]? := fun x i => x.h.cell (.tail _ (.tail _ (.head _))) i
        have hN : Nonempty (Kp (Bk W [(bA, .cells (Pol.mk 0 0 0 0 0 0 0 0 0 0 false false .none 0 0 0).cells 28 (0, 0)), (b7, .cells #[.int .i64 cls, .int .i64 retry, .int .i64 reset] 42 (0, 0)), (b6, .cells q3.cells 28 (0, 0)), (W.heap.size, .cells cf.cells 23 (0, 0))])) := ⟨⟨_, H⟩⟩
        refine Calm.plain (fun w' => ∃ x : Kp (Bk W [(bA, .cells (Pol.mk 0 0 0 0 0 0 0 0 0 0 false false .none 0 0 0).cells 28 (0, 0)), (b7, .cells #[.int .i64 cls, .int .i64 retry, .int .i64 reset] 42 (0, 0)), (b6, .cells q3.cells 28 (0, 0)), (W.heap.size, .cells cf.cells 23 (0, 0))]), w' = x.w) 5 ⟨⟨_, H⟩, rfl⟩ ?_
        simp only [List.take_succ_cons, List.take_zero, List.drop_succ_cons, List.drop_zero]
        repeat (first | go_big_quiet_skip | (go_big_quiet_want; (first | refine quiet_c W.heap.size cf (fun y => y.h.get (.tail _ (.tail _ (.tail _ (.head _))))) rfl rfl ?_ | refine quiet_p b6 q3 (fun y => y.h.get (.tail _ (.tail _ (.head _)))) rfl rfl ?_); simp only [Act.put, List.setIfInBounds_toArray, List.set_cons_succ, List.set_cons_zero]; go_big_quiet_on) | (go_big_quiet_want; go_big_quiet_op; first | go_big_quiet_on | go_big_quiet_call ((go_at_call 35; exact Bk.call (Kp.h _) (rfail_calls cf q3 now draw _)))))
        refine wpQuiet_nil ?_
        rintro _ ⟨x, rfl⟩
        have hT := st28 (x.h.get (.head _))
        go_wp2
        refine bodyPost_ret (v := .agg (failP cf q3 now draw).cells) (results_cell_row Try.results22 _ _ bA 28 (failP cf q3 now draw).cells (0, 0) _ rfl (setRow_heap _ _ _ _ _ _ (x.h.get (.head _))) Try.underlying28 rfl size28) rfl ⟨?_, below_setRow x.h.1 hlbA⟩
        rw [← Hq3.out, ← Hq2.out, ← Hq1.out]; unfold answerP; rw [if_pos (by exact .inr Hh.out)]; rfl
      · have t1 : (cls == 3) = false := by simp [h.1]
        have t2 : (cls == 4) = false := by simp [h.2]
        have Hh := Aside0.mk h
        clear h
        have gcb6 : ∀ i, wc.cell? ⟨b6, i, none⟩ = (q3.cells)[i]? := fun i => H.cell (.tail _ (.tail _ (.head _))) i
        have gfb6 : ∀ i, wc.frozen? ⟨b6, i, none⟩ = false := fun i => H.free (.tail _ (.tail _ (.head _))) i
        go_upto_region 9 with (fail)
        clear t1 t2
        have H2 := (Bk.put [(bA, .cells (Pol.mk 0 0 0 0 0 0 0 0 0 0 false false .none 0 0 0).cells 28 (0, 0)), (b7, .cells #[.int .i64 cls, .int .i64 retry, .int .i64 reset] 42 (0, 0))] [(W.heap.size, .cells cf.cells 23 (0, 0))] (cs' := ({ q3 with state := 0, fails := 0, till := 0, exp := 0 } : Pol).cells) (Bk.put [(bA, .cells (Pol.mk 0 0 0 0 0 0 0 0 0 0 false false .none 0 0 0).cells 28 (0, 0)), (b7, .cells #[.int .i64 cls, .int .i64 retry, .int .i64 reset] 42 (0, 0))] [(W.heap.size, .cells cf.cells 23 (0, 0))] (cs' := ({ q3 with state := 0, fails := 0, till := 0 } : Pol).cells) (Bk.put [(bA, .cells (Pol.mk 0 0 0 0 0 0 0 0 0 0 false false .none 0 0 0).cells 28 (0, 0)), (b7, .cells #[.int .i64 cls, .int .i64 retry, .int .i64 reset] 42 (0, 0))] [(W.heap.size, .cells cf.cells 23 (0, 0))] (cs' := ({ q3 with state := 0, fails := 0 } : Pol).cells) (Bk.put [(bA, .cells (Pol.mk 0 0 0 0 0 0 0 0 0 0 false false .none 0 0 0).cells 28 (0, 0)), (b7, .cells #[.int .i64 cls, .int .i64 retry, .int .i64 reset] 42 (0, 0))] [(W.heap.size, .cells cf.cells 23 (0, 0))] (cs' := ({ q3 with state := 0 } : Pol).cells) H hlb6 (by intro y hy; simp only [List.cons_append, List.nil_append, List.mem_cons, List.not_mem_nil, or_false] at hy; rcases hy with rfl | rfl | rfl <;> assumption) 4 (.int .i64 0) rfl) hlb6 (by intro y hy; simp only [List.cons_append, List.nil_append, List.mem_cons, List.not_mem_nil, or_false] at hy; rcases hy with rfl | rfl | rfl <;> assumption) 3 (.int .i64 0) rfl) hlb6 (by intro y hy; simp only [List.cons_append, List.nil_append, List.mem_cons, List.not_mem_nil, or_false] at hy; rcases hy with rfl | rfl | rfl <;> assumption) 5 (.int .i64 0) rfl) hlb6 (by intro y hy; simp only [List.cons_append, List.nil_append, List.mem_cons, List.not_mem_nil, or_false] at hy; rcases hy with rfl | rfl | rfl <;> assumption) 2 (.int .i64 0) rfl)
        generalize ((((wc.setCell ⟨b6, 4, none⟩ (.int .i64 0)).setCell ⟨b6, 3, none⟩ (.int .i64 0)).setCell ⟨b6, 5, none⟩ (.int .i64 0)).setCell ⟨b6, 2, none⟩ (.int .i64 0)) = w2 at *
        clear gcb7 gcb6 gfb6 H
        try clear x
        have H := H2; clear H2
        generalize hq4 : ({ q3 with state := 0, fails := 0, till := 0, exp := 0 } : Pol) = q4 at *
        have Hq4 := Aside0.mk hq4
        clear hq4
        have hcb5 : ∀ (x : Kp (Bk W [(bA, .cells (Pol.mk 0 0 0 0 0 0 0 0 0 0 false false .none 0 0 0).cells 28 (0, 0)), (b7, .cells #[.int .i64 cls, .int .i64 retry, .int .i64 reset] 42 (0, 0)), (b6, .cells q4.cells 28 (0, 0)), (W.heap.size, .cells cf.cells 23 (0, 0))])) i, x.w.cell? ⟨W.heap.size, i, none⟩ = (cf.cells)[i]? := fun x i => x.h.cell (.tail _ (.tail _ (.tail _ (.head _)))) i
        have hcb6 : ∀ (x : Kp (Bk W [(bA, .cells (Pol.mk 0 0 0 0 0 0 0 0 0 0 false false .none 0 0 0).cells 28 (0, 0)), (b7, .cells #[.int .i64 cls, .int .i64 retry, .int .i64 reset] 42 (0, 0)), (b6, .cells q4.cells 28 (0, 0)), (W.heap.size, .cells cf.cells 23 (0, 0))])) i, x.w.cell? ⟨b6, i, none⟩ = (q4.cells)[i]? := fun x i => x.h.cell (.tail _ (.tail _ (.head _))) i
        have hfb6 : ∀ (x : Kp (Bk W [(bA, .cells (Pol.mk 0 0 0 0 0 0 0 0 0 0 false false .none 0 0 0).cells 28 (0, 0)), (b7, .cells #[.int .i64 cls, .int .i64 retry, .int .i64 reset] 42 (0, 0)), (b6, .cells q4.cells 28 (0, 0)), (W.heap.size, .cells cf.cells 23 (0, 0))])) i, x.w.frozen? ⟨b6, i, none⟩ = false := fun x i => x.h.free (.tail _ (.tail _ (.head _))) i
        have hN : Nonempty (Kp (Bk W [(bA, .cells (Pol.mk 0 0 0 0 0 0 0 0 0 0 false false .none 0 0 0).cells 28 (0, 0)), (b7, .cells #[.int .i64 cls, .int .i64 retry, .int .i64 reset] 42 (0, 0)), (b6, .cells q4.cells 28 (0, 0)), (W.heap.size, .cells cf.cells 23 (0, 0))])) := ⟨⟨_, H⟩⟩
        refine Calm.plain (fun w' => ∃ x : Kp (Bk W [(bA, .cells (Pol.mk 0 0 0 0 0 0 0 0 0 0 false false .none 0 0 0).cells 28 (0, 0)), (b7, .cells #[.int .i64 cls, .int .i64 retry, .int .i64 reset] 42 (0, 0)), (b6, .cells q4.cells 28 (0, 0)), (W.heap.size, .cells cf.cells 23 (0, 0))]), w' = x.w) 4 ⟨⟨_, H⟩, rfl⟩ ?_
        simp only [List.take_succ_cons, List.take_zero, List.drop_succ_cons, List.drop_zero]
        repeat (first | go_big_quiet_skip | (go_big_quiet_want; (first | refine quiet_c W.heap.size cf (fun y => y.h.get (.tail _ (.tail _ (.tail _ (.head _))))) rfl rfl ?_ | refine quiet_p b6 q4 (fun y => y.h.get (.tail _ (.tail _ (.head _)))) rfl rfl ?_); simp only [Act.put, List.setIfInBounds_toArray, List.set_cons_succ, List.set_cons_zero]; go_big_quiet_on) | (go_big_quiet_want; go_big_quiet_op; first | go_big_quiet_on | go_big_quiet_call ((go_at_call 31; exact Bk.call (Kp.h _) (rleast_calls cf q4 _)))))
        refine wpQuiet_nil ?_
        rintro _ ⟨x, rfl⟩
        go_upto_region 10 with (fail)
        have H2 := (Bk.put [(bA, .cells (Pol.mk 0 0 0 0 0 0 0 0 0 0 false false .none 0 0 0).cells 28 (0, 0)), (b7, .cells #[.int .i64 cls, .int .i64 retry, .int .i64 reset] 42 (0, 0))] [(W.heap.size, .cells cf.cells 23 (0, 0))] (cs' := ({ q4 with gap := leastP cf q4 } : Pol).cells) x.h hlb6 (by intro y hy; simp only [List.cons_append, List.nil_append, List.mem_cons, List.not_mem_nil, or_false] at hy; rcases hy with rfl | rfl | rfl <;> assumption) 1 (.int .i64 (leastP cf q4)) rfl)
        generalize (x.w.setCell ⟨b6, 1, none⟩ (.int .i64 (leastP cf q4))) = w2 at *
        clear hcb5 hcb6 hfb6 hN H
        try clear x
        have H := H2; clear H2
        generalize hq5 : ({ q4 with gap := leastP cf q4 } : Pol) = q5 at *
        have Hq5 := Aside0.mk hq5
        clear hq5
        have hc5 : ∀ i, w2.cell? ⟨b6, i, none⟩ = q5.cells[i]? := fun i => H.cell (.tail _ (.tail _ (.head _))) i
        have hT := st28 (H.get (.head _))
        go_wp2
        refine bodyPost_ret (v := .agg q5.cells) (results_cell_row Try.results22 _ _ bA 28 q5.cells (0, 0) _ rfl (setRow_heap _ _ _ _ _ _ (H.get (.head _))) Try.underlying28 rfl size28) rfl ⟨?_, below_setRow H.1 hlbA⟩
        rw [← Hq5.out, ← Hq4.out, ← Hq3.out, ← Hq2.out, ← Hq1.out]; unfold answerP; rw [if_neg (by have := Hh.out; omega)]; rfl
set_option maxHeartbeats 8000000 in
set_option maxRecDepth 100000 in
theorem rlearn_calls (cf : Cfg) (p : Pol) (al no : Bool) (A : Option Addr) (n k : Nat) (delay now : Int) (W : World) : Calls Try.prog 19 #[.agg cf.cells, .agg p.cells, .agg #[.bool al, .bool no, .slice A n k, .int .i64 delay], .int .i64 now] W fun e w' => e = .returned (.agg (learnP cf p al no A n k delay now).cells) ∧ Below W.heap.size W w' := by
  go_enter Try.func19, Try.ntmps19
  go_upto_region 1 with (fail)
  have H : Bk W ([(W.heap.size + 1 + 1 + 1, .cells (Pol.mk 0 0 0 0 0 0 0 0 0 0 false false .none 0 0 0).cells 28 (0, 0)), (W.heap.size + 1 + 1, .cells #[.bool al, .bool no, .slice A n k, .int .i64 delay] 26 (0, 0)), (W.heap.size + 1, .cells p.cells 28 (0, 0)), (W.heap.size, .cells cf.cells 23 (0, 0))] : List (Nat × Obj)) ((((W.alloc (.cells cf.cells 23)).alloc (.cells p.cells 28)).alloc (.cells #[.bool al, .bool no, .slice A n k, .int .i64 delay] 26)).alloc (.cells (Pol.mk 0 0 0 0 0 0 0 0 0 0 false false .none 0 0 0).cells 28)) := by simpa using ((((Bk.start W).alloc (.cells cf.cells 23)).alloc (.cells p.cells 28)).alloc (.cells #[.bool al, .bool no, .slice A n k, .int .i64 delay] 26)).alloc (.cells (Pol.mk 0 0 0 0 0 0 0 0 0 0 false false .none 0 0 0).cells 28)
  have hlb4 : W.heap.size ≤ W.heap.size := by omega
  have hnb4b5 : W.heap.size ≠ W.heap.size + 1 := by omega
  have hnb4b6 : W.heap.size ≠ W.heap.size + 1 + 1 := by omega
  have hnb4b8 : W.heap.size ≠ W.heap.size + 1 + 1 + 1 := by omega
  have hlb5 : W.heap.size ≤ W.heap.size + 1 := by omega
  have hnb5b4 : W.heap.size + 1 ≠ W.heap.size := by omega
  have hnb5b6 : W.heap.size + 1 ≠ W.heap.size + 1 + 1 := by omega
  have hnb5b8 : W.heap.size + 1 ≠ W.heap.size + 1 + 1 + 1 := by omega
  have hlb6 : W.heap.size ≤ W.heap.size + 1 + 1 := by omega
  have hnb6b4 : W.heap.size + 1 + 1 ≠ W.heap.size := by omega
  have hnb6b5 : W.heap.size + 1 + 1 ≠ W.heap.size + 1 := by omega
  have hnb6b8 : W.heap.size + 1 + 1 ≠ W.heap.size + 1 + 1 + 1 := by omega
  have hlb8 : W.heap.size ≤ W.heap.size + 1 + 1 + 1 := by omega
  have hnb8b4 : W.heap.size + 1 + 1 + 1 ≠ W.heap.size := by omega
  have hnb8b5 : W.heap.size + 1 + 1 + 1 ≠ W.heap.size + 1 := by omega
  have hnb8b6 : W.heap.size + 1 + 1 + 1 ≠ W.heap.size + 1 + 1 := by omega
  generalize W.heap.size + 1 + 1 + 1 = b8 at *
  generalize W.heap.size + 1 + 1 = b6 at *
  generalize W.heap.size + 1 = b5 at *
  generalize ((((W.alloc (.cells cf.cells 23)).alloc (.cells p.cells 28)).alloc (.cells #[.bool al, .bool no, .slice A n k, .int .i64 delay] 26)).alloc (.cells (Pol.mk 0 0 0 0 0 0 0 0 0 0 false false .none 0 0 0).cells 28)) = w at *
  have hcb4 : ∀ (x : Kp (Bk W [(b8, .cells (Pol.mk 0 0 0 0 0 0 0 0 0 0 false false .none 0 0 0).cells 28 (0, 0)), (b6, .cells #[.bool al, .bool no, .slice A n k, .int .i64 delay] 26 (0, 0)), (b5, .cells p.cells 28 (0, 0)), (W.heap.size, .cells cf.cells 23 (0, 0))])) i, x.w.cell? ⟨W.heap.size, i, none⟩ = (cf.cells)[i]? := fun x i => x.h.cell (.tail _ (.tail _ (.tail _ (.head _)))) i
  have hcb5 : ∀ (x : Kp (Bk W [(b8, .cells (Pol.mk 0 0 0 0 0 0 0 0 0 0 false false .none 0 0 0).cells 28 (0, 0)), (b6, .cells #[.bool al, .bool no, .slice A n k, .int .i64 delay] 26 (0, 0)), (b5, .cells p.cells 28 (0, 0)), (W.heap.size, .cells cf.cells 23 (0, 0))])) i, x.w.cell? ⟨b5, i, none⟩ = (p.cells)[i]? := fun x i => x.h.cell (.tail _ (.tail _ (.head _))) i
  have hcb6 : ∀ (x : Kp (Bk W [(b8, .cells (Pol.mk 0 0 0 0 0 0 0 0 0 0 false false .none 0 0 0).cells 28 (0, 0)), (b6, .cells #[.bool al, .bool no, .slice A n k, .int .i64 delay] 26 (0, 0)), (b5, .cells p.cells 28 (0, 0)), (W.heap.size, .cells cf.cells 23 (0, 0))])) i, x.w.cell? ⟨b6, i, none⟩ = (#[.bool al, .bool no, .slice A n k, .int .i64 delay])[i]? := fun x i => x.h.cell (.tail _ (.head _)) i
  have hfb5 : ∀ (x : Kp (Bk W [(b8, .cells (Pol.mk 0 0 0 0 0 0 0 0 0 0 false false .none 0 0 0).cells 28 (0, 0)), (b6, .cells #[.bool al, .bool no, .slice A n k, .int .i64 delay] 26 (0, 0)), (b5, .cells p.cells 28 (0, 0)), (W.heap.size, .cells cf.cells 23 (0, 0))])) i, x.w.frozen? ⟨b5, i, none⟩ = false := fun x i => x.h.free (.tail _ (.tail _ (.head _))) i
  have hN : Nonempty (Kp (Bk W [(b8, .cells (Pol.mk 0 0 0 0 0 0 0 0 0 0 false false .none 0 0 0).cells 28 (0, 0)), (b6, .cells #[.bool al, .bool no, .slice A n k, .int .i64 delay] 26 (0, 0)), (b5, .cells p.cells 28 (0, 0)), (W.heap.size, .cells cf.cells 23 (0, 0))])) := ⟨⟨_, H⟩⟩
  refine Calm.region (fun w' => ∃ x : Kp (Bk W [(b8, .cells (Pol.mk 0 0 0 0 0 0 0 0 0 0 false false .none 0 0 0).cells 28 (0, 0)), (b6, .cells #[.bool al, .bool no, .slice A n k, .int .i64 delay] 26 (0, 0)), (b5, .cells p.cells 28 (0, 0)), (W.heap.size, .cells cf.cells 23 (0, 0))]), w' = x.w) [0, 1, 2, 3, 4, 5] 6 [7, 8] (by kernel_rfl) (by kernel_rfl) ⟨⟨_, H.drew⟩, rfl⟩ ?_
  simp only [Calm.pick, List.drop_succ_cons, List.drop_zero, List.take_succ_cons, List.take_zero, List.cons_append, List.nil_append]
  repeat (first | go_big_quiet_skip | (go_big_quiet_want; (first | refine quiet_c W.heap.size cf (fun y => y.h.get (.tail _ (.tail _ (.tail _ (.head _))))) rfl rfl ?_ | refine quiet_p b5 p (fun y => y.h.get (.tail _ (.tail _ (.head _)))) rfl rfl ?_); simp only [Act.put, List.setIfInBounds_toArray, List.set_cons_succ, List.set_cons_zero]; go_big_quiet_on) | (go_big_quiet_want; go_big_quiet_op; first | go_big_quiet_on | go_big_quiet_call ((go_at_call 26; exact Bk.calld (Kp.h _) (decorumref01_Add.calls 1 _ _ _ _ (radd_eq 1 _ _ (by decide)))))))
  refine wpQuiet_nil ?_
  rintro _ ⟨x, rfl⟩
  go_upto_region 2 with (fail)
  have H2 := (Bk.put [(b8, .cells (Pol.mk 0 0 0 0 0 0 0 0 0 0 false false .none 0 0 0).cells 28 (0, 0)), (b6, .cells #[.bool al, .bool no, .slice A n k, .int .i64 delay] 26 (0, 0))] [(W.heap.size, .cells cf.cells 23 (0, 0))] (cs' := ({ p with all := al, none := no, A := A, n := n, c := k, delay := delay, known := ad now cf.keep } : Pol).cells) (Bk.put [(b8, .cells (Pol.mk 0 0 0 0 0 0 0 0 0 0 false false .none 0 0 0).cells 28 (0, 0)), (b6, .cells #[.bool al, .bool no, .slice A n k, .int .i64 delay] 26 (0, 0))] [(W.heap.size, .cells cf.cells 23 (0, 0))] (cs' := ({ p with all := al, none := no, A := A, n := n, c := k, delay := delay } : Pol).cells) (Bk.put [(b8, .cells (Pol.mk 0 0 0 0 0 0 0 0 0 0 false false .none 0 0 0).cells 28 (0, 0)), (b6, .cells #[.bool al, .bool no, .slice A n k, .int .i64 delay] 26 (0, 0))] [(W.heap.size, .cells cf.cells 23 (0, 0))] (cs' := ({ p with all := al, none := no, A := A, n := n, c := k } : Pol).cells) (Bk.put [(b8, .cells (Pol.mk 0 0 0 0 0 0 0 0 0 0 false false .none 0 0 0).cells 28 (0, 0)), (b6, .cells #[.bool al, .bool no, .slice A n k, .int .i64 delay] 26 (0, 0))] [(W.heap.size, .cells cf.cells 23 (0, 0))] (cs' := ({ p with all := al, none := no } : Pol).cells) (Bk.put [(b8, .cells (Pol.mk 0 0 0 0 0 0 0 0 0 0 false false .none 0 0 0).cells 28 (0, 0)), (b6, .cells #[.bool al, .bool no, .slice A n k, .int .i64 delay] 26 (0, 0))] [(W.heap.size, .cells cf.cells 23 (0, 0))] (cs' := ({ p with all := al } : Pol).cells) x.h hlb5 (by intro y hy; simp only [List.cons_append, List.nil_append, List.mem_cons, List.not_mem_nil, or_false] at hy; rcases hy with rfl | rfl | rfl <;> assumption) 10 (.bool al) rfl) hlb5 (by intro y hy; simp only [List.cons_append, List.nil_append, List.mem_cons, List.not_mem_nil, or_false] at hy; rcases hy with rfl | rfl | rfl <;> assumption) 11 (.bool no) rfl) hlb5 (by intro y hy; simp only [List.cons_append, List.nil_append, List.mem_cons, List.not_mem_nil, or_false] at hy; rcases hy with rfl | rfl | rfl <;> assumption) 12 (.slice A n k) rfl) hlb5 (by intro y hy; simp only [List.cons_append, List.nil_append, List.mem_cons, List.not_mem_nil, or_false] at hy; rcases hy with rfl | rfl | rfl <;> assumption) 13 (.int .i64 delay) rfl) hlb5 (by intro y hy; simp only [List.cons_append, List.nil_append, List.mem_cons, List.not_mem_nil, or_false] at hy; rcases hy with rfl | rfl | rfl <;> assumption) 9 (.int .i64 (ad now cf.keep)) rfl)
  generalize (((((x.w.setCell ⟨b5, 10, none⟩ (.bool al)).setCell ⟨b5, 11, none⟩ (.bool no)).setCell ⟨b5, 12, none⟩ (.slice A n k)).setCell ⟨b5, 13, none⟩ (.int .i64 delay)).setCell ⟨b5, 9, none⟩ (.int .i64 (ad now cf.keep))) = w2 at *
  clear hcb4 hcb5 hcb6 hfb5 hN H
  try clear x
  have H := H2; clear H2
  generalize hq1 : ({ p with all := al, none := no, A := A, n := n, c := k, delay := delay, known := ad now cf.keep } : Pol) = q1 at *
  have Hq1 := Aside0.mk hq1
  clear hq1
  have hcb4 : ∀ (x : Kp (Bk W [(b8, .cells (Pol.mk 0 0 0 0 0 0 0 0 0 0 false false .none 0 0 0).cells 28 (0, 0)), (b6, .cells #[.bool al, .bool no, .slice A n k, .int .i64 delay] 26 (0, 0)), (b5, .cells q1.cells 28 (0, 0)), (W.heap.size, .cells cf.cells 23 (0, 0))])) i, x.w.cell? ⟨W.heap.size, i, none⟩ = (cf.cells)[i]? := fun x i => x.h.cell (.tail _ (.tail _ (.tail _ (.head _)))) i
  have hcb5 : ∀ (x : Kp (Bk W [(b8, .cells (Pol.mk 0 0 0 0 0 0 0 0 0 0 false false .none 0 0 0).cells 28 (0, 0)), (b6, .cells #[.bool al, .bool no, .slice A n k, .int .i64 delay] 26 (0, 0)), (b5, .cells q1.cells 28 (0, 0)), (W.heap.size, .cells cf.cells 23 (0, 0))])) i, x.w.cell? ⟨b5, i, none⟩ = (q1.cells)[i]? := fun x i => x.h.cell (.tail _ (.tail _ (.head _))) i
  have hN : Nonempty (Kp (Bk W [(b8, .cells (Pol.mk 0 0 0 0 0 0 0 0 0 0 false false .none 0 0 0).cells 28 (0, 0)), (b6, .cells #[.bool al, .bool no, .slice A n k, .int .i64 delay] 26 (0, 0)), (b5, .cells q1.cells 28 (0, 0)), (W.heap.size, .cells cf.cells 23 (0, 0))])) := ⟨⟨_, H⟩⟩
  refine Calm.plain (fun w' => ∃ x : Kp (Bk W [(b8, .cells (Pol.mk 0 0 0 0 0 0 0 0 0 0 false false .none 0 0 0).cells 28 (0, 0)), (b6, .cells #[.bool al, .bool no, .slice A n k, .int .i64 delay] 26 (0, 0)), (b5, .cells q1.cells 28 (0, 0)), (W.heap.size, .cells cf.cells 23 (0, 0))]), w' = x.w) 3 ⟨⟨_, H⟩, rfl⟩ ?_
  simp only [List.take_succ_cons, List.take_zero, List.drop_succ_cons, List.drop_zero]
  repeat (first | go_big_quiet_skip | (go_big_quiet_want; (first | refine quiet_c W.heap.size cf (fun y => y.h.get (.tail _ (.tail _ (.tail _ (.head _))))) rfl rfl ?_ | refine quiet_p b5 q1 (fun y => y.h.get (.tail _ (.tail _ (.head _)))) rfl rfl ?_); simp only [Act.put, List.setIfInBounds_toArray, List.set_cons_succ, List.set_cons_zero]; go_big_quiet_on) | (go_big_quiet_want; go_big_quiet_op; first | go_big_quiet_on | go_big_quiet_call ((go_at_call 31; exact Bk.call (Kp.h _) (rleast_calls cf q1 _)))))
  refine wpQuiet_nil ?_
  rintro _ ⟨x, rfl⟩
  have H := x.h
  clear hcb4 hcb5 hN
  have gcb5 : ∀ i, x.w.cell? ⟨b5, i, none⟩ = (q1.cells)[i]? := fun i => H.cell (.tail _ (.tail _ (.head _))) i
  have gfb5 : ∀ i, x.w.frozen? ⟨b5, i, none⟩ = false := fun i => H.free (.tail _ (.tail _ (.head _))) i
  go_upto_if 23 with (fail)
  go_cut [] (fun w' => Aside0 (Bk W [(b8, .cells (Pol.mk 0 0 0 0 0 0 0 0 0 0 false false .none 0 0 0).cells 28 (0, 0)), (b6, .cells #[.bool al, .bool no, .slice A n k, .int .i64 delay] 26 (0, 0)), (b5, .cells ({ q1 with gap := mx q1.gap (leastP cf q1) } : Pol).cells 28 (0, 0)), (W.heap.size, .cells cf.cells 23 (0, 0))] w'))
  case first =>
    by_cases h : q1.gap < leastP cf q1
    · go_wp2; go_meet
      case rel =>
        have e : mx q1.gap (leastP cf q1) = leastP cf q1 := by unfold mx; omega
        rw [e]; exact ⟨Bk.put [(b8, .cells (Pol.mk 0 0 0 0 0 0 0 0 0 0 false false .none 0 0 0).cells 28 (0, 0)), (b6, .cells #[.bool al, .bool no, .slice A n k, .int .i64 delay] 26 (0, 0))] [(W.heap.size, .cells cf.cells 23 (0, 0))] (cs' := ({ q1 with gap := leastP cf q1 } : Pol).cells) H hlb5 (by intro y hy; simp only [List.cons_append, List.nil_append, List.mem_cons, List.not_mem_nil, or_false] at hy; rcases hy with rfl | rfl | rfl <;> assumption) 1 (.int .i64 (leastP cf q1)) rfl⟩
    · go_wp2; go_meet
      case rel =>
        have e : mx q1.gap (leastP cf q1) = q1.gap := by unfold mx; omega
        rw [e]; exact ⟨H⟩
  case rest =>
    clear H gcb5 gfb5
    have H := hcut.out; clear hcut
    generalize hq2 : ({ q1 with gap := mx q1.gap (leastP cf q1) } : Pol) = q2 at *
    have Hq2 := Aside0.mk hq2
    clear hq2
    have hc5 := fun i => H.cell (.tail _ (.tail _ (.head _))) i
    have hT := st28 (H.get (.head _))
    go_wp2
    refine bodyPost_ret (v := .agg q2.cells) (results_cell_row Try.results19 _ _ b8 28 q2.cells (0, 0) _ rfl (setRow_heap _ _ _ _ _ _ (H.get (.head _))) Try.underlying28 rfl size28) rfl ⟨?_, below_setRow H.1 hlb8⟩
    rw [← Hq2.out, ← Hq1.out]; rfl
end Go.Proofs.Ytdmebkdikminjaa.Given
