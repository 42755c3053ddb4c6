/- The laws PolicyEligible, PolicySends, PolicyLearns, PolicyAnswers, walked: whatever the policy, the program and the document answer the same; no condition. -/
import Derived.Test.YtdmebkdikminjaaGivH
import Derived.Test.YtdmebkdikminjaaArgsPolicy
import Derived.Outline
namespace Go.Proofs.Ytdmebkdikminjaa.Given
open Go.RowKit Go.Proofs.Ytdmebkdikminjaa.QBase Go.Proofs.Ytdmebkdikminjaa.QMid Go.Proofs.YtdmebkdikminjaaW.PrintWords Go.Proofs.YtdmebkdikminjaaW.PrintLast Go.Proofs.YtdmebkdikminjaaW.PrintMore
set_option linter.unusedVariables false
set_option linter.unusedSimpArgs false
attribute [local go_sem] max2_int min2_int max_two min_two max_three min_three max_four min_four
attribute [local go_sem high] foldE foldC
attribute [local go_sem] foldP mx_fold
attribute [local go_sem high] cc0 cc1 cc2 cc3 cc4 cc5 cc6 cc7 cc8 cc9 cc10 cc11 cc12 cc13 pc0 pc1 pc2 pc3 pc4 pc5 pc6 pc7 pc8 pc9 pc10 pc11 pc12 pc13 ps0 ps1 ps2 ps3 ps4 ps5 ps6 ps7 ps8 ps9 ps10 ps11 ps12 ps13 pcs ccs
theorem pne (p : Pol) : (p.cells = #[]) = False := eq_false (fun h => Nat.succ_ne_zero 13 (congrArg Array.size h))
attribute [local go_sem] pne
theorem open23 {w : World} {v : Value} {x : ArgsPolicy.D23} (s : ∃ cs, v = .agg cs ∧ cs.size = Try.prog.cellsOf 23) (K : ArgsPolicy.kd23.K w x v.cells.toList) : ∃ cf : Cfg, v = .agg cf.cells := by
  obtain ⟨cs, rfl, _⟩ := s
  obtain ⟨x0, x1, x2, x3, x4, x5, x6, x7, x8, x9, x10, x11, x12, x13⟩ := x
  obtain ⟨_, _, e, rfl, _, _, rfl, rfl, _, _, rfl, rfl, _, _, rfl, rfl, _, _, rfl, rfl, _, _, rfl, rfl, _, _, rfl, rfl, _, _, rfl, rfl, _, _, rfl, rfl, _, _, rfl, rfl, _, _, rfl, rfl, _, _, rfl, rfl, _, _, rfl, rfl, rfl⟩ := K
  refine ⟨⟨x0, x1, x2, x3, x4, x5, x6, x7, x8, x9, x10, x11, x12, x13⟩, ?_⟩
  rw [Open.agg_cells rfl e]
  rfl
theorem bd_i64 {n : Int} (h : (Lit.int .i64 n).wf = true) : -9223372036854775808 ≤ n ∧ n ≤ 9223372036854775807 := by
  simp [Lit.wf, IntKind.min, IntKind.max, IntKind.signed, IntKind.bits] at h
  omega
theorem open28 {w : World} {v : Value} {x : ArgsPolicy.D28} (s : ∃ cs, v = .agg cs ∧ cs.size = Try.prog.cellsOf 28) (K : ArgsPolicy.kd28.K w x v.cells.toList) (g : ArgsPolicy.good28 x) :
    ∃ (p : Pol) (l : List S55), v = .agg p.cells ∧ Rl w p l ∧ l.length ≤ 4611686018427387904 ∧ -9223372036854775808 ≤ p.flying ∧ p.flying ≤ 9223372036854775807 := by
  obtain ⟨cs, rfl, _⟩ := s
  obtain ⟨x0, x1, x2, x3, x4, x5, x6, x7, x8, x9, xa, xb, l, xd⟩ := x
  obtain ⟨_, _, e, rfl, _, _, rfl, rfl, _, _, rfl, rfl, _, _, rfl, rfl, _, _, rfl, rfl, _, _, rfl, rfl, _, _, rfl, rfl, _, _, rfl, rfl, _, _, rfl, rfl, _, _, rfl, rfl, _, _, rfl, rfl, _, _, rfl, rfl, _, _, rfl, ⟨A, c, rfl, hl, hC⟩, rfl⟩ := K
  obtain ⟨_, _, _, _, _, _, _, _, g8, _, _, _, ⟨gl, _, _⟩, _⟩ := g
  refine ⟨⟨x0, x1, x2, x3, x4, x5, x6, x7, x8, x9, xa, xb, A, l.length, c, xd⟩, l, ?_, ⟨rfl, hl, hC⟩, by simp only [] at gl; omega, ?_, ?_⟩
  · rw [Open.agg_cells rfl e]; rfl
  · have := bd_i64 g8; exact this.1
  · have := bd_i64 g8; exact this.2
theorem open26 {w : World} {v : Value} {x : ArgsPolicy.D26} (s : ∃ cs, v = .agg cs ∧ cs.size = Try.prog.cellsOf 26) (K : ArgsPolicy.kd26.K w x v.cells.toList) (g : ArgsPolicy.good26 x) :
    ∃ (al no : Bool) (A : Option Addr) (c : Nat) (d : Int) (l : List S55), v = .agg #[.bool al, .bool no, .slice A l.length c, .int .i64 d] ∧ l.length ≤ c ∧ Kd.C k55 w A l.length l ∧ l.length ≤ 4611686018427387904 := by
  obtain ⟨cs, rfl, _⟩ := s
  obtain ⟨xa, xb, l, xd⟩ := x
  obtain ⟨_, _, e, rfl, _, _, rfl, rfl, _, _, rfl, ⟨A, c, rfl, hl, hC⟩, rfl⟩ := K
  obtain ⟨_, _, ⟨gl, _, _⟩, _⟩ := g
  refine ⟨xa, xb, A, c, xd, l, ?_, hl, hC, by simp only [] at gl; omega⟩
  rw [Open.agg_cells rfl e]; rfl
theorem open42 {w : World} {v : Value} {x : ArgsPolicy.D42} (s : ∃ cs, v = .agg cs ∧ cs.size = Try.prog.cellsOf 42) (K : ArgsPolicy.kd42.K w x v.cells.toList) :
    ∃ (a b c : Int), v = .agg #[.int .i64 a, .int .i64 b, .int .i64 c] := by
  obtain ⟨cs, rfl, _⟩ := s
  obtain ⟨x0, x1, x2⟩ := x
  obtain ⟨_, _, e, rfl, _, _, rfl, rfl, rfl⟩ := K
  refine ⟨x0, x1, x2, ?_⟩
  rw [Open.agg_cells rfl e]; rfl
/-- What a world of boxes still reads: the rules that lay ahead. -/
theorem Rl.kp {W : World} {L : List (Nat × Obj)} {p : Pol} {l : List S55} (h : Rl W p l) (x : Kp (Bk W L)) : Rl x.w p l := h.below x.h.1
set_option maxHeartbeats 8000000 in
set_option maxRecDepth 100000 in
theorem lawEligible (cf : Cfg) (p : Pol) (l : List S55) (W : World) (hr : Aside0 (Rl W p l)) : Calls Try.prog 3 #[.agg cf.cells, .agg p.cells] W fun e w' => e = .returned (.bool true) ∧ Below W.heap.size W w' := by
  go_enter Try.func3, Try.ntmps3
  go_upto_region 1 with (fail)
  have H : Bk W ([(W.heap.size + 1, .cells p.cells 28 (0, 0)), (W.heap.size, .cells cf.cells 23 (0, 0))] : List (Nat × Obj)) ((W.alloc (.cells cf.cells 23)).alloc (.cells p.cells 28)) := by simpa using ((Bk.start W).alloc (.cells cf.cells 23)).alloc (.cells p.cells 28)
  have hlb2 : W.heap.size ≤ W.heap.size := by omega
  have hnb2b3 : W.heap.size ≠ W.heap.size + 1 := by omega
  have hlb3 : W.heap.size ≤ W.heap.size + 1 := by omega
  have hnb3b2 : W.heap.size + 1 ≠ W.heap.size := by omega
  generalize W.heap.size + 1 = b3 at *
  generalize ((W.alloc (.cells cf.cells 23)).alloc (.cells p.cells 28)) = w at *
  have hcb2 : ∀ (x : Kp (Bk W [(b3, .cells p.cells 28 (0, 0)), (W.heap.size, .cells cf.cells 23 (0, 0))])) i, x.w.cell? ⟨W.heap.size, i, none⟩ = (cf.cells)[i]? := fun x i => x.h.cell (.tail _ (.head _)) i
  have hcb3 : ∀ (x : Kp (Bk W [(b3, .cells p.cells 28 (0, 0)), (W.heap.size, .cells cf.cells 23 (0, 0))])) i, x.w.cell? ⟨b3, i, none⟩ = (p.cells)[i]? := fun x i => x.h.cell (.head _) i
  have hN : Nonempty (Kp (Bk W [(b3, .cells p.cells 28 (0, 0)), (W.heap.size, .cells cf.cells 23 (0, 0))])) := ⟨⟨_, H⟩⟩
  refine Calm.wholeD (fun w' => ∃ x : Kp (Bk W [(b3, .cells p.cells 28 (0, 0)), (W.heap.size, .cells cf.cells 23 (0, 0))]), w' = x.w) (by kernel_rfl) (by kernel_rfl) ⟨⟨_, H.drew⟩, rfl⟩ ?_
  repeat (first | go_big_quiet_skip | (go_big_quiet_want; (first | refine quiet_c W.heap.size cf (fun y => y.h.get (.tail _ (.head _))) rfl rfl ?_ | refine quiet_p b3 p (fun y => y.h.get (.head _)) rfl rfl ?_); simp only [Act.put, List.setIfInBounds_toArray, List.set_cons_succ, List.set_cons_zero]; go_big_quiet_on) | (go_big_quiet_want; go_big_quiet_op; first | go_big_quiet_on | go_big_quiet_call (first
      | (go_at_call 9; exact Bk.call (Kp.h _) (awake_calls _))
      | (go_at_call 10; exact Bk.call (Kp.h _) (elig_calls cf (hr.out.kp _)))
      | (go_at_call 11; exact Bk.call (Kp.h _) (relig_calls cf (hr.out.kp _))))))
  refine wpQuiet_nil ?_
  rintro _ ⟨x, rfl⟩
  have HE := x.h.1
  go_wp2
  go_ret
  exact ⟨by first | rfl | simp, HE⟩
set_option maxHeartbeats 8000000 in
set_option maxRecDepth 100000 in
theorem lawSends (cf : Cfg) (p : Pol) (l : List S55) (now : Int) (W : World) (hr : Aside0 (Rl W p l)) (hl : l.length ≤ 4611686018427387904) : Calls Try.prog 4 #[.agg cf.cells, .agg p.cells, .int .i64 now] W fun e w' => e = .returned (.bool true) ∧ Below W.heap.size W w' := by
  go_enter Try.func4, Try.ntmps4
  go_upto_region 1 with (fail)
  have H : Bk W ([(W.heap.size + 1, .cells p.cells 28 (0, 0)), (W.heap.size, .cells cf.cells 23 (0, 0))] : List (Nat × Obj)) ((W.alloc (.cells cf.cells 23)).alloc (.cells p.cells 28)) := by simpa using ((Bk.start W).alloc (.cells cf.cells 23)).alloc (.cells p.cells 28)
  have hlb3 : W.heap.size ≤ W.heap.size := by omega
  have hnb3b4 : W.heap.size ≠ W.heap.size + 1 := by omega
  have hlb4 : W.heap.size ≤ W.heap.size + 1 := by omega
  have hnb4b3 : W.heap.size + 1 ≠ W.heap.size := by omega
  generalize W.heap.size + 1 = b4 at *
  generalize ((W.alloc (.cells cf.cells 23)).alloc (.cells p.cells 28)) = w at *
  obtain ⟨t, ht⟩ : ∃ t, decide ((l.length : Int) ≤ 100) = t := ⟨_, rfl⟩
  obtain ⟨u, hu⟩ : ∃ u, tameP p = u := ⟨_, rfl⟩
  have Ht := Aside0.mk ht; have Hu := Aside0.mk hu
  clear ht hu
  cases t
  · cases u
    · have e1 := Ht.out; have e2 := Hu.out
      have hcb4 : ∀ (x : Kp (Bk W [(b4, .cells p.cells 28 (0, 0)), (W.heap.size, .cells cf.cells 23 (0, 0))])) i, x.w.cell? ⟨b4, i, none⟩ = (p.cells)[i]? := fun x i => x.h.cell (.head _) i
      have hN : Nonempty (Kp (Bk W [(b4, .cells p.cells 28 (0, 0)), (W.heap.size, .cells cf.cells 23 (0, 0))])) := ⟨⟨_, H⟩⟩
      refine Calm.whole (fun w' => ∃ x : Kp (Bk W [(b4, .cells p.cells 28 (0, 0)), (W.heap.size, .cells cf.cells 23 (0, 0))]), w' = x.w) ⟨⟨_, H⟩, rfl⟩ ?_
      repeat (first | go_big_quiet_skip | (go_big_quiet_want; (first | refine quiet_p b4 p (fun y => y.h.get (.head _)) rfl rfl ?_); simp only [Act.put, List.setIfInBounds_toArray, List.set_cons_succ, List.set_cons_zero]; go_big_quiet_on) | (go_big_quiet_want; go_big_quiet_op; first | go_big_quiet_on | go_big_quiet_call (first
      | (go_at_call 12; exact Bk.call (Kp.h _) (light_calls (hr.out.kp _)))
      | (go_at_call 13; exact Bk.call (Kp.h _) (tame_calls (hr.out.kp _))))))
      refine wpQuiet_nil ?_
      rintro _ ⟨x, rfl⟩
      have H := x.h
      go_upto_region 2 with (fail)
      clear hcb4 hN e1 e2
      have hN : Nonempty (Kp (Bk W [(b4, .cells p.cells 28 (0, 0)), (W.heap.size, .cells cf.cells 23 (0, 0))])) := ⟨⟨_, H⟩⟩
      refine Calm.whole (fun w' => ∃ x : Kp (Bk W [(b4, .cells p.cells 28 (0, 0)), (W.heap.size, .cells cf.cells 23 (0, 0))]), w' = x.w) ⟨⟨_, H⟩, rfl⟩ ?_
      repeat (first | go_big_quiet_skip | (go_big_quiet_want; go_big_quiet_op; first | go_big_quiet_on | go_big_quiet_call ((go_at_call 9; exact Bk.call (Kp.h _) (awake_calls _)))))
      refine wpQuiet_nil ?_
      rintro _ ⟨x, rfl⟩
      have HE := x.h.1
      clear hN
      go_wp2
      go_ret
      exact ⟨by first | rfl | simp, HE⟩
    · have e1 := Ht.out; have e2 := Hu.out
      have hcb4 : ∀ (x : Kp (Bk W [(b4, .cells p.cells 28 (0, 0)), (W.heap.size, .cells cf.cells 23 (0, 0))])) i, x.w.cell? ⟨b4, i, none⟩ = (p.cells)[i]? := fun x i => x.h.cell (.head _) i
      have hN : Nonempty (Kp (Bk W [(b4, .cells p.cells 28 (0, 0)), (W.heap.size, .cells cf.cells 23 (0, 0))])) := ⟨⟨_, H⟩⟩
      refine Calm.whole (fun w' => ∃ x : Kp (Bk W [(b4, .cells p.cells 28 (0, 0)), (W.heap.size, .cells cf.cells 23 (0, 0))]), w' = x.w) ⟨⟨_, H⟩, rfl⟩ ?_
      repeat (first | go_big_quiet_skip | (go_big_quiet_want; (first | refine quiet_p b4 p (fun y => y.h.get (.head _)) rfl rfl ?_); simp only [Act.put, List.setIfInBounds_toArray, List.set_cons_succ, List.set_cons_zero]; go_big_quiet_on) | (go_big_quiet_want; go_big_quiet_op; first | go_big_quiet_on | go_big_quiet_call (first
      | (go_at_call 12; exact Bk.call (Kp.h _) (light_calls (hr.out.kp _)))
      | (go_at_call 13; exact Bk.call (Kp.h _) (tame_calls (hr.out.kp _))))))
      refine wpQuiet_nil ?_
      rintro _ ⟨x, rfl⟩
      have H := x.h
      go_upto_region 2 with (fail)
      clear hcb4 hN e1 e2
      have hN : Nonempty (Kp (Bk W [(b4, .cells p.cells 28 (0, 0)), (W.heap.size, .cells cf.cells 23 (0, 0))])) := ⟨⟨_, H⟩⟩
      refine Calm.whole (fun w' => ∃ x : Kp (Bk W [(b4, .cells p.cells 28 (0, 0)), (W.heap.size, .cells cf.cells 23 (0, 0))]), w' = x.w) ⟨⟨_, H⟩, rfl⟩ ?_
      repeat (first | go_big_quiet_skip | (go_big_quiet_want; go_big_quiet_op; first | go_big_quiet_on | go_big_quiet_call ((go_at_call 9; exact Bk.call (Kp.h _) (awake_calls _)))))
      refine wpQuiet_nil ?_
      rintro _ ⟨x, rfl⟩
      have HE := x.h.1
      clear hN
      go_wp2
      go_ret
      exact ⟨by first | rfl | simp, HE⟩
  · cases u
    · have e1 := Ht.out; have e2 := Hu.out
      have hcb4 : ∀ (x : Kp (Bk W [(b4, .cells p.cells 28 (0, 0)), (W.heap.size, .cells cf.cells 23 (0, 0))])) i, x.w.cell? ⟨b4, i, none⟩ = (p.cells)[i]? := fun x i => x.h.cell (.head _) i
      have hN : Nonempty (Kp (Bk W [(b4, .cells p.cells 28 (0, 0)), (W.heap.size, .cells cf.cells 23 (0, 0))])) := ⟨⟨_, H⟩⟩
      refine Calm.whole (fun w' => ∃ x : Kp (Bk W [(b4, .cells p.cells 28 (0, 0)), (W.heap.size, .cells cf.cells 23 (0, 0))]), w' = x.w) ⟨⟨_, H⟩, rfl⟩ ?_
      repeat (first | go_big_quiet_skip | (go_big_quiet_want; (first | refine quiet_p b4 p (fun y => y.h.get (.head _)) rfl rfl ?_); simp only [Act.put, List.setIfInBounds_toArray, List.set_cons_succ, List.set_cons_zero]; go_big_quiet_on) | (go_big_quiet_want; go_big_quiet_op; first | go_big_quiet_on | go_big_quiet_call (first
      | (go_at_call 12; exact Bk.call (Kp.h _) (light_calls (hr.out.kp _)))
      | (go_at_call 13; exact Bk.call (Kp.h _) (tame_calls (hr.out.kp _))))))
      refine wpQuiet_nil ?_
      rintro _ ⟨x, rfl⟩
      have H := x.h
      go_upto_region 2 with (fail)
      clear hcb4 hN e1 e2
      have hN : Nonempty (Kp (Bk W [(b4, .cells p.cells 28 (0, 0)), (W.heap.size, .cells cf.cells 23 (0, 0))])) := ⟨⟨_, H⟩⟩
      refine Calm.whole (fun w' => ∃ x : Kp (Bk W [(b4, .cells p.cells 28 (0, 0)), (W.heap.size, .cells cf.cells 23 (0, 0))]), w' = x.w) ⟨⟨_, H⟩, rfl⟩ ?_
      repeat (first | go_big_quiet_skip | (go_big_quiet_want; go_big_quiet_op; first | go_big_quiet_on | go_big_quiet_call ((go_at_call 9; exact Bk.call (Kp.h _) (awake_calls _)))))
      refine wpQuiet_nil ?_
      rintro _ ⟨x, rfl⟩
      have HE := x.h.1
      clear hN
      go_wp2
      go_ret
      exact ⟨by first | rfl | simp, HE⟩
    · have e1 := Ht.out; have e2 := Hu.out
      have hcb4 : ∀ (x : Kp (Bk W [(b4, .cells p.cells 28 (0, 0)), (W.heap.size, .cells cf.cells 23 (0, 0))])) i, x.w.cell? ⟨b4, i, none⟩ = (p.cells)[i]? := fun x i => x.h.cell (.head _) i
      have hN : Nonempty (Kp (Bk W [(b4, .cells p.cells 28 (0, 0)), (W.heap.size, .cells cf.cells 23 (0, 0))])) := ⟨⟨_, H⟩⟩
      refine Calm.whole (fun w' => ∃ x : Kp (Bk W [(b4, .cells p.cells 28 (0, 0)), (W.heap.size, .cells cf.cells 23 (0, 0))]), w' = x.w) ⟨⟨_, H⟩, rfl⟩ ?_
      repeat (first | go_big_quiet_skip | (go_big_quiet_want; (first | refine quiet_p b4 p (fun y => y.h.get (.head _)) rfl rfl ?_); simp only [Act.put, List.setIfInBounds_toArray, List.set_cons_succ, List.set_cons_zero]; go_big_quiet_on) | (go_big_quiet_want; go_big_quiet_op; first | go_big_quiet_on | go_big_quiet_call (first
      | (go_at_call 12; exact Bk.call (Kp.h _) (light_calls (hr.out.kp _)))
      | (go_at_call 13; exact Bk.call (Kp.h _) (tame_calls (hr.out.kp _))))))
      refine wpQuiet_nil ?_
      rintro _ ⟨x, rfl⟩
      have H := x.h
      go_upto_region 3 with (fail)
      clear hcb4 hN e1 e2
      have hcb3 : ∀ (x : Kp (Bk W [(b4, .cells p.cells 28 (0, 0)), (W.heap.size, .cells cf.cells 23 (0, 0))])) i, x.w.cell? ⟨W.heap.size, i, none⟩ = (cf.cells)[i]? := fun x i => x.h.cell (.tail _ (.head _)) i
      have hcb4 : ∀ (x : Kp (Bk W [(b4, .cells p.cells 28 (0, 0)), (W.heap.size, .cells cf.cells 23 (0, 0))])) i, x.w.cell? ⟨b4, i, none⟩ = (p.cells)[i]? := fun x i => x.h.cell (.head _) i
      have hN : Nonempty (Kp (Bk W [(b4, .cells p.cells 28 (0, 0)), (W.heap.size, .cells cf.cells 23 (0, 0))])) := ⟨⟨_, H⟩⟩
      refine Calm.wholeD (fun w' => ∃ x : Kp (Bk W [(b4, .cells p.cells 28 (0, 0)), (W.heap.size, .cells cf.cells 23 (0, 0))]), w' = x.w) (by kernel_rfl) (by kernel_rfl) ⟨⟨_, H.drew⟩, rfl⟩ ?_
      repeat (first | go_big_quiet_skip | (go_big_quiet_want; (first | refine quiet_c W.heap.size cf (fun y => y.h.get (.tail _ (.head _))) rfl rfl ?_ | refine quiet_p b4 p (fun y => y.h.get (.head _)) rfl rfl ?_); simp only [Act.put, List.setIfInBounds_toArray, List.set_cons_succ, List.set_cons_zero]; go_big_quiet_on) | (go_big_quiet_want; go_big_quiet_op; first | go_big_quiet_on | go_big_quiet_call (first
      | (go_at_call 9; exact Bk.call (Kp.h _) (awake_calls _))
      | (go_at_call 15; exact Bk.call (Kp.h _) (send_calls cf p now _))
      | (go_at_call 16; exact Bk.call (Kp.h _) (rsend_calls p now _))
      | (go_at_call 17; exact Bk.call (Kp.h _) (knows_calls p now _))
      | (go_at_call 14; exact Bk.call (Kp.h _) (same_calls (p := sendP p now) ((hr.out.kp _).of rfl rfl rfl) hl)))))
      refine wpQuiet_nil ?_
      rintro _ ⟨x, rfl⟩
      have HE := x.h.1
      clear hcb3 hcb4 hN
      go_wp2
      go_ret
      exact ⟨by first | rfl | simp, HE⟩
theorem answer_rl (cf : Cfg) (p : Pol) (cls retry reset now draw : Int) : (answerP cf p cls retry reset now draw).n = p.n ∧ (answerP cf p cls retry reset now draw).c = p.c ∧ (answerP cf p cls retry reset now draw).A = p.A := by
  unfold answerP
  by_cases h : cls = 3 ∨ cls = 4
  · simp only [if_pos h]; exact ⟨rfl, rfl, rfl⟩
  · simp only [if_neg h]; exact ⟨rfl, rfl, rfl⟩
theorem Rl.answer {w : World} {p : Pol} {l : List S55} (h : Rl w p l) (cf : Cfg) (cls retry reset now draw : Int) : Rl w (answerP cf p cls retry reset now draw) l :=
  h.of (answer_rl _ _ _ _ _ _ _).1 (answer_rl _ _ _ _ _ _ _).2.1 (answer_rl _ _ _ _ _ _ _).2.2
set_option maxHeartbeats 8000000 in
set_option maxRecDepth 100000 in
theorem lawAnswers (cf : Cfg) (p : Pol) (l : List S55) (cls retry reset now draw : Int) (W : World) (hr : Aside0 (Rl W p l)) (hl : l.length ≤ 4611686018427387904) : Calls Try.prog 6 #[.agg cf.cells, .agg p.cells, .agg #[.int .i64 cls, .int .i64 retry, .int .i64 reset], .int .i64 now, .int .i64 draw] W fun e w' => e = .returned (.bool true) ∧ Below W.heap.size W w' := by
  go_enter Try.func6, Try.ntmps6
  go_upto_region 1 with (fail)
  have H : Bk W ([(W.heap.size + 1 + 1, .cells #[.int .i64 cls, .int .i64 retry, .int .i64 reset] 42 (0, 0)), (W.heap.size + 1, .cells p.cells 28 (0, 0)), (W.heap.size, .cells cf.cells 23 (0, 0))] : List (Nat × Obj)) (((W.alloc (.cells cf.cells 23)).alloc (.cells p.cells 28)).alloc (.cells #[.int .i64 cls, .int .i64 retry, .int .i64 reset] 42)) := by simpa using (((Bk.start W).alloc (.cells cf.cells 23)).alloc (.cells p.cells 28)).alloc (.cells #[.int .i64 cls, .int .i64 retry, .int .i64 reset] 42)
  have hlb5 : W.heap.size ≤ W.heap.size := by omega
  have hnb5b6 : W.heap.size ≠ W.heap.size + 1 := by omega
  have hnb5b7 : W.heap.size ≠ W.heap.size + 1 + 1 := by omega
  have hlb6 : W.heap.size ≤ W.heap.size + 1 := by omega
  have hnb6b5 : W.heap.size + 1 ≠ W.heap.size := by omega
  have hnb6b7 : W.heap.size + 1 ≠ W.heap.size + 1 + 1 := by omega
  have hlb7 : W.heap.size ≤ W.heap.size + 1 + 1 := by omega
  have hnb7b5 : W.heap.size + 1 + 1 ≠ W.heap.size := by omega
  have hnb7b6 : W.heap.size + 1 + 1 ≠ W.heap.size + 1 := by omega
  generalize W.heap.size + 1 + 1 = b7 at *
  generalize W.heap.size + 1 = b6 at *
  generalize (((W.alloc (.cells cf.cells 23)).alloc (.cells p.cells 28)).alloc (.cells #[.int .i64 cls, .int .i64 retry, .int .i64 reset] 42)) = w at *
  obtain ⟨t, ht⟩ : ∃ t, decide ((l.length : Int) ≤ 100) = t := ⟨_, rfl⟩
  obtain ⟨u, hu⟩ : ∃ u, tameP p = u := ⟨_, rfl⟩
  have Ht := Aside0.mk ht; have Hu := Aside0.mk hu
  clear ht hu
  cases t
  · cases u
    · have e1 := Ht.out; have e2 := Hu.out
      have hcb6 : ∀ (x : Kp (Bk W [(b7, .cells #[.int .i64 cls, .int .i64 retry, .int .i64 reset] 42 (0, 0)), (b6, .cells p.cells 28 (0, 0)), (W.heap.size, .cells cf.cells 23 (0, 0))])) i, x.w.cell? ⟨b6, i, none⟩ = (p.cells)[i]? := fun x i => x.h.cell (.tail _ (.head _)) i
      have hN : Nonempty (Kp (Bk W [(b7, .cells #[.int .i64 cls, .int .i64 retry, .int .i64 reset] 42 (0, 0)), (b6, .cells p.cells 28 (0, 0)), (W.heap.size, .cells cf.cells 23 (0, 0))])) := ⟨⟨_, H⟩⟩
      refine Calm.whole (fun w' => ∃ x : Kp (Bk W [(b7, .cells #[.int .i64 cls, .int .i64 retry, .int .i64 reset] 42 (0, 0)), (b6, .cells p.cells 28 (0, 0)), (W.heap.size, .cells cf.cells 23 (0, 0))]), w' = x.w) ⟨⟨_, H⟩, rfl⟩ ?_
      repeat (first | go_big_quiet_skip | (go_big_quiet_want; (first | refine quiet_p b6 p (fun y => y.h.get (.tail _ (.head _))) rfl rfl ?_); simp only [Act.put, List.setIfInBounds_toArray, List.set_cons_succ, List.set_cons_zero]; go_big_quiet_on) | (go_big_quiet_want; go_big_quiet_op; first | go_big_quiet_on | go_big_quiet_call (first
      | (go_at_call 12; exact Bk.call (Kp.h _) (light_calls (hr.out.kp _)))
      | (go_at_call 13; exact Bk.call (Kp.h _) (tame_calls (hr.out.kp _))))))
      refine wpQuiet_nil ?_
      rintro _ ⟨x, rfl⟩
      have H := x.h
      go_upto_region 2 with (fail)
      clear hcb6 hN e1 e2
      have hN : Nonempty (Kp (Bk W [(b7, .cells #[.int .i64 cls, .int .i64 retry, .int .i64 reset] 42 (0, 0)), (b6, .cells p.cells 28 (0, 0)), (W.heap.size, .cells cf.cells 23 (0, 0))])) := ⟨⟨_, H⟩⟩
      refine Calm.whole (fun w' => ∃ x : Kp (Bk W [(b7, .cells #[.int .i64 cls, .int .i64 retry, .int .i64 reset] 42 (0, 0)), (b6, .cells p.cells 28 (0, 0)), (W.heap.size, .cells cf.cells 23 (0, 0))]), w' = x.w) ⟨⟨_, H⟩, rfl⟩ ?_
      repeat (first | go_big_quiet_skip | (go_big_quiet_want; go_big_quiet_op; first | go_big_quiet_on | go_big_quiet_call ((go_at_call 9; exact Bk.call (Kp.h _) (awake_calls _)))))
      refine wpQuiet_nil ?_
      rintro _ ⟨x, rfl⟩
      have HE := x.h.1
      clear hN
      go_wp2
      go_ret
      exact ⟨by first | rfl | simp, HE⟩
    · have e1 := Ht.out; have e2 := Hu.out
      have hcb6 : ∀ (x : Kp (Bk W [(b7, .cells #[.int .i64 cls, .int .i64 retry, .int .i64 reset] 42 (0, 0)), (b6, .cells p.cells 28 (0, 0)), (W.heap.size, .cells cf.cells 23 (0, 0))])) i, x.w.cell? ⟨b6, i, none⟩ = (p.cells)[i]? := fun x i => x.h.cell (.tail _ (.head _)) i
      have hN : Nonempty (Kp (Bk W [(b7, .cells #[.int .i64 cls, .int .i64 retry, .int .i64 reset] 42 (0, 0)), (b6, .cells p.cells 28 (0, 0)), (W.heap.size, .cells cf.cells 23 (0, 0))])) := ⟨⟨_, H⟩⟩
      refine Calm.whole (fun w' => ∃ x : Kp (Bk W [(b7, .cells #[.int .i64 cls, .int .i64 retry, .int .i64 reset] 42 (0, 0)), (b6, .cells p.cells 28 (0, 0)), (W.heap.size, .cells cf.cells 23 (0, 0))]), w' = x.w) ⟨⟨_, H⟩, rfl⟩ ?_
      repeat (first | go_big_quiet_skip | (go_big_quiet_want; (first | refine quiet_p b6 p (fun y => y.h.get (.tail _ (.head _))) rfl rfl ?_); simp only [Act.put, List.setIfInBounds_toArray, List.set_cons_succ, List.set_cons_zero]; go_big_quiet_on) | (go_big_quiet_want; go_big_quiet_op; first | go_big_quiet_on | go_big_quiet_call (first
      | (go_at_call 12; exact Bk.call (Kp.h _) (light_calls (hr.out.kp _)))
      | (go_at_call 13; exact Bk.call (Kp.h _) (tame_calls (hr.out.kp _))))))
      refine wpQuiet_nil ?_
      rintro _ ⟨x, rfl⟩
      have H := x.h
      go_upto_region 2 with (fail)
      clear hcb6 hN e1 e2
      have hN : Nonempty (Kp (Bk W [(b7, .cells #[.int .i64 cls, .int .i64 retry, .int .i64 reset] 42 (0, 0)), (b6, .cells p.cells 28 (0, 0)), (W.heap.size, .cells cf.cells 23 (0, 0))])) := ⟨⟨_, H⟩⟩
      refine Calm.whole (fun w' => ∃ x : Kp (Bk W [(b7, .cells #[.int .i64 cls, .int .i64 retry, .int .i64 reset] 42 (0, 0)), (b6, .cells p.cells 28 (0, 0)), (W.heap.size, .cells cf.cells 23 (0, 0))]), w' = x.w) ⟨⟨_, H⟩, rfl⟩ ?_
      repeat (first | go_big_quiet_skip | (go_big_quiet_want; go_big_quiet_op; first | go_big_quiet_on | go_big_quiet_call ((go_at_call 9; exact Bk.call (Kp.h _) (awake_calls _)))))
      refine wpQuiet_nil ?_
      rintro _ ⟨x, rfl⟩
      have HE := x.h.1
      clear hN
      go_wp2
      go_ret
      exact ⟨by first | rfl | simp, HE⟩
  · cases u
    · have e1 := Ht.out; have e2 := Hu.out
      have hcb6 : ∀ (x : Kp (Bk W [(b7, .cells #[.int .i64 cls, .int .i64 retry, .int .i64 reset] 42 (0, 0)), (b6, .cells p.cells 28 (0, 0)), (W.heap.size, .cells cf.cells 23 (0, 0))])) i, x.w.cell? ⟨b6, i, none⟩ = (p.cells)[i]? := fun x i => x.h.cell (.tail _ (.head _)) i
      have hN : Nonempty (Kp (Bk W [(b7, .cells #[.int .i64 cls, .int .i64 retry, .int .i64 reset] 42 (0, 0)), (b6, .cells p.cells 28 (0, 0)), (W.heap.size, .cells cf.cells 23 (0, 0))])) := ⟨⟨_, H⟩⟩
      refine Calm.whole (fun w' => ∃ x : Kp (Bk W [(b7, .cells #[.int .i64 cls, .int .i64 retry, .int .i64 reset] 42 (0, 0)), (b6, .cells p.cells 28 (0, 0)), (W.heap.size, .cells cf.cells 23 (0, 0))]), w' = x.w) ⟨⟨_, H⟩, rfl⟩ ?_
      repeat (first | go_big_quiet_skip | (go_big_quiet_want; (first | refine quiet_p b6 p (fun y => y.h.get (.tail _ (.head _))) rfl rfl ?_); simp only [Act.put, List.setIfInBounds_toArray, List.set_cons_succ, List.set_cons_zero]; go_big_quiet_on) | (go_big_quiet_want; go_big_quiet_op; first | go_big_quiet_on | go_big_quiet_call (first
      | (go_at_call 12; exact Bk.call (Kp.h _) (light_calls (hr.out.kp _)))
      | (go_at_call 13; exact Bk.call (Kp.h _) (tame_calls (hr.out.kp _))))))
      refine wpQuiet_nil ?_
      rintro _ ⟨x, rfl⟩
      have H := x.h
      go_upto_region 2 with (fail)
      clear hcb6 hN e1 e2
      have hN : Nonempty (Kp (Bk W [(b7, .cells #[.int .i64 cls, .int .i64 retry, .int .i64 reset] 42 (0, 0)), (b6, .cells p.cells 28 (0, 0)), (W.heap.size, .cells cf.cells 23 (0, 0))])) := ⟨⟨_, H⟩⟩
      refine Calm.whole (fun w' => ∃ x : Kp (Bk W [(b7, .cells #[.int .i64 cls, .int .i64 retry, .int .i64 reset] 42 (0, 0)), (b6, .cells p.cells 28 (0, 0)), (W.heap.size, .cells cf.cells 23 (0, 0))]), w' = x.w) ⟨⟨_, H⟩, rfl⟩ ?_
      repeat (first | go_big_quiet_skip | (go_big_quiet_want; go_big_quiet_op; first | go_big_quiet_on | go_big_quiet_call ((go_at_call 9; exact Bk.call (Kp.h _) (awake_calls _)))))
      refine wpQuiet_nil ?_
      rintro _ ⟨x, rfl⟩
      have HE := x.h.1
      clear hN
      go_wp2
      go_ret
      exact ⟨by first | rfl | simp, HE⟩
    · have e1 := Ht.out; have e2 := Hu.out
      have hcb6 : ∀ (x : Kp (Bk W [(b7, .cells #[.int .i64 cls, .int .i64 retry, .int .i64 reset] 42 (0, 0)), (b6, .cells p.cells 28 (0, 0)), (W.heap.size, .cells cf.cells 23 (0, 0))])) i, x.w.cell? ⟨b6, i, none⟩ = (p.cells)[i]? := fun x i => x.h.cell (.tail _ (.head _)) i
      have hN : Nonempty (Kp (Bk W [(b7, .cells #[.int .i64 cls, .int .i64 retry, .int .i64 reset] 42 (0, 0)), (b6, .cells p.cells 28 (0, 0)), (W.heap.size, .cells cf.cells 23 (0, 0))])) := ⟨⟨_, H⟩⟩
      refine Calm.whole (fun w' => ∃ x : Kp (Bk W [(b7, .cells #[.int .i64 cls, .int .i64 retry, .int .i64 reset] 42 (0, 0)), (b6, .cells p.cells 28 (0, 0)), (W.heap.size, .cells cf.cells 23 (0, 0))]), w' = x.w) ⟨⟨_, H⟩, rfl⟩ ?_
      repeat (first | go_big_quiet_skip | (go_big_quiet_want; (first | refine quiet_p b6 p (fun y => y.h.get (.tail _ (.head _))) rfl rfl ?_); simp only [Act.put, List.setIfInBounds_toArray, List.set_cons_succ, List.set_cons_zero]; go_big_quiet_on) | (go_big_quiet_want; go_big_quiet_op; first | go_big_quiet_on | go_big_quiet_call (first
      | (go_at_call 12; exact Bk.call (Kp.h _) (light_calls (hr.out.kp _)))
      | (go_at_call 13; exact Bk.call (Kp.h _) (tame_calls (hr.out.kp _))))))
      refine wpQuiet_nil ?_
      rintro _ ⟨x, rfl⟩
      have H := x.h
      go_upto_region 3 with (fail)
      clear hcb6 hN e1 e2
      have hb := of_decide_eq_true Hu.out; have hhi := hb.1; have hlo := hb.2; clear hb
      have hcb5 : ∀ (x : Kp (Bk W [(b7, .cells #[.int .i64 cls, .int .i64 retry, .int .i64 reset] 42 (0, 0)), (b6, .cells p.cells 28 (0, 0)), (W.heap.size, .cells cf.cells 23 (0, 0))])) i, x.w.cell? ⟨W.heap.size, i, none⟩ = (cf.cells)[i]? := fun x i => x.h.cell (.tail _ (.tail _ (.head _))) i
      have hcb6 : ∀ (x : Kp (Bk W [(b7, .cells #[.int .i64 cls, .int .i64 retry, .int .i64 reset] 42 (0, 0)), (b6, .cells p.cells 28 (0, 0)), (W.heap.size, .cells cf.cells 23 (0, 0))])) i, x.w.cell? ⟨b6, i, none⟩ = (p.cells)[i]? := fun x i => x.h.cell (.tail _ (.head _)) i
      have hcb7 : ∀ (x : Kp (Bk W [(b7, .cells #[.int .i64 cls, .int .i64 retry, .int .i64 reset] 42 (0, 0)), (b6, .cells p.cells 28 (0, 0)), (W.heap.size, .cells cf.cells 23 (0, 0))])) i, x.w.cell? ⟨b7, i, none⟩ = (#[.int .i64 cls, .int .i64 retry, .int .i64 reset])[i]? := fun x i => x.h.cell (.head _) i
      have hN : Nonempty (Kp (Bk W [(b7, .cells #[.int .i64 cls, .int .i64 retry, .int .i64 reset] 42 (0, 0)), (b6, .cells p.cells 28 (0, 0)), (W.heap.size, .cells cf.cells 23 (0, 0))])) := ⟨⟨_, H⟩⟩
      refine Calm.wholeD (fun w' => ∃ x : Kp (Bk W [(b7, .cells #[.int .i64 cls, .int .i64 retry, .int .i64 reset] 42 (0, 0)), (b6, .cells p.cells 28 (0, 0)), (W.heap.size, .cells cf.cells 23 (0, 0))]), w' = x.w) (by kernel_rfl) (by kernel_rfl) ⟨⟨_, H.drew⟩, rfl⟩ ?_
      repeat (first | go_big_quiet_skip | (go_big_quiet_want; (first | refine quiet_c W.heap.size cf (fun y => y.h.get (.tail _ (.tail _ (.head _)))) rfl rfl ?_ | refine quiet_p b6 p (fun y => y.h.get (.tail _ (.head _))) rfl rfl ?_); simp only [Act.put, List.setIfInBounds_toArray, List.set_cons_succ, List.set_cons_zero]; go_big_quiet_on) | (go_big_quiet_want; go_big_quiet_op; first | go_big_quiet_on | go_big_quiet_call (first
      | (go_at_call 9; exact Bk.call (Kp.h _) (awake_calls _))
      | (go_at_call 21; exact Bk.call (Kp.h _) (answer_calls cf p cls retry reset now draw _ hlo hhi))
      | (go_at_call 22; exact Bk.call (Kp.h _) (ranswer_calls cf p cls retry reset now draw _ hlo hhi))
      | (go_at_call 23; exact Bk.call (Kp.h _) (lost_calls cf p now draw _ hlo hhi))
      | (go_at_call 24; exact Bk.call (Kp.h _) (rlost_calls cf p now draw _ hlo hhi))
      | (go_at_call 14; first | with_reducible exact Bk.call (Kp.h _) (same_calls (p := answerP cf p cls retry reset now draw) ((hr.out.kp _).answer _ _ _ _ _ _) hl) | with_reducible exact Bk.call (Kp.h _) (same_calls (p := lostP cf p now draw) ((hr.out.kp _).of rfl rfl rfl) hl)))))
      refine wpQuiet_nil ?_
      rintro _ ⟨x, rfl⟩
      have HE := x.h.1
      clear hcb5 hcb6 hcb7 hN
      go_wp2
      go_ret
      exact ⟨by first | rfl | simp, HE⟩
theorem Rl.learn {W : World} {L : List (Nat × Obj)} {A : Option Addr} {l2 : List S55} {c : Nat} (h : Kd.C k55 W A l2.length l2 ∧ l2.length ≤ c) (cf : Cfg) (p : Pol) (al no : Bool) (d now : Int) (x : Kp (Bk W L)) : Rl x.w (learnP cf p al no A l2.length c d now) l2 :=
  ⟨rfl, h.2, Kd.C_below h.1 x.h.1⟩
set_option maxHeartbeats 8000000 in
set_option maxRecDepth 100000 in
theorem lawLearns (cf : Cfg) (p : Pol) (l : List S55) (al no : Bool) (A : Option Addr) (c : Nat) (d : Int) (l2 : List S55) (now floor until_ : Int) (W : World) (hr : Aside0 (Rl W p l)) (hl : l.length ≤ 4611686018427387904) (hr2 : Aside0 (Kd.C k55 W A l2.length l2 ∧ l2.length ≤ c)) (hl2 : l2.length ≤ 4611686018427387904) : Calls Try.prog 5 #[.agg cf.cells, .agg p.cells, .agg #[.bool al, .bool no, .slice A l2.length c, .int .i64 d], .int .i64 now, .int .i64 floor, .int .i64 until_] W fun e w' => e = .returned (.bool true) ∧ Below W.heap.size W w' := by
  go_enter Try.func5, Try.ntmps5
  go_upto_region 1 with (fail)
  have H : Bk W ([(W.heap.size + 1 + 1, .cells #[.bool al, .bool no, .slice A l2.length c, .int .i64 d] 26 (0, 0)), (W.heap.size + 1, .cells p.cells 28 (0, 0)), (W.heap.size, .cells cf.cells 23 (0, 0))] : List (Nat × Obj)) (((W.alloc (.cells cf.cells 23)).alloc (.cells p.cells 28)).alloc (.cells #[.bool al, .bool no, .slice A l2.length c, .int .i64 d] 26)) := by simpa using (((Bk.start W).alloc (.cells cf.cells 23)).alloc (.cells p.cells 28)).alloc (.cells #[.bool al, .bool no, .slice A l2.length c, .int .i64 d] 26)
  have hlb6 : W.heap.size ≤ W.heap.size := by omega
  have hnb6b7 : W.heap.size ≠ W.heap.size + 1 := by omega
  have hnb6b8 : W.heap.size ≠ W.heap.size + 1 + 1 := by omega
  have hlb7 : W.heap.size ≤ W.heap.size + 1 := by omega
  have hnb7b6 : W.heap.size + 1 ≠ W.heap.size := by omega
  have hnb7b8 : W.heap.size + 1 ≠ W.heap.size + 1 + 1 := by omega
  have hlb8 : W.heap.size ≤ W.heap.size + 1 + 1 := by omega
  have hnb8b6 : W.heap.size + 1 + 1 ≠ W.heap.size := by omega
  have hnb8b7 : W.heap.size + 1 + 1 ≠ W.heap.size + 1 := by omega
  generalize W.heap.size + 1 + 1 = b8 at *
  generalize W.heap.size + 1 = b7 at *
  generalize (((W.alloc (.cells cf.cells 23)).alloc (.cells p.cells 28)).alloc (.cells #[.bool al, .bool no, .slice A l2.length c, .int .i64 d] 26)) = w at *
  obtain ⟨t, ht⟩ : ∃ t, decide ((l.length : Int) ≤ 100) = t := ⟨_, rfl⟩
  obtain ⟨u, hu⟩ : ∃ u, decide ((100 : Int) < (l2.length : Int)) = u := ⟨_, rfl⟩
  have Ht := Aside0.mk ht; have Hu := Aside0.mk hu
  clear ht hu
  cases t
  · cases u
    · have e1 := Ht.out; have e2 := Hu.out
      have hcb7 : ∀ (x : Kp (Bk W [(b8, .cells #[.bool al, .bool no, .slice A l2.length c, .int .i64 d] 26 (0, 0)), (b7, .cells p.cells 28 (0, 0)), (W.heap.size, .cells cf.cells 23 (0, 0))])) i, x.w.cell? ⟨b7, i, none⟩ = (p.cells)[i]? := fun x i => x.h.cell (.tail _ (.head _)) i
      have hcb8 : ∀ (x : Kp (Bk W [(b8, .cells #[.bool al, .bool no, .slice A l2.length c, .int .i64 d] 26 (0, 0)), (b7, .cells p.cells 28 (0, 0)), (W.heap.size, .cells cf.cells 23 (0, 0))])) i, x.w.cell? ⟨b8, i, none⟩ = (#[.bool al, .bool no, .slice A l2.length c, .int .i64 d])[i]? := fun x i => x.h.cell (.head _) i
      have hN : Nonempty (Kp (Bk W [(b8, .cells #[.bool al, .bool no, .slice A l2.length c, .int .i64 d] 26 (0, 0)), (b7, .cells p.cells 28 (0, 0)), (W.heap.size, .cells cf.cells 23 (0, 0))])) := ⟨⟨_, H⟩⟩
      refine Calm.whole (fun w' => ∃ x : Kp (Bk W [(b8, .cells #[.bool al, .bool no, .slice A l2.length c, .int .i64 d] 26 (0, 0)), (b7, .cells p.cells 28 (0, 0)), (W.heap.size, .cells cf.cells 23 (0, 0))]), w' = x.w) ⟨⟨_, H⟩, rfl⟩ ?_
      repeat (first | go_big_quiet_skip | (go_big_quiet_want; (first | refine quiet_p b7 p (fun y => y.h.get (.tail _ (.head _))) rfl rfl ?_); simp only [Act.put, List.setIfInBounds_toArray, List.set_cons_succ, List.set_cons_zero]; go_big_quiet_on) | (go_big_quiet_want; go_big_quiet_op; first | go_big_quiet_on | go_big_quiet_call ((go_at_call 12; exact Bk.call (Kp.h _) (light_calls (hr.out.kp _))))))
      refine wpQuiet_nil ?_
      rintro _ ⟨x, rfl⟩
      have H := x.h
      go_upto_region 2 with (fail)
      clear hcb7 hcb8 hN e1 e2
      have hN : Nonempty (Kp (Bk W [(b8, .cells #[.bool al, .bool no, .slice A l2.length c, .int .i64 d] 26 (0, 0)), (b7, .cells p.cells 28 (0, 0)), (W.heap.size, .cells cf.cells 23 (0, 0))])) := ⟨⟨_, H⟩⟩
      refine Calm.whole (fun w' => ∃ x : Kp (Bk W [(b8, .cells #[.bool al, .bool no, .slice A l2.length c, .int .i64 d] 26 (0, 0)), (b7, .cells p.cells 28 (0, 0)), (W.heap.size, .cells cf.cells 23 (0, 0))]), w' = x.w) ⟨⟨_, H⟩, rfl⟩ ?_
      repeat (first | go_big_quiet_skip | (go_big_quiet_want; go_big_quiet_op; first | go_big_quiet_on | go_big_quiet_call ((go_at_call 9; exact Bk.call (Kp.h _) (awake_calls _)))))
      refine wpQuiet_nil ?_
      rintro _ ⟨x, rfl⟩
      have HE := x.h.1
      clear hN
      go_wp2
      go_ret
      exact ⟨by first | rfl | simp, HE⟩
    · have e1 := Ht.out; have e2 := Hu.out
      have hcb7 : ∀ (x : Kp (Bk W [(b8, .cells #[.bool al, .bool no, .slice A l2.length c, .int .i64 d] 26 (0, 0)), (b7, .cells p.cells 28 (0, 0)), (W.heap.size, .cells cf.cells 23 (0, 0))])) i, x.w.cell? ⟨b7, i, none⟩ = (p.cells)[i]? := fun x i => x.h.cell (.tail _ (.head _)) i
      have hcb8 : ∀ (x : Kp (Bk W [(b8, .cells #[.bool al, .bool no, .slice A l2.length c, .int .i64 d] 26 (0, 0)), (b7, .cells p.cells 28 (0, 0)), (W.heap.size, .cells cf.cells 23 (0, 0))])) i, x.w.cell? ⟨b8, i, none⟩ = (#[.bool al, .bool no, .slice A l2.length c, .int .i64 d])[i]? := fun x i => x.h.cell (.head _) i
      have hN : Nonempty (Kp (Bk W [(b8, .cells #[.bool al, .bool no, .slice A l2.length c, .int .i64 d] 26 (0, 0)), (b7, .cells p.cells 28 (0, 0)), (W.heap.size, .cells cf.cells 23 (0, 0))])) := ⟨⟨_, H⟩⟩
      refine Calm.whole (fun w' => ∃ x : Kp (Bk W [(b8, .cells #[.bool al, .bool no, .slice A l2.length c, .int .i64 d] 26 (0, 0)), (b7, .cells p.cells 28 (0, 0)), (W.heap.size, .cells cf.cells 23 (0, 0))]), w' = x.w) ⟨⟨_, H⟩, rfl⟩ ?_
      repeat (first | go_big_quiet_skip | (go_big_quiet_want; (first | refine quiet_p b7 p (fun y => y.h.get (.tail _ (.head _))) rfl rfl ?_); simp only [Act.put, List.setIfInBounds_toArray, List.set_cons_succ, List.set_cons_zero]; go_big_quiet_on) | (go_big_quiet_want; go_big_quiet_op; first | go_big_quiet_on | go_big_quiet_call ((go_at_call 12; exact Bk.call (Kp.h _) (light_calls (hr.out.kp _))))))
      refine wpQuiet_nil ?_
      rintro _ ⟨x, rfl⟩
      have H := x.h
      go_upto_region 2 with (fail)
      clear hcb7 hcb8 hN e1 e2
      have hN : Nonempty (Kp (Bk W [(b8, .cells #[.bool al, .bool no, .slice A l2.length c, .int .i64 d] 26 (0, 0)), (b7, .cells p.cells 28 (0, 0)), (W.heap.size, .cells cf.cells 23 (0, 0))])) := ⟨⟨_, H⟩⟩
      refine Calm.whole (fun w' => ∃ x : Kp (Bk W [(b8, .cells #[.bool al, .bool no, .slice A l2.length c, .int .i64 d] 26 (0, 0)), (b7, .cells p.cells 28 (0, 0)), (W.heap.size, .cells cf.cells 23 (0, 0))]), w' = x.w) ⟨⟨_, H⟩, rfl⟩ ?_
      repeat (first | go_big_quiet_skip | (go_big_quiet_want; go_big_quiet_op; first | go_big_quiet_on | go_big_quiet_call ((go_at_call 9; exact Bk.call (Kp.h _) (awake_calls _)))))
      refine wpQuiet_nil ?_
      rintro _ ⟨x, rfl⟩
      have HE := x.h.1
      clear hN
      go_wp2
      go_ret
      exact ⟨by first | rfl | simp, HE⟩
  · cases u
    · have e1 := Ht.out; have e2 := Hu.out
      have hcb7 : ∀ (x : Kp (Bk W [(b8, .cells #[.bool al, .bool no, .slice A l2.length c, .int .i64 d] 26 (0, 0)), (b7, .cells p.cells 28 (0, 0)), (W.heap.size, .cells cf.cells 23 (0, 0))])) i, x.w.cell? ⟨b7, i, none⟩ = (p.cells)[i]? := fun x i => x.h.cell (.tail _ (.head _)) i
      have hcb8 : ∀ (x : Kp (Bk W [(b8, .cells #[.bool al, .bool no, .slice A l2.length c, .int .i64 d] 26 (0, 0)), (b7, .cells p.cells 28 (0, 0)), (W.heap.size, .cells cf.cells 23 (0, 0))])) i, x.w.cell? ⟨b8, i, none⟩ = (#[.bool al, .bool no, .slice A l2.length c, .int .i64 d])[i]? := fun x i => x.h.cell (.head _) i
      have hN : Nonempty (Kp (Bk W [(b8, .cells #[.bool al, .bool no, .slice A l2.length c, .int .i64 d] 26 (0, 0)), (b7, .cells p.cells 28 (0, 0)), (W.heap.size, .cells cf.cells 23 (0, 0))])) := ⟨⟨_, H⟩⟩
      refine Calm.whole (fun w' => ∃ x : Kp (Bk W [(b8, .cells #[.bool al, .bool no, .slice A l2.length c, .int .i64 d] 26 (0, 0)), (b7, .cells p.cells 28 (0, 0)), (W.heap.size, .cells cf.cells 23 (0, 0))]), w' = x.w) ⟨⟨_, H⟩, rfl⟩ ?_
      repeat (first | go_big_quiet_skip | (go_big_quiet_want; (first | refine quiet_p b7 p (fun y => y.h.get (.tail _ (.head _))) rfl rfl ?_); simp only [Act.put, List.setIfInBounds_toArray, List.set_cons_succ, List.set_cons_zero]; go_big_quiet_on) | (go_big_quiet_want; go_big_quiet_op; first | go_big_quiet_on | go_big_quiet_call ((go_at_call 12; exact Bk.call (Kp.h _) (light_calls (hr.out.kp _))))))
      refine wpQuiet_nil ?_
      rintro _ ⟨x, rfl⟩
      have H := x.h
      go_upto_region 3 with (fail)
      clear hcb7 hcb8 hN e1 e2
      have hN : Nonempty (Kp (Bk W [(b8, .cells #[.bool al, .bool no, .slice A l2.length c, .int .i64 d] 26 (0, 0)), (b7, .cells p.cells 28 (0, 0)), (W.heap.size, .cells cf.cells 23 (0, 0))])) := ⟨⟨_, H⟩⟩
      refine Calm.plain (fun w' => ∃ x : Kp (Bk W [(b8, .cells #[.bool al, .bool no, .slice A l2.length c, .int .i64 d] 26 (0, 0)), (b7, .cells p.cells 28 (0, 0)), (W.heap.size, .cells cf.cells 23 (0, 0))]), w' = x.w) 3 ⟨⟨_, H⟩, rfl⟩ ?_
      simp only [List.take_succ_cons, List.take_zero, List.drop_succ_cons, List.drop_zero]
      repeat (first | go_big_quiet_skip | (go_big_quiet_want; go_big_quiet_op; first | go_big_quiet_on | go_big_quiet_call (fail)))
      refine wpQuiet_nil ?_
      rintro _ ⟨x, rfl⟩
      have hT := st28 (g := x.w.heap.size) (p := (Pol.mk 0 0 0 0 0 0 0 0 0 0 false false .none 0 0 0)) (blk_new x.w (.cells (Pol.mk 0 0 0 0 0 0 0 0 0 0 false false .none 0 0 0).cells 28))
      have hlt : ∀ y ∈ ([(b8, .cells #[.bool al, .bool no, .slice A l2.length c, .int .i64 d] 26 (0, 0)), (b7, .cells p.cells 28 (0, 0)), (W.heap.size, .cells cf.cells 23 (0, 0))] : List (Nat × Obj)), y.1 ≠ x.w.heap.size := fun y hy => Nat.ne_of_lt (blk_lt (x.h.2 y hy))
      have hlbD : W.heap.size ≤ x.w.heap.size := x.h.1.size
      go_upto_region 4 with (fail)
      have H2 := Bk.row [] [(b8, .cells #[.bool al, .bool no, .slice A l2.length c, .int .i64 d] 26 (0, 0)), (b7, .cells p.cells 28 (0, 0)), (W.heap.size, .cells cf.cells 23 (0, 0))] (cs' := ((Pol.mk (-1) floor 0 0 0 0 until_ 0 0 0 false false .none 0 0 0)).cells) (x.h.alloc (.cells (Pol.mk 0 0 0 0 0 0 0 0 0 0 false false .none 0 0 0).cells 28)) hlbD (by simpa using hlt)
      generalize (x.w.alloc (.cells (Pol.mk 0 0 0 0 0 0 0 0 0 0 false false .none 0 0 0).cells 28)).setRow x.w.heap.size ((Pol.mk (-1) floor 0 0 0 0 until_ 0 0 0 false false .none 0 0 0)).cells = w2 at *
      generalize x.w.heap.size = bD at *
      clear hT; have hltbD := hlt; clear hlt
      clear hN H
      try clear x
      have H := H2; clear H2
      have gc : ∀ i, w2.cell? ⟨bD, i, none⟩ = (Pol.mk (-1) floor 0 0 0 0 until_ 0 0 0 false false .none 0 0 0).cells[i]? := fun i => H.cell (.head _) i
      have gf : ∀ i, w2.frozen? ⟨bD, i, none⟩ = false := fun i => H.free (.head _) i
      go_upto_if 28 with (fail)
      go_cut [] (fun w' => Aside0 (Bk W [(bD, .cells (newP floor until_).cells 28 (0, 0)), (b8, .cells #[.bool al, .bool no, .slice A l2.length c, .int .i64 d] 26 (0, 0)), (b7, .cells p.cells 28 (0, 0)), (W.heap.size, .cells cf.cells 23 (0, 0))] w'))
      case first =>
        by_cases h : floor < 0
        · go_wp2; go_meet
          case rel =>
            have e : newP floor until_ = (Pol.mk (-1) 0 0 0 0 0 until_ 0 0 0 false false .none 0 0 0) := by have e : mx floor 0 = 0 := (by unfold mx; omega); unfold newP; rw [e]
            rw [e]; exact ⟨Bk.put [] [(b8, .cells #[.bool al, .bool no, .slice A l2.length c, .int .i64 d] 26 (0, 0)), (b7, .cells p.cells 28 (0, 0)), (W.heap.size, .cells cf.cells 23 (0, 0))] (cs' := (Pol.mk (-1) 0 0 0 0 0 until_ 0 0 0 false false .none 0 0 0).cells) H hlbD (by intro y hy; exact hltbD y hy) 1 (.int .i64 0) rfl⟩
        · go_wp2; go_meet
          case rel =>
            have e : newP floor until_ = (Pol.mk (-1) floor 0 0 0 0 until_ 0 0 0 false false .none 0 0 0) := by have e : mx floor 0 = floor := (by unfold mx; omega); unfold newP; rw [e]
            rw [e]; exact ⟨H⟩
      case rest =>
        clear H gc gf
        have H := hcut.out; clear hcut
        go_upto_region 6 with (fail)
        have hcb6 : ∀ (x : Kp (Bk W [(bD, .cells (newP floor until_).cells 28 (0, 0)), (b8, .cells #[.bool al, .bool no, .slice A l2.length c, .int .i64 d] 26 (0, 0)), (b7, .cells p.cells 28 (0, 0)), (W.heap.size, .cells cf.cells 23 (0, 0))])) i, x.w.cell? ⟨W.heap.size, i, none⟩ = (cf.cells)[i]? := fun x i => x.h.cell (.tail _ (.tail _ (.tail _ (.head _)))) i
        have hcb7 : ∀ (x : Kp (Bk W [(bD, .cells (newP floor until_).cells 28 (0, 0)), (b8, .cells #[.bool al, .bool no, .slice A l2.length c, .int .i64 d] 26 (0, 0)), (b7, .cells p.cells 28 (0, 0)), (W.heap.size, .cells cf.cells 23 (0, 0))])) i, x.w.cell? ⟨b7, i, none⟩ = (p.cells)[i]? := fun x i => x.h.cell (.tail _ (.tail _ (.head _))) i
        have hcb8 : ∀ (x : Kp (Bk W [(bD, .cells (newP floor until_).cells 28 (0, 0)), (b8, .cells #[.bool al, .bool no, .slice A l2.length c, .int .i64 d] 26 (0, 0)), (b7, .cells p.cells 28 (0, 0)), (W.heap.size, .cells cf.cells 23 (0, 0))])) i, x.w.cell? ⟨b8, i, none⟩ = (#[.bool al, .bool no, .slice A l2.length c, .int .i64 d])[i]? := fun x i => x.h.cell (.tail _ (.head _)) i
        have hcbD : ∀ (x : Kp (Bk W [(bD, .cells (newP floor until_).cells 28 (0, 0)), (b8, .cells #[.bool al, .bool no, .slice A l2.length c, .int .i64 d] 26 (0, 0)), (b7, .cells p.cells 28 (0, 0)), (W.heap.size, .cells cf.cells 23 (0, 0))])) i, x.w.cell? ⟨bD, i, none⟩ = ((newP floor until_).cells)[i]? := fun x i => x.h.cell (.head _) i
        have hN : Nonempty (Kp (Bk W [(bD, .cells (newP floor until_).cells 28 (0, 0)), (b8, .cells #[.bool al, .bool no, .slice A l2.length c, .int .i64 d] 26 (0, 0)), (b7, .cells p.cells 28 (0, 0)), (W.heap.size, .cells cf.cells 23 (0, 0))])) := ⟨⟨_, H⟩⟩
        refine Calm.wholeD (fun w' => ∃ x : Kp (Bk W [(bD, .cells (newP floor until_).cells 28 (0, 0)), (b8, .cells #[.bool al, .bool no, .slice A l2.length c, .int .i64 d] 26 (0, 0)), (b7, .cells p.cells 28 (0, 0)), (W.heap.size, .cells cf.cells 23 (0, 0))]), w' = x.w) (by kernel_rfl) (by kernel_rfl) ⟨⟨_, H.drew⟩, rfl⟩ ?_
        repeat (first | go_big_quiet_skip | (go_big_quiet_want; (first | refine quiet_c W.heap.size cf (fun y => y.h.get (.tail _ (.tail _ (.tail _ (.head _))))) rfl rfl ?_ | refine quiet_p b7 p (fun y => y.h.get (.tail _ (.tail _ (.head _)))) rfl rfl ?_ | refine quiet_p bD (newP floor until_) (fun y => y.h.get (.head _)) rfl rfl ?_); simp only [Act.put, List.setIfInBounds_toArray, List.set_cons_succ, List.set_cons_zero]; go_big_quiet_on) | (go_big_quiet_want; go_big_quiet_op; first | go_big_quiet_on | go_big_quiet_call (first
      | (go_at_call 9; exact Bk.call (Kp.h _) (awake_calls _))
      | (go_at_call 18; exact Bk.call (Kp.h _) (learn_calls cf p al no A l2.length c d now _))
      | (go_at_call 19; exact Bk.call (Kp.h _) (rlearn_calls cf p al no A l2.length c d now _))
      | (go_at_call 20; exact Bk.call (Kp.h _) (new_calls floor until_ _))
      | (go_at_call 14; first | with_reducible exact Bk.call (Kp.h _) (same_calls (p := learnP cf p al no A l2.length c d now) (Rl.learn hr2.out _ _ _ _ _ _ _) hl2) | with_reducible exact Bk.call (Kp.h _) (same_calls (p := newP floor until_) (awRl rfl rfl) (Nat.zero_le _))))))
        refine wpQuiet_nil ?_
        rintro _ ⟨x, rfl⟩
        have HE := x.h.1
        clear hcb6 hcb7 hcb8 hcbD hN
        go_wp2
        go_ret
        exact ⟨by first | rfl | simp, HE⟩
    · have e1 := Ht.out; have e2 := Hu.out
      have hcb7 : ∀ (x : Kp (Bk W [(b8, .cells #[.bool al, .bool no, .slice A l2.length c, .int .i64 d] 26 (0, 0)), (b7, .cells p.cells 28 (0, 0)), (W.heap.size, .cells cf.cells 23 (0, 0))])) i, x.w.cell? ⟨b7, i, none⟩ = (p.cells)[i]? := fun x i => x.h.cell (.tail _ (.head _)) i
      have hcb8 : ∀ (x : Kp (Bk W [(b8, .cells #[.bool al, .bool no, .slice A l2.length c, .int .i64 d] 26 (0, 0)), (b7, .cells p.cells 28 (0, 0)), (W.heap.size, .cells cf.cells 23 (0, 0))])) i, x.w.cell? ⟨b8, i, none⟩ = (#[.bool al, .bool no, .slice A l2.length c, .int .i64 d])[i]? := fun x i => x.h.cell (.head _) i
      have hN : Nonempty (Kp (Bk W [(b8, .cells #[.bool al, .bool no, .slice A l2.length c, .int .i64 d] 26 (0, 0)), (b7, .cells p.cells 28 (0, 0)), (W.heap.size, .cells cf.cells 23 (0, 0))])) := ⟨⟨_, H⟩⟩
      refine Calm.whole (fun w' => ∃ x : Kp (Bk W [(b8, .cells #[.bool al, .bool no, .slice A l2.length c, .int .i64 d] 26 (0, 0)), (b7, .cells p.cells 28 (0, 0)), (W.heap.size, .cells cf.cells 23 (0, 0))]), w' = x.w) ⟨⟨_, H⟩, rfl⟩ ?_
      repeat (first | go_big_quiet_skip | (go_big_quiet_want; (first | refine quiet_p b7 p (fun y => y.h.get (.tail _ (.head _))) rfl rfl ?_); simp only [Act.put, List.setIfInBounds_toArray, List.set_cons_succ, List.set_cons_zero]; go_big_quiet_on) | (go_big_quiet_want; go_big_quiet_op; first | go_big_quiet_on | go_big_quiet_call ((go_at_call 12; exact Bk.call (Kp.h _) (light_calls (hr.out.kp _))))))
      refine wpQuiet_nil ?_
      rintro _ ⟨x, rfl⟩
      have H := x.h
      go_upto_region 2 with (fail)
      clear hcb7 hcb8 hN e1 e2
      have hN : Nonempty (Kp (Bk W [(b8, .cells #[.bool al, .bool no, .slice A l2.length c, .int .i64 d] 26 (0, 0)), (b7, .cells p.cells 28 (0, 0)), (W.heap.size, .cells cf.cells 23 (0, 0))])) := ⟨⟨_, H⟩⟩
      refine Calm.whole (fun w' => ∃ x : Kp (Bk W [(b8, .cells #[.bool al, .bool no, .slice A l2.length c, .int .i64 d] 26 (0, 0)), (b7, .cells p.cells 28 (0, 0)), (W.heap.size, .cells cf.cells 23 (0, 0))]), w' = x.w) ⟨⟨_, H⟩, rfl⟩ ?_
      repeat (first | go_big_quiet_skip | (go_big_quiet_want; go_big_quiet_op; first | go_big_quiet_on | go_big_quiet_call ((go_at_call 9; exact Bk.call (Kp.h _) (awake_calls _)))))
      refine wpQuiet_nil ?_
      rintro _ ⟨x, rfl⟩
      have HE := x.h.1
      clear hN
      go_wp2
      go_ret
      exact ⟨by first | rfl | simp, HE⟩
end Go.Proofs.Ytdmebkdikminjaa.Given
namespace Go.Proofs.Ytdmebkdikminjaa.Laws20
open Go.RowKit Go.Proofs.Ytdmebkdikminjaa.QMid Go.Proofs.YtdmebkdikminjaaW.PrintWords Go.Proofs.Ytdmebkdikminjaa.Given Go.Proofs.Ytdmebkdikminjaa.ArgsPolicy
set_option linter.unusedVariables false
theorem PolicyEligible (v0 : Value) (x0 : D23) (v1 : Value) (x1 : D28) (W : World) (s0 : ∃ cs, v0 = .agg cs ∧ cs.size = Try.prog.cellsOf 23) (K0 : kd23.K W x0 v0.cells.toList) (g0 : good23 x0) (s1 : ∃ cs, v1 = .agg cs ∧ cs.size = Try.prog.cellsOf 28) (K1 : kd28.K W x1 v1.cells.toList) (g1 : good28 x1) :
    Calls Try.prog 3 #[v0, v1] W fun e w' => e = .returned (.bool true) ∧ Below W.heap.size W w' := by
  obtain ⟨cf, rfl⟩ := open23 s0 K0
  obtain ⟨p, l, rfl, hr, hl, _⟩ := open28 s1 K1 g1
  exact lawEligible cf p l W ⟨hr⟩
theorem PolicySends (v0 : Value) (x0 : D23) (v1 : Value) (x1 : D28) (now : Int) (W : World) (s0 : ∃ cs, v0 = .agg cs ∧ cs.size = Try.prog.cellsOf 23) (K0 : kd23.K W x0 v0.cells.toList) (g0 : good23 x0) (s1 : ∃ cs, v1 = .agg cs ∧ cs.size = Try.prog.cellsOf 28) (K1 : kd28.K W x1 v1.cells.toList) (g1 : good28 x1) (w2 : (Lit.int .i64 now).wf = true) :
    Calls Try.prog 4 #[v0, v1, .int .i64 now] W fun e w' => e = .returned (.bool true) ∧ Below W.heap.size W w' := by
  obtain ⟨cf, rfl⟩ := open23 s0 K0
  obtain ⟨p, l, rfl, hr, hl, _⟩ := open28 s1 K1 g1
  exact lawSends cf p l now W ⟨hr⟩ hl
theorem PolicyAnswers (v0 : Value) (x0 : D23) (v1 : Value) (x1 : D28) (v2 : Value) (x2 : D42) (now draw : Int) (W : World) (s0 : ∃ cs, v0 = .agg cs ∧ cs.size = Try.prog.cellsOf 23) (K0 : kd23.K W x0 v0.cells.toList) (g0 : good23 x0) (s1 : ∃ cs, v1 = .agg cs ∧ cs.size = Try.prog.cellsOf 28) (K1 : kd28.K W x1 v1.cells.toList) (g1 : good28 x1)
    (s2 : ∃ cs, v2 = .agg cs ∧ cs.size = Try.prog.cellsOf 42) (K2 : kd42.K W x2 v2.cells.toList) (g2 : good42 x2) (w3 : (Lit.int .i64 now).wf = true) (w4 : (Lit.int .i64 draw).wf = true) :
    Calls Try.prog 6 #[v0, v1, v2, .int .i64 now, .int .i64 draw] W fun e w' => e = .returned (.bool true) ∧ Below W.heap.size W w' := by
  obtain ⟨cf, rfl⟩ := open23 s0 K0
  obtain ⟨p, l, rfl, hr, hl, _⟩ := open28 s1 K1 g1
  obtain ⟨a, b, c, rfl⟩ := open42 s2 K2
  exact lawAnswers cf p l a b c now draw W ⟨hr⟩ hl
theorem PolicyLearns (v0 : Value) (x0 : D23) (v1 : Value) (x1 : D28) (v2 : Value) (x2 : D26) (now floor until_ : Int) (W : World) (s0 : ∃ cs, v0 = .agg cs ∧ cs.size = Try.prog.cellsOf 23) (K0 : kd23.K W x0 v0.cells.toList) (g0 : good23 x0) (s1 : ∃ cs, v1 = .agg cs ∧ cs.size = Try.prog.cellsOf 28) (K1 : kd28.K W x1 v1.cells.toList) (g1 : good28 x1)
    (s2 : ∃ cs, v2 = .agg cs ∧ cs.size = Try.prog.cellsOf 26) (K2 : kd26.K W x2 v2.cells.toList) (g2 : good26 x2) (w3 : (Lit.int .i64 now).wf = true) (w4 : (Lit.int .i64 floor).wf = true) (w5 : (Lit.int .i64 until_).wf = true) :
    Calls Try.prog 5 #[v0, v1, v2, .int .i64 now, .int .i64 floor, .int .i64 until_] W fun e w' => e = .returned (.bool true) ∧ Below W.heap.size W w' := by
  obtain ⟨cf, rfl⟩ := open23 s0 K0
  obtain ⟨p, l, rfl, hr, hl, _⟩ := open28 s1 K1 g1
  obtain ⟨al, no, A, c, d, l2, rfl, hc, hC, hl2⟩ := open26 s2 K2 g2
  exact lawLearns cf p l al no A c d l2 now floor until_ W ⟨hr⟩ hl ⟨hC, hc⟩ hl2
end Go.Proofs.Ytdmebkdikminjaa.Laws20
