/- the fixed fact, walked. -/
import Derived.Test.YtdmebkdikminjaaBx
import Derived.Outline
namespace Go.Proofs.Ytdmebkdikminjaa.Given
open Go.RowKit Go.Proofs.Ytdmebkdikminjaa.QBase Go.Proofs.YtdmebkdikminjaaW.PrintWords Go.Proofs.YtdmebkdikminjaaW.PrintLast Go.Proofs.YtdmebkdikminjaaW.PrintMore
set_option linter.unusedVariables false
set_option linter.unusedSimpArgs false
attribute [local go_sem] max2_int min2_int max_two min_two max_three min_three max_four min_four
attribute [local go_sem high] foldE foldC
attribute [local go_sem] foldP mx_fold
attribute [local go_sem high] cc0 cc1 cc2 cc3 cc4 cc5 cc6 cc7 cc8 cc9 cc10 cc11 cc12 cc13 pc0 pc1 pc2 pc3 pc4 pc5 pc6 pc7 pc8 pc9 pc10 pc11 pc12 pc13 ps0 ps1 ps2 ps3 ps4 ps5 ps6 ps7 ps8 ps9 ps10 ps11 ps12 ps13 pcs ccs
def awC : Cfg := (Cfg.mk 0 0 0 0 10 1 100 1000 2 50 0 0 99 ⟨#[]⟩)
def awP : Pol := newP 10 0
def awQ : Pol := sendP awP 5
def awR : Pol := answerP awC awQ 3 77 0 9 1000
def awS : Pol := learnP awC awR false false .none 0 0 300 9
theorem aw_1 : eligP awC awP = 0 := by decide +kernel
theorem aw_2 : eligP awC awQ = 4611686018427387903 := by decide +kernel
theorem aw_3 : awR.gap = 100 := by decide +kernel
theorem aw_4 : eligP awC awR = 105 := by decide +kernel
theorem aw_5 : awS.gap = 300 := by decide +kernel
theorem aw_6 : awS.known = 108 := by decide +kernel
theorem aw_7 : awQ.flying = 1 := by decide +kernel
theorem awRl {w : World} {p : Pol} (hn : p.n = 0) (hA : p.A = .none) : Rl w p [] := ⟨hn, Nat.zero_le _, ⟨rfl, by decide, fun h => absurd h (Nat.lt_irrefl 0)⟩⟩
theorem awn (W : World) : Calls Try.prog 20 #[.int .i64 10, .int .i64 0] W fun e w' => e = .returned (.agg awP.cells) ∧ Below W.heap.size W w' := new_calls 10 0 W
theorem aws (W : World) : Calls Try.prog 15 #[.agg awC.cells, .agg awP.cells, .int .i64 5] W fun e w' => e = .returned (.agg awQ.cells) ∧ Below W.heap.size W w' := send_calls awC awP 5 W
theorem awa (W : World) : Calls Try.prog 21 #[.agg awC.cells, .agg awQ.cells, .agg #[.int .i64 3, .int .i64 77, .int .i64 0], .int .i64 9, .int .i64 1000] W fun e w' => e = .returned (.agg awR.cells) ∧ Below W.heap.size W w' := answer_calls awC awQ 3 77 0 9 1000 W (by rw [aw_7]; decide) (by rw [aw_7]; decide)
theorem awl (W : World) : Calls Try.prog 18 #[.agg awC.cells, .agg awR.cells, .agg #[.bool false, .bool false, .slice .none 0 0, .int .i64 300], .int .i64 9] W fun e w' => e = .returned (.agg awS.cells) ∧ Below W.heap.size W w' := learn_calls awC awR false false .none 0 0 300 9 W
set_option maxHeartbeats 8000000 in
set_option maxRecDepth 100000 in
theorem awake_gen (c : Cfg) (p q r s : Pol) (W : World) (hC : Aside0 (c.cells = #[.int .i64 0, .int .i64 0, .int .i64 0, .int .i64 0, .int .i64 10, .int .i64 1, .int .i64 100, .int .i64 1000, .int .i64 2, .int .i64 50, .int .i64 0, .int .i64 0, .int .i64 99, .string ⟨#[]⟩]))
  (hn : Aside0 (∀ W, Calls Try.prog 20 #[.int .i64 10, .int .i64 0] W fun e w' => e = .returned (.agg p.cells) ∧ Below W.heap.size W w'))
  (hs : Aside0 (∀ W, Calls Try.prog 15 #[.agg c.cells, .agg p.cells, .int .i64 5] W fun e w' => e = .returned (.agg q.cells) ∧ Below W.heap.size W w'))
  (ha : Aside0 (∀ W, Calls Try.prog 21 #[.agg c.cells, .agg q.cells, .agg #[.int .i64 3, .int .i64 77, .int .i64 0], .int .i64 9, .int .i64 1000] W fun e w' => e = .returned (.agg r.cells) ∧ Below W.heap.size W w'))
  (hl : Aside0 (∀ W, Calls Try.prog 18 #[.agg c.cells, .agg r.cells, .agg #[.bool false, .bool false, .slice .none 0 0, .int .i64 300], .int .i64 9] W fun e w' => e = .returned (.agg s.cells) ∧ Below W.heap.size W w'))
  (rp : Aside0 (∀ w, Rl w p [])) (rq : Aside0 (∀ w, Rl w q [])) (rr : Aside0 (∀ w, Rl w r [])) (E : Aside0 (eligP c p = 0 ∧ eligP c q = 4611686018427387903 ∧ eligP c r = 105 ∧ (r.gap == 100) = true ∧ (s.gap == 300) = true ∧ 107 < s.known ∧ ¬ 108 < s.known)) : Calls Try.prog 9 #[] W fun e w' => e = .returned (.bool true) ∧ Below W.heap.size W w' := by
  go_enter Try.func9, Try.ntmps9
  go_upto_region 2 with (fail)
  have H : Bk W [(W.heap.size, .cells c.cells 23 (0, 0))] (W.alloc (.cells #[.int .i64 0, .int .i64 0, .int .i64 0, .int .i64 0, .int .i64 10, .int .i64 1, .int .i64 100, .int .i64 1000, .int .i64 2, .int .i64 50, .int .i64 0, .int .i64 0, .int .i64 99, .string ⟨#[]⟩] 23)) := by rw [hC.out]; exact (Bk.start W).alloc _
  generalize W.alloc (.cells #[.int .i64 0, .int .i64 0, .int .i64 0, .int .i64 0, .int .i64 10, .int .i64 1, .int .i64 100, .int .i64 1000, .int .i64 2, .int .i64 50, .int .i64 0, .int .i64 0, .int .i64 99, .string ⟨#[]⟩] 23) = w at *
  have hN : Nonempty (Kp (Bk W [(W.heap.size, .cells c.cells 23 (0, 0))])) := ⟨⟨_, H⟩⟩
  refine Calm.plain (fun w' => ∃ x : Kp (Bk W [(W.heap.size, .cells c.cells 23 (0, 0))]), w' = x.w) 1 ⟨⟨_, H⟩, rfl⟩ ?_
  simp only [List.take_succ_cons, List.take_zero, List.drop_succ_cons, List.drop_zero]
  repeat (first | go_big_quiet_skip | (go_big_quiet_want; go_big_quiet_op; first | go_big_quiet_on | go_big_quiet_call ((go_at_call 20; exact Bk.call (Kp.h _) (hn.out _)))))
  refine wpQuiet_nil ?_
  rintro _ ⟨x, rfl⟩
  have hT := st28 (g := x.w.heap.size) (p := (Pol.mk 0 0 0 0 0 0 0 0 0 0 false false .none 0 0 0)) (blk_new x.w (.cells (Pol.mk 0 0 0 0 0 0 0 0 0 0 false false .none 0 0 0).cells 28))
  have hlt : ∀ y ∈ ([(W.heap.size, .cells c.cells 23 (0, 0))] : List (Nat × Obj)), y.1 ≠ x.w.heap.size := fun y hy => Nat.ne_of_lt (blk_lt (x.h.2 y hy))
  have hlb2 : W.heap.size ≤ x.w.heap.size := x.h.1.size
  go_upto_region 3 with (fail)
  have H2 := Bk.row [] [(W.heap.size, .cells c.cells 23 (0, 0))] (cs' := (p).cells) (x.h.alloc (.cells (Pol.mk 0 0 0 0 0 0 0 0 0 0 false false .none 0 0 0).cells 28)) hlb2 (by simpa using hlt)
  generalize (x.w.alloc (.cells (Pol.mk 0 0 0 0 0 0 0 0 0 0 false false .none 0 0 0).cells 28)).setRow x.w.heap.size (p).cells = w2 at *
  generalize x.w.heap.size = b2 at *
  clear hT hlt
  clear hN H
  try clear x
  have H := H2; clear H2
  have hcb1 : ∀ (x : Kp (Bk W [(b2, .cells (p).cells 28 (0, 0)), (W.heap.size, .cells c.cells 23 (0, 0))])) i, x.w.cell? ⟨W.heap.size, i, none⟩ = (c.cells)[i]? := fun x i => x.h.cell (.tail _ (.head _)) i
  have hcb2 : ∀ (x : Kp (Bk W [(b2, .cells (p).cells 28 (0, 0)), (W.heap.size, .cells c.cells 23 (0, 0))])) i, x.w.cell? ⟨b2, i, none⟩ = ((p).cells)[i]? := fun x i => x.h.cell (.head _) i
  have hN : Nonempty (Kp (Bk W [(b2, .cells (p).cells 28 (0, 0)), (W.heap.size, .cells c.cells 23 (0, 0))])) := ⟨⟨_, H⟩⟩
  refine Calm.plain (fun w' => ∃ x : Kp (Bk W [(b2, .cells (p).cells 28 (0, 0)), (W.heap.size, .cells c.cells 23 (0, 0))]), w' = x.w) 3 ⟨⟨_, H⟩, rfl⟩ ?_
  simp only [List.take_succ_cons, List.take_zero, List.drop_succ_cons, List.drop_zero]
  repeat (first | go_big_quiet_skip | (go_big_quiet_want; (first | refine quiet_c W.heap.size c (fun y => y.h.get (.tail _ (.head _))) rfl rfl ?_ | refine quiet_p b2 (p) (fun y => y.h.get (.head _)) rfl rfl ?_); simp only [Act.put, List.setIfInBounds_toArray, List.set_cons_succ, List.set_cons_zero]; go_big_quiet_on) | (go_big_quiet_want; go_big_quiet_op; first | go_big_quiet_on | go_big_quiet_call ((go_at_call 15; exact Bk.call (Kp.h _) (hs.out _)))))
  refine wpQuiet_nil ?_
  rintro _ ⟨x, rfl⟩
  have hT := st28 (g := x.w.heap.size) (p := (Pol.mk 0 0 0 0 0 0 0 0 0 0 false false .none 0 0 0)) (blk_new x.w (.cells (Pol.mk 0 0 0 0 0 0 0 0 0 0 false false .none 0 0 0).cells 28))
  have hlt : ∀ y ∈ ([(b2, .cells (p).cells 28 (0, 0)), (W.heap.size, .cells c.cells 23 (0, 0))] : List (Nat × Obj)), y.1 ≠ x.w.heap.size := fun y hy => Nat.ne_of_lt (blk_lt (x.h.2 y hy))
  have hlb3 : W.heap.size ≤ x.w.heap.size := x.h.1.size
  go_upto_region 4 with (fail)
  have H2 := Bk.row [] [(b2, .cells (p).cells 28 (0, 0)), (W.heap.size, .cells c.cells 23 (0, 0))] (cs' := (q).cells) (x.h.alloc (.cells (Pol.mk 0 0 0 0 0 0 0 0 0 0 false false .none 0 0 0).cells 28)) hlb3 (by simpa using hlt)
  generalize (x.w.alloc (.cells (Pol.mk 0 0 0 0 0 0 0 0 0 0 false false .none 0 0 0).cells 28)).setRow x.w.heap.size (q).cells = w2 at *
  generalize x.w.heap.size = b3 at *
  clear hT hlt
  clear hcb1 hcb2 hN H
  try clear x
  have H := H2; clear H2
  have hcb1 : ∀ (x : Kp (Bk W [(b3, .cells (q).cells 28 (0, 0)), (b2, .cells (p).cells 28 (0, 0)), (W.heap.size, .cells c.cells 23 (0, 0))])) i, x.w.cell? ⟨W.heap.size, i, none⟩ = (c.cells)[i]? := fun x i => x.h.cell (.tail _ (.tail _ (.head _))) i
  have hcb3 : ∀ (x : Kp (Bk W [(b3, .cells (q).cells 28 (0, 0)), (b2, .cells (p).cells 28 (0, 0)), (W.heap.size, .cells c.cells 23 (0, 0))])) i, x.w.cell? ⟨b3, i, none⟩ = ((q).cells)[i]? := fun x i => x.h.cell (.head _) i
  have hN : Nonempty (Kp (Bk W [(b3, .cells (q).cells 28 (0, 0)), (b2, .cells (p).cells 28 (0, 0)), (W.heap.size, .cells c.cells 23 (0, 0))])) := ⟨⟨_, H⟩⟩
  refine Calm.plain (fun w' => ∃ x : Kp (Bk W [(b3, .cells (q).cells 28 (0, 0)), (b2, .cells (p).cells 28 (0, 0)), (W.heap.size, .cells c.cells 23 (0, 0))]), w' = x.w) 4 ⟨⟨_, H⟩, rfl⟩ ?_
  simp only [List.take_succ_cons, List.take_zero, List.drop_succ_cons, List.drop_zero]
  repeat (first | go_big_quiet_skip | (go_big_quiet_want; (first | refine quiet_c W.heap.size c (fun y => y.h.get (.tail _ (.tail _ (.head _)))) rfl rfl ?_ | refine quiet_p b3 (q) (fun y => y.h.get (.head _)) rfl rfl ?_); simp only [Act.put, List.setIfInBounds_toArray, List.set_cons_succ, List.set_cons_zero]; go_big_quiet_on) | (go_big_quiet_want; go_big_quiet_op; first | go_big_quiet_on | go_big_quiet_call ((go_at_call 21; exact Bk.call (Kp.h _) (ha.out _)))))
  refine wpQuiet_nil ?_
  rintro _ ⟨x, rfl⟩
  have hT := st28 (g := x.w.heap.size) (p := (Pol.mk 0 0 0 0 0 0 0 0 0 0 false false .none 0 0 0)) (blk_new x.w (.cells (Pol.mk 0 0 0 0 0 0 0 0 0 0 false false .none 0 0 0).cells 28))
  have hlt : ∀ y ∈ ([(b3, .cells (q).cells 28 (0, 0)), (b2, .cells (p).cells 28 (0, 0)), (W.heap.size, .cells c.cells 23 (0, 0))] : List (Nat × Obj)), y.1 ≠ x.w.heap.size := fun y hy => Nat.ne_of_lt (blk_lt (x.h.2 y hy))
  have hlb4 : W.heap.size ≤ x.w.heap.size := x.h.1.size
  go_upto_region 5 with (fail)
  have H2 := Bk.row [] [(b3, .cells (q).cells 28 (0, 0)), (b2, .cells (p).cells 28 (0, 0)), (W.heap.size, .cells c.cells 23 (0, 0))] (cs' := (r).cells) (x.h.alloc (.cells (Pol.mk 0 0 0 0 0 0 0 0 0 0 false false .none 0 0 0).cells 28)) hlb4 (by simpa using hlt)
  generalize (x.w.alloc (.cells (Pol.mk 0 0 0 0 0 0 0 0 0 0 false false .none 0 0 0).cells 28)).setRow x.w.heap.size (r).cells = w2 at *
  generalize x.w.heap.size = b4 at *
  clear hT hlt
  clear hcb1 hcb3 hN H
  try clear x
  have H := H2; clear H2
  have hcb1 : ∀ (x : Kp (Bk W [(b4, .cells (r).cells 28 (0, 0)), (b3, .cells (q).cells 28 (0, 0)), (b2, .cells (p).cells 28 (0, 0)), (W.heap.size, .cells c.cells 23 (0, 0))])) i, x.w.cell? ⟨W.heap.size, i, none⟩ = (c.cells)[i]? := fun x i => x.h.cell (.tail _ (.tail _ (.tail _ (.head _)))) i
  have hcb4 : ∀ (x : Kp (Bk W [(b4, .cells (r).cells 28 (0, 0)), (b3, .cells (q).cells 28 (0, 0)), (b2, .cells (p).cells 28 (0, 0)), (W.heap.size, .cells c.cells 23 (0, 0))])) i, x.w.cell? ⟨b4, i, none⟩ = ((r).cells)[i]? := fun x i => x.h.cell (.head _) i
  have hN : Nonempty (Kp (Bk W [(b4, .cells (r).cells 28 (0, 0)), (b3, .cells (q).cells 28 (0, 0)), (b2, .cells (p).cells 28 (0, 0)), (W.heap.size, .cells c.cells 23 (0, 0))])) := ⟨⟨_, H⟩⟩
  refine Calm.plain (fun w' => ∃ x : Kp (Bk W [(b4, .cells (r).cells 28 (0, 0)), (b3, .cells (q).cells 28 (0, 0)), (b2, .cells (p).cells 28 (0, 0)), (W.heap.size, .cells c.cells 23 (0, 0))]), w' = x.w) 4 ⟨⟨_, H⟩, rfl⟩ ?_
  simp only [List.take_succ_cons, List.take_zero, List.drop_succ_cons, List.drop_zero]
  repeat (first | go_big_quiet_skip | (go_big_quiet_want; (first | refine quiet_c W.heap.size c (fun y => y.h.get (.tail _ (.tail _ (.tail _ (.head _))))) rfl rfl ?_ | refine quiet_p b4 (r) (fun y => y.h.get (.head _)) rfl rfl ?_); simp only [Act.put, List.setIfInBounds_toArray, List.set_cons_succ, List.set_cons_zero]; go_big_quiet_on) | (go_big_quiet_want; go_big_quiet_op; first | go_big_quiet_on | go_big_quiet_call ((go_at_call 18; exact Bk.call (Kp.h _) (hl.out _)))))
  refine wpQuiet_nil ?_
  rintro _ ⟨x, rfl⟩
  have hT := st28 (g := x.w.heap.size) (p := (Pol.mk 0 0 0 0 0 0 0 0 0 0 false false .none 0 0 0)) (blk_new x.w (.cells (Pol.mk 0 0 0 0 0 0 0 0 0 0 false false .none 0 0 0).cells 28))
  have hlt : ∀ y ∈ ([(b4, .cells (r).cells 28 (0, 0)), (b3, .cells (q).cells 28 (0, 0)), (b2, .cells (p).cells 28 (0, 0)), (W.heap.size, .cells c.cells 23 (0, 0))] : List (Nat × Obj)), y.1 ≠ x.w.heap.size := fun y hy => Nat.ne_of_lt (blk_lt (x.h.2 y hy))
  have hlb5 : W.heap.size ≤ x.w.heap.size := x.h.1.size
  go_upto_region 6 with (fail)
  have H2 := Bk.row [] [(b4, .cells (r).cells 28 (0, 0)), (b3, .cells (q).cells 28 (0, 0)), (b2, .cells (p).cells 28 (0, 0)), (W.heap.size, .cells c.cells 23 (0, 0))] (cs' := (s).cells) (x.h.alloc (.cells (Pol.mk 0 0 0 0 0 0 0 0 0 0 false false .none 0 0 0).cells 28)) hlb5 (by simpa using hlt)
  generalize (x.w.alloc (.cells (Pol.mk 0 0 0 0 0 0 0 0 0 0 false false .none 0 0 0).cells 28)).setRow x.w.heap.size (s).cells = w2 at *
  generalize x.w.heap.size = b5 at *
  clear hT hlt
  clear hcb1 hcb4 hN H
  try clear x
  have H := H2; clear H2
  obtain ⟨e1, e2, e4, e3, e5, e6, e7⟩ := E.out
  have hcb1 : ∀ (x : Kp (Bk W [(b5, .cells (s).cells 28 (0, 0)), (b4, .cells (r).cells 28 (0, 0)), (b3, .cells (q).cells 28 (0, 0)), (b2, .cells (p).cells 28 (0, 0)), (W.heap.size, .cells c.cells 23 (0, 0))])) i, x.w.cell? ⟨W.heap.size, i, none⟩ = (c.cells)[i]? := fun x i => x.h.cell (.tail _ (.tail _ (.tail _ (.tail _ (.head _))))) i
  have hcb2 : ∀ (x : Kp (Bk W [(b5, .cells (s).cells 28 (0, 0)), (b4, .cells (r).cells 28 (0, 0)), (b3, .cells (q).cells 28 (0, 0)), (b2, .cells (p).cells 28 (0, 0)), (W.heap.size, .cells c.cells 23 (0, 0))])) i, x.w.cell? ⟨b2, i, none⟩ = ((p).cells)[i]? := fun x i => x.h.cell (.tail _ (.tail _ (.tail _ (.head _)))) i
  have hcb3 : ∀ (x : Kp (Bk W [(b5, .cells (s).cells 28 (0, 0)), (b4, .cells (r).cells 28 (0, 0)), (b3, .cells (q).cells 28 (0, 0)), (b2, .cells (p).cells 28 (0, 0)), (W.heap.size, .cells c.cells 23 (0, 0))])) i, x.w.cell? ⟨b3, i, none⟩ = ((q).cells)[i]? := fun x i => x.h.cell (.tail _ (.tail _ (.head _))) i
  have hcb4 : ∀ (x : Kp (Bk W [(b5, .cells (s).cells 28 (0, 0)), (b4, .cells (r).cells 28 (0, 0)), (b3, .cells (q).cells 28 (0, 0)), (b2, .cells (p).cells 28 (0, 0)), (W.heap.size, .cells c.cells 23 (0, 0))])) i, x.w.cell? ⟨b4, i, none⟩ = ((r).cells)[i]? := fun x i => x.h.cell (.tail _ (.head _)) i
  have hcb5 : ∀ (x : Kp (Bk W [(b5, .cells (s).cells 28 (0, 0)), (b4, .cells (r).cells 28 (0, 0)), (b3, .cells (q).cells 28 (0, 0)), (b2, .cells (p).cells 28 (0, 0)), (W.heap.size, .cells c.cells 23 (0, 0))])) i, x.w.cell? ⟨b5, i, none⟩ = ((s).cells)[i]? := fun x i => x.h.cell (.head _) i
  have hN : Nonempty (Kp (Bk W [(b5, .cells (s).cells 28 (0, 0)), (b4, .cells (r).cells 28 (0, 0)), (b3, .cells (q).cells 28 (0, 0)), (b2, .cells (p).cells 28 (0, 0)), (W.heap.size, .cells c.cells 23 (0, 0))])) := ⟨⟨_, H⟩⟩
  refine Calm.whole (fun w' => ∃ x : Kp (Bk W [(b5, .cells (s).cells 28 (0, 0)), (b4, .cells (r).cells 28 (0, 0)), (b3, .cells (q).cells 28 (0, 0)), (b2, .cells (p).cells 28 (0, 0)), (W.heap.size, .cells c.cells 23 (0, 0))]), w' = x.w) ⟨⟨_, H⟩, rfl⟩ ?_
  repeat (first | go_big_quiet_skip | (go_big_quiet_want; (first | refine quiet_c W.heap.size c (fun y => y.h.get (.tail _ (.tail _ (.tail _ (.tail _ (.head _)))))) rfl rfl ?_ | refine quiet_p b2 (p) (fun y => y.h.get (.tail _ (.tail _ (.tail _ (.head _))))) rfl rfl ?_ | refine quiet_p b3 (q) (fun y => y.h.get (.tail _ (.tail _ (.head _)))) rfl rfl ?_ | refine quiet_p b4 (r) (fun y => y.h.get (.tail _ (.head _))) rfl rfl ?_ | refine quiet_p b5 (s) (fun y => y.h.get (.head _)) rfl rfl ?_); simp only [Act.put, List.setIfInBounds_toArray, List.set_cons_succ, List.set_cons_zero]; go_big_quiet_on) | (go_big_quiet_want; go_big_quiet_op; first | go_big_quiet_on | go_big_quiet_call (first
      | (go_at_call 10; exact Bk.call (Kp.h _) (elig_calls c (rp.out _)))
      | (go_at_call 10; exact Bk.call (Kp.h _) (elig_calls c (rq.out _)))
      | (go_at_call 10; exact Bk.call (Kp.h _) (elig_calls c (rr.out _)))
      | (go_at_call 17; exact Bk.call (Kp.h _) (knows_calls s _ _))
      | (go_at_call 14; exact Bk.call (Kp.h _) (same_calls (rp.out _) (by decide))))))
  refine wpQuiet_nil ?_
  rintro _ ⟨x, rfl⟩
  go_wp2
  go_ret
  exact ⟨rfl, x.h.1⟩
theorem awRn : awR.n = 0 := by decide +kernel
theorem awRA : awR.A = .none := by decide +kernel
theorem awQn : awQ.n = 0 := by decide +kernel
theorem awQA : awQ.A = .none := by decide +kernel
theorem awake_calls (W : World) : Calls Try.prog 9 #[] W fun e w' => e = .returned (.bool true) ∧ Below W.heap.size W w' :=
  awake_gen awC awP awQ awR awS W ⟨rfl⟩ ⟨awn⟩ ⟨aws⟩ ⟨awa⟩ ⟨awl⟩ ⟨fun w => awRl rfl rfl⟩ ⟨fun w => awRl awQn awQA⟩ ⟨fun w => awRl awRn awRA⟩ ⟨aw_1, aw_2, aw_4, by rw [aw_3]; rfl, by rw [aw_5]; rfl, by rw [aw_6]; decide, by rw [aw_6]; decide⟩
end Go.Proofs.Ytdmebkdikminjaa.Given
