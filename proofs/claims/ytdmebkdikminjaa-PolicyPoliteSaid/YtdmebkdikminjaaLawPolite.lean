/- PolicyPolite, walked: whatever a host says, it is sent nothing too soon; no condition. -/
import Derived.Test.YtdmebkdikminjaaGivH
import Derived.Test.YtdmebkdikminjaaPol20
import Derived.Test.YtdmebkdikminjaaAct0
import Derived.Test.YtdmebkdikminjaaArgsPolicyPolite
import Derived.Outline
import Derived.Deep.LoopGhost
import Derived.Deep.DeepCutAuto
namespace Go.Proofs.Ytdmebkdikminjaa.Given
open Go.Proofs.Ytdmebkdikminjaa.QMid Go.Proofs.Ytdmebkdikminjaa.Act
open Go.RowKit Go.Proofs.Ytdmebkdikminjaa.QBase Go.Proofs.YtdmebkdikminjaaW.PrintWords Go.Proofs.YtdmebkdikminjaaW.PrintLast Go.Proofs.YtdmebkdikminjaaW.PrintMore
set_option linter.unusedVariables false
set_option linter.unusedSimpArgs false
attribute [local go_sem] max2_int min2_int max_two min_two max_three min_three max_four min_four
attribute [local go_sem high] foldE foldC
attribute [local go_sem] foldP mx_fold
attribute [local go_sem high] cc0 cc1 cc2 cc3 cc4 cc5 cc6 cc7 cc8 cc9 cc10 cc11 cc12 cc13 pc0 pc1 pc2 pc3 pc4 pc5 pc6 pc7 pc8 pc9 pc10 pc11 pc12 pc13 ps0 ps1 ps2 ps3 ps4 ps5 ps6 ps7 ps8 ps9 ps10 ps11 ps12 ps13 pcs ccs
theorem PI.rl {cf : Cfg} {p : Pol} {now last delay asked fl : Int} {i : Nat} (h : PI cf p now last delay asked fl i) (w : World) : Rl w p [] := awRl h.n h.A
theorem pne (p : Pol) : (p.cells = #[]) = False := eq_false (fun h => Nat.succ_ne_zero 13 (congrArg Array.size h))
attribute [local go_sem] pne
set_option maxHeartbeats 8000000 in
set_option maxRecDepth 100000 in
theorem lawPolite (fl cp : Int) (A : Option Addr) (c : Nat) (l : List S48) (W : World) (h0 : 0 ≤ fl) (h1 : fl ≤ 255) (h2 : 0 ≤ cp) (h3 : cp ≤ 255) (hK : Aside0 (Kd.C k48 W A l.length l)) (hlen : l.length ≤ 4611686018427387904) : Calls Try.prog 7 #[.int .u8 fl, .int .u8 cp, .slice A l.length c] W fun e w' => e = .returned (.bool true) ∧ Below W.heap.size W w' := by
  go_enter Try.func7, Try.ntmps7
  go_upto_region 2 with (fail)
  obtain ⟨cf, hcf⟩ : ∃ cf : Cfg, cf = ⟨0, 0, 0, 0, fl, cp % 3 + 1, 20, 500, 3, 200, 0, 0, 1000, ⟨#[]⟩⟩ := ⟨_, rfl⟩
  have HC : PC cf := by subst hcf; exact ⟨h0, h1, by show 1 ≤ cp % 3 + 1; omega, by show cp % 3 + 1 ≤ 3; omega, rfl, rfl, rfl⟩
  have H : Bk W [(W.heap.size, .cells cf.cells 23 (0, 0))] (W.alloc (.cells #[.int .i64 0, .int .i64 0, .int .i64 0, .int .i64 0, .int .i64 fl, .int .i64 (cp % 3 + 1), .int .i64 20, .int .i64 500, .int .i64 3, .int .i64 200, .int .i64 0, .int .i64 0, .int .i64 1000, .string ⟨#[]⟩] 23)) := by rw [hcf]; exact (Bk.start W).alloc _
  generalize W.alloc (.cells #[.int .i64 0, .int .i64 0, .int .i64 0, .int .i64 0, .int .i64 fl, .int .i64 (cp % 3 + 1), .int .i64 20, .int .i64 500, .int .i64 3, .int .i64 200, .int .i64 0, .int .i64 0, .int .i64 1000, .string ⟨#[]⟩] 23) = w at *
  clear hcf
  have HC' := Aside0.mk HC; clear HC
  have hcb7 : ∀ (x : Kp (Bk W [(W.heap.size, .cells cf.cells 23 (0, 0))])) i, x.w.cell? ⟨W.heap.size, i, none⟩ = (cf.cells)[i]? := fun x i => x.h.cell (.head _) i
  have hN : Nonempty (Kp (Bk W [(W.heap.size, .cells cf.cells 23 (0, 0))])) := ⟨⟨_, H⟩⟩
  refine Calm.plain (fun w' => ∃ x : Kp (Bk W [(W.heap.size, .cells cf.cells 23 (0, 0))]), w' = x.w) 3 ⟨⟨_, H⟩, rfl⟩ ?_
  simp only [List.take_succ_cons, List.take_zero, List.drop_succ_cons, List.drop_zero]
  repeat (first | go_big_quiet_skip | (go_big_quiet_want; (first | refine quiet_c W.heap.size cf (fun y => y.h.get (.head _)) rfl rfl ?_); simp only [Act.put, List.setIfInBounds_toArray, List.set_cons_succ, List.set_cons_zero]; go_big_quiet_on) | (go_big_quiet_want; go_big_quiet_op; first | go_big_quiet_on | go_big_quiet_call ((go_at_call 20; exact Bk.call (Kp.h _) (new_calls cf.floor 0 _)))))
  refine wpQuiet_nil ?_
  rintro _ ⟨x, rfl⟩
  have hT := st28 (g := x.w.heap.size) (p := (Pol.mk 0 0 0 0 0 0 0 0 0 0 false false .none 0 0 0)) (blk_new x.w (.cells (Pol.mk 0 0 0 0 0 0 0 0 0 0 false false .none 0 0 0).cells 28))
  have hlt : ∀ y ∈ ([(W.heap.size, .cells cf.cells 23 (0, 0))] : List (Nat × Obj)), y.1 ≠ x.w.heap.size := fun y hy => Nat.ne_of_lt (blk_lt (x.h.2 y hy))
  have hlbP : W.heap.size ≤ x.w.heap.size := x.h.1.size
  go_upto_region 3 with (fail)
  have H2 := Bk.row [] [(W.heap.size, .cells cf.cells 23 (0, 0))] (cs' := (newP cf.floor 0).cells) (x.h.alloc (.cells (Pol.mk 0 0 0 0 0 0 0 0 0 0 false false .none 0 0 0).cells 28)) hlbP (by simpa using hlt)
  generalize (x.w.alloc (.cells (Pol.mk 0 0 0 0 0 0 0 0 0 0 false false .none 0 0 0).cells 28)).setRow x.w.heap.size (newP cf.floor 0).cells = w2 at *
  generalize x.w.heap.size = bP at *
  clear hT; have hltbP := hlt; clear hlt
  clear hcb7 hN H
  try clear x
  have H := H2; clear H2
  have hnP : W.heap.size ≠ bP := hltbP (W.heap.size, .cells cf.cells 23 (0, 0)) (.head _)
  clear hltbP
  have hlb7 : W.heap.size ≤ W.heap.size := Nat.le_refl _
  have HI := Aside0.mk (PI.start (cf := cf) HC'.out)
  generalize newP cf.floor 0 = p0 at *
  go_wp2_with fail
  go_loopg [9, 10, 11, 12, 13, 14] 110 (fun kq v9 v10 v11 v12 v13 v14 w' => ∃ (p : Pol) (now last delay asked flying : Int) (i : Nat), v9 = .int .i64 now ∧ v10 = .int .i64 last ∧ v11 = .int .i64 delay ∧ v12 = .int .i64 asked ∧ v13 = .int .i64 flying ∧ v14 = .int .i64 i ∧ Aside0 (i + kq = 110 ∧ i ≤ 100 ∧ PI cf p now last delay asked flying i) ∧ Aside0 (Bk W [(bP, .cells p.cells 28 (0, 0)), (W.heap.size, .cells cf.cells 23 (0, 0))] w'))
  case atStart => exact ⟨p0, 0, -1, 0, 0, 0, 0, rfl, rfl, rfl, rfl, rfl, rfl, ⟨by omega, by omega, HI.out⟩, ⟨H⟩⟩
  case round =>
    clear H HI
    obtain ⟨p, now, last, delay, asked, flying, i, rfl, rfl, rfl, rfl, rfl, rfl, hI, ⟨H⟩⟩ := hrel
    have HP := hI.out.2.2
    have q1 := HP.f0; have q2 := HP.f1; have q3 := HP.l0; have q4 := HP.l1; have q5 := HP.a0; have q6 := HP.a1; have q7 := HP.d0; have q8 := HP.d1; have q9 := HP.w0; have qA := HP.w1; have qB := hI.out.2.1; have qC := HC'.out.c0; have qD := HC'.out.c1; have qE := HC'.out.f0; have qF := HC'.out.f1
    clear HP
    rcases (by omega : (i < l.length ∧ i < 100) ∨ (i < l.length ∧ ¬ i < 100) ∨ ¬ i < l.length) with hi | hi | hi
    · have hi1 := hi.1; have hi2 := hi.2; clear hi
      obtain ⟨ad, ev, hA, c0, c1, c2, c3⟩ := at_48 (Kd.C_below hK.out H.1) i hi1
      subst hA
      go_upto_region 8 with (fail)
      have H2 := H.alloc (.cells #[.int .i64 ev.f0, .int .i64 ev.f1, .int .i64 ev.f2, .int .i64 ev.f3] 48)
      have hltA : ∀ y ∈ ([(bP, .cells p.cells 28 (0, 0)), (W.heap.size, .cells cf.cells 23 (0, 0))] : List (Nat × Obj)), y.1 ≠ wr.heap.size := fun y hy => Nat.ne_of_lt (blk_lt (H.2 y hy))
      have hn1 := hltA _ (.head _); have hn2 := hltA _ (.tail _ (.head _))
      have hn3 : bP ≠ wr.heap.size := hn1; have hn4 := hn3.symm; have hn5 : W.heap.size ≠ wr.heap.size := hn2; have hn6 := hn5.symm
      clear hltA c0 c1 c2 c3 H hn1 hn2; have H := H2; clear H2
      generalize wr.alloc (.cells #[.int .i64 ev.f0, .int .i64 ev.f1, .int .i64 ev.f2, .int .i64 ev.f3] 48) = w2 at *
      generalize wr.heap.size = bA at *
      have gcbA : ∀ i, w2.cell? ⟨bA, i, none⟩ = (#[.int .i64 ev.f0, .int .i64 ev.f1, .int .i64 ev.f2, .int .i64 ev.f3])[i]? := fun i => H.cell (.head _) i
      have tb := tmod_bd ev.f2; have tb1 := tb.1; have tb2 := tb.2; clear tb
      go_upto_if 47 with (fail)
      go_cut [16] (fun v w' => v = .int .i64 (absP (ev.f2.tmod 1000)) ∧ Aside0 (w' = w2))
      case first =>
        by_cases h : ev.f2.tmod 1000 < 0
        · have e : absP (ev.f2.tmod 1000) = -(ev.f2.tmod 1000) := by unfold absP; rw [if_pos h]
          go_wp2; go_meet
          case rel => exact ⟨by rw [e], ⟨rfl⟩⟩
        · have e : absP (ev.f2.tmod 1000) = ev.f2.tmod 1000 := by unfold absP; rw [if_neg h]
          go_wp2; go_meet
          case rel => exact ⟨by rw [e], ⟨rfl⟩⟩
      case rest =>
        obtain ⟨rfl, ⟨ew⟩⟩ := hcut
        subst ew
        have hw := abs_bd ev.f2; have hw0 := hw.1; have hw1 := hw.2; clear hw tb1 tb2
        generalize absP (ev.f2.tmod 1000) = wt at *
        rcases (by omega : ev.f0 = 0 ∨ ev.f0 = 1 ∨ ev.f0 = 2 ∨ (ev.f0 ≠ 0 ∧ ev.f0 ≠ 1 ∧ ev.f0 ≠ 2)) with z | z | z | z
        · have hz := Aside0.mk z
          have z0 : (ev.f0 == 0) = true := by simp [z]
          have z1 : (ev.f0 == 1) = false := by simp [z]
          have z2 : (ev.f0 == 2) = false := by simp [z]
          clear z
          by_cases hf : flying = 0
          · as_aux_lemma =>
              have y0 : (flying == 0) = true := by simp [hf]
              have Hf := Aside0.mk hf; clear hf
              go_upto_region 6 with (fail)
              go_wp2_with fail
              go_roundg (gk - 1)
              case measure => have := hI.out.1; omega
              case rel => exact ⟨p, now + 1, last, delay, asked, flying, i + 1, rfl, rfl, rfl, rfl, rfl, by go_num, ⟨by have := hI.out.1; omega, by omega, hI.out.2.2.idle⟩, ⟨⟨H.1, fun y hy => H.2 y (.tail _ hy)⟩⟩⟩
          · as_aux_lemma =>
              have y0 : (flying == 0) = false := by simp [hf]
              have Hf := Aside0.mk hf; clear hf
              go_upto_region 33 with (fail)
              have H2 := H.alloc (.cells #[.int .i64 (1 + wt % 4), .int .i64 0, .int .i64 0] 42)
              have hltF : ∀ y ∈ ([(bA, .cells #[.int .i64 ev.f0, .int .i64 ev.f1, .int .i64 ev.f2, .int .i64 ev.f3] 48 (0, 0)), (bP, .cells p.cells 28 (0, 0)), (W.heap.size, .cells cf.cells 23 (0, 0))] : List (Nat × Obj)), y.1 ≠ wc.heap.size := fun y hy => Nat.ne_of_lt (blk_lt (H.2 y hy))
              have hF1 : bA ≠ wc.heap.size := hltF _ (.head _); have hF2 : bP ≠ wc.heap.size := hltF _ (.tail _ (.head _)); have hF3 : W.heap.size ≠ wc.heap.size := hltF _ (.tail _ (.tail _ (.head _))); have hF4 := hF2.symm; have hF5 := hF1.symm; have hF6 := hF3.symm; clear hltF
              have hlbF : W.heap.size ≤ wc.heap.size := H.1.size
              clear y0 z0 z1 z2 gcbA H; have H := H2; clear H2
              generalize wc.alloc (.cells #[.int .i64 (1 + wt % 4), .int .i64 0, .int .i64 0] 42) = w3 at *
              generalize wc.heap.size = bF at *
              obtain ⟨R, hR1, hR0⟩ : ∃ R : Int, (wt % 3 = 0 → R = now + 1 + wt) ∧ (wt % 3 ≠ 0 → R = 0) := by by_cases h : wt % 3 = 0; exact ⟨now + 1 + wt, fun _ => rfl, fun hh => absurd h hh⟩; exact ⟨0, fun hh => absurd hh h, fun _ => rfl⟩
              have hRb : 0 ≤ R ∧ R ≤ now + 1001 := by by_cases h : wt % 3 = 0; (have := hR1 h; omega); (have := hR0 h; omega)
              have HR1 := Aside0.mk hR1; have HR0 := Aside0.mk hR0; clear hR1 hR0
              have gcbF : ∀ i, w3.cell? ⟨bF, i, none⟩ = (#[.int .i64 (1 + wt % 4), .int .i64 0, .int .i64 0])[i]? := fun i => H.cell (.head _) i
              have gfbF : ∀ i, w3.frozen? ⟨bF, i, none⟩ = false := fun i => H.free (.head _) i
              go_upto_if 164 with (fail)
              go_cut [12] (fun v w' => v = .int .i64 (mx asked R) ∧ Aside0 (Bk W [(bF, .cells #[.int .i64 (1 + wt % 4), .int .i64 R, .int .i64 0] 42 (0, 0)), (bA, .cells #[.int .i64 ev.f0, .int .i64 ev.f1, .int .i64 ev.f2, .int .i64 ev.f3] 48 (0, 0)), (bP, .cells p.cells 28 (0, 0)), (W.heap.size, .cells cf.cells 23 (0, 0))] w'))
              case first =>
                by_cases h : wt % 3 = 0
                · have y1 : (wt % 3 == 0) = true := by simp [h]
                  have e := HR1.out h
                  have He := Aside0.mk e; clear e h
                  by_cases a : asked < now + 1 + wt
                  · go_wp2; go_meet
                    case rel =>
                      have e2 : mx asked R = now + 1 + wt := by rw [He.out]; unfold mx; omega
                      rw [e2, He.out]; exact ⟨rfl, ⟨Bk.put [] [(bA, .cells #[.int .i64 ev.f0, .int .i64 ev.f1, .int .i64 ev.f2, .int .i64 ev.f3] 48 (0, 0)), (bP, .cells p.cells 28 (0, 0)), (W.heap.size, .cells cf.cells 23 (0, 0))] (cs' := #[.int .i64 (1 + wt % 4), .int .i64 (now + 1 + wt), .int .i64 0]) H hlbF (by intro y hy; simp only [List.nil_append, List.mem_cons, List.not_mem_nil, or_false] at hy; rcases hy with rfl | rfl | rfl <;> assumption) 1 (.int .i64 (now + 1 + wt)) rfl⟩⟩
                  · go_wp2; go_meet
                    case rel =>
                      have e2 : mx asked R = asked := by rw [He.out]; unfold mx; omega
                      rw [e2, He.out]; exact ⟨rfl, ⟨Bk.put [] [(bA, .cells #[.int .i64 ev.f0, .int .i64 ev.f1, .int .i64 ev.f2, .int .i64 ev.f3] 48 (0, 0)), (bP, .cells p.cells 28 (0, 0)), (W.heap.size, .cells cf.cells 23 (0, 0))] (cs' := #[.int .i64 (1 + wt % 4), .int .i64 (now + 1 + wt), .int .i64 0]) H hlbF (by intro y hy; simp only [List.nil_append, List.mem_cons, List.not_mem_nil, or_false] at hy; rcases hy with rfl | rfl | rfl <;> assumption) 1 (.int .i64 (now + 1 + wt)) rfl⟩⟩
                · have y1 : (wt % 3 == 0) = false := by simp [h]
                  have He := Aside0.mk (HR0.out h)
                  clear h
                  go_wp2; go_meet
                  case rel =>
                    have e2 : mx asked R = asked := by rw [He.out]; unfold mx; omega
                    rw [e2, He.out]; exact ⟨rfl, ⟨H⟩⟩
              case rest =>
                obtain ⟨rfl, ⟨H4⟩⟩ := hcut
                clear H gcbF gfbF; have H := H4; clear H4
                go_upto_region 37 with (fail)
                have hcb7 : ∀ (x : Kp (Bk W [(bF, .cells #[.int .i64 (1 + wt % 4), .int .i64 R, .int .i64 0] 42 (0, 0)), (bA, .cells #[.int .i64 ev.f0, .int .i64 ev.f1, .int .i64 ev.f2, .int .i64 ev.f3] 48 (0, 0)), (bP, .cells p.cells 28 (0, 0)), (W.heap.size, .cells cf.cells 23 (0, 0))])) i, x.w.cell? ⟨W.heap.size, i, none⟩ = (cf.cells)[i]? := fun x i => x.h.cell (.tail _ (.tail _ (.tail _ (.head _)))) i
                have hcbP : ∀ (x : Kp (Bk W [(bF, .cells #[.int .i64 (1 + wt % 4), .int .i64 R, .int .i64 0] 42 (0, 0)), (bA, .cells #[.int .i64 ev.f0, .int .i64 ev.f1, .int .i64 ev.f2, .int .i64 ev.f3] 48 (0, 0)), (bP, .cells p.cells 28 (0, 0)), (W.heap.size, .cells cf.cells 23 (0, 0))])) i, x.w.cell? ⟨bP, i, none⟩ = (p.cells)[i]? := fun x i => x.h.cell (.tail _ (.tail _ (.head _))) i
                have hcbA : ∀ (x : Kp (Bk W [(bF, .cells #[.int .i64 (1 + wt % 4), .int .i64 R, .int .i64 0] 42 (0, 0)), (bA, .cells #[.int .i64 ev.f0, .int .i64 ev.f1, .int .i64 ev.f2, .int .i64 ev.f3] 48 (0, 0)), (bP, .cells p.cells 28 (0, 0)), (W.heap.size, .cells cf.cells 23 (0, 0))])) i, x.w.cell? ⟨bA, i, none⟩ = (#[.int .i64 ev.f0, .int .i64 ev.f1, .int .i64 ev.f2, .int .i64 ev.f3])[i]? := fun x i => x.h.cell (.tail _ (.head _)) i
                have hcbF : ∀ (x : Kp (Bk W [(bF, .cells #[.int .i64 (1 + wt % 4), .int .i64 R, .int .i64 0] 42 (0, 0)), (bA, .cells #[.int .i64 ev.f0, .int .i64 ev.f1, .int .i64 ev.f2, .int .i64 ev.f3] 48 (0, 0)), (bP, .cells p.cells 28 (0, 0)), (W.heap.size, .cells cf.cells 23 (0, 0))])) i, x.w.cell? ⟨bF, i, none⟩ = (#[.int .i64 (1 + wt % 4), .int .i64 R, .int .i64 0])[i]? := fun x i => x.h.cell (.head _) i
                have hN : Nonempty (Kp (Bk W [(bF, .cells #[.int .i64 (1 + wt % 4), .int .i64 R, .int .i64 0] 42 (0, 0)), (bA, .cells #[.int .i64 ev.f0, .int .i64 ev.f1, .int .i64 ev.f2, .int .i64 ev.f3] 48 (0, 0)), (bP, .cells p.cells 28 (0, 0)), (W.heap.size, .cells cf.cells 23 (0, 0))])) := ⟨⟨_, H⟩⟩
                refine Calm.plain (fun w' => ∃ x : Kp (Bk W [(bF, .cells #[.int .i64 (1 + wt % 4), .int .i64 R, .int .i64 0] 42 (0, 0)), (bA, .cells #[.int .i64 ev.f0, .int .i64 ev.f1, .int .i64 ev.f2, .int .i64 ev.f3] 48 (0, 0)), (bP, .cells p.cells 28 (0, 0)), (W.heap.size, .cells cf.cells 23 (0, 0))]), w' = x.w) 7 ⟨⟨_, H⟩, rfl⟩ ?_
                simp only [List.take_succ_cons, List.take_zero, List.drop_succ_cons, List.drop_zero]
                repeat (first | go_big_quiet_skip | (go_big_quiet_want; (first | refine quiet_c W.heap.size cf (fun y => y.h.get (.tail _ (.tail _ (.tail _ (.head _))))) rfl rfl ?_ | refine quiet_p bP p (fun y => y.h.get (.tail _ (.tail _ (.head _)))) rfl rfl ?_); simp only [Act.put, List.setIfInBounds_toArray, List.set_cons_succ, List.set_cons_zero]; go_big_quiet_on) | (go_big_quiet_want; go_big_quiet_op; first | go_big_quiet_on | go_big_quiet_call ((go_at_call 21; exact Bk.call (Kp.h _) (answer_calls cf p (1 + wt % 4) R 0 (now + 1) ev.f3 _ (by rw [hI.out.2.2.hfl]; omega) (by rw [hI.out.2.2.hfl]; omega))))))
                refine wpQuiet_nil ?_
                rintro _ ⟨x, rfl⟩
                have hT := st28 (x.h.get (.tail _ (.tail _ (.head _))))
                go_upto_region 41 with (fail)
                have H2 := Bk.row [(bF, .cells #[.int .i64 (1 + wt % 4), .int .i64 R, .int .i64 0] 42 (0, 0)), (bA, .cells #[.int .i64 ev.f0, .int .i64 ev.f1, .int .i64 ev.f2, .int .i64 ev.f3] 48 (0, 0))] [(W.heap.size, .cells cf.cells 23 (0, 0))] (cs' := (answerP cf p (1 + wt % 4) R 0 (now + 1) ev.f3).cells) x.h hlbP (by intro y hy; simp only [List.cons_append, List.nil_append, List.mem_cons, List.not_mem_nil, or_false] at hy; rcases hy with rfl | rfl | rfl <;> assumption)
                generalize x.w.setRow bP ((answerP cf p (1 + wt % 4) R 0 (now + 1) ev.f3).cells) = w2 at *
                clear hT
                clear hcb7 hcbP hcbA hcbF hN H
                try clear x
                have H := H2; clear H2
                have HA := Aside0.mk (hI.out.2.2.answer HC'.out (by omega) Hf.out (1 + wt % 4) R ev.f3 hRb.1 hRb.2)
                generalize answerP cf p (1 + wt % 4) R 0 (now + 1) ev.f3 = r at *
                have e8 := HA.out.hfl
                have gcbP : ∀ i, w2.cell? ⟨bP, i, none⟩ = (r.cells)[i]? := fun i => H.cell (.tail _ (.tail _ (.head _))) i
                go_upto_region 6 with (fail)
                go_wp2_with fail
                go_roundg (gk - 1)
                case measure => have := hI.out.1; omega
                case rel => exact ⟨r, now + 1, last, delay, mx asked R, flying - 1, i + 1, rfl, rfl, rfl, rfl, rfl, by go_num, ⟨by have := hI.out.1; omega, by omega, HA.out⟩, ⟨⟨H.1, fun y hy => H.2 y (.tail _ (.tail _ hy))⟩⟩⟩
        · have hz := Aside0.mk z
          have z0 : (ev.f0 == 0) = false := by simp [z]
          have z1 : (ev.f0 == 1) = true := by simp [z]
          have z2 : (ev.f0 == 2) = false := by simp [z]
          clear z
          by_cases hf : flying = 0
          · as_aux_lemma =>
              have y0 : (flying == 0) = true := by simp [hf]
              have Hf := Aside0.mk hf; clear hf
              go_upto_region 6 with (fail)
              go_wp2_with fail
              go_roundg (gk - 1)
              case measure => have := hI.out.1; omega
              case rel => exact ⟨p, now + 1, last, delay, asked, flying, i + 1, rfl, rfl, rfl, rfl, rfl, by go_num, ⟨by have := hI.out.1; omega, by omega, hI.out.2.2.idle⟩, ⟨⟨H.1, fun y hy => H.2 y (.tail _ hy)⟩⟩⟩
          · as_aux_lemma =>
              have y0 : (flying == 0) = false := by simp [hf]
              have Hf := Aside0.mk hf; clear hf
              go_upto_region 31 with (fail)
              clear y0 z0 z1 z2 gcbA
              have hcb7 : ∀ (x : Kp (Bk W [(bA, .cells #[.int .i64 ev.f0, .int .i64 ev.f1, .int .i64 ev.f2, .int .i64 ev.f3] 48 (0, 0)), (bP, .cells p.cells 28 (0, 0)), (W.heap.size, .cells cf.cells 23 (0, 0))])) i, x.w.cell? ⟨W.heap.size, i, none⟩ = (cf.cells)[i]? := fun x i => x.h.cell (.tail _ (.tail _ (.head _))) i
              have hcbP : ∀ (x : Kp (Bk W [(bA, .cells #[.int .i64 ev.f0, .int .i64 ev.f1, .int .i64 ev.f2, .int .i64 ev.f3] 48 (0, 0)), (bP, .cells p.cells 28 (0, 0)), (W.heap.size, .cells cf.cells 23 (0, 0))])) i, x.w.cell? ⟨bP, i, none⟩ = (p.cells)[i]? := fun x i => x.h.cell (.tail _ (.head _)) i
              have hcbA : ∀ (x : Kp (Bk W [(bA, .cells #[.int .i64 ev.f0, .int .i64 ev.f1, .int .i64 ev.f2, .int .i64 ev.f3] 48 (0, 0)), (bP, .cells p.cells 28 (0, 0)), (W.heap.size, .cells cf.cells 23 (0, 0))])) i, x.w.cell? ⟨bA, i, none⟩ = (#[.int .i64 ev.f0, .int .i64 ev.f1, .int .i64 ev.f2, .int .i64 ev.f3])[i]? := fun x i => x.h.cell (.head _) i
              have hN : Nonempty (Kp (Bk W [(bA, .cells #[.int .i64 ev.f0, .int .i64 ev.f1, .int .i64 ev.f2, .int .i64 ev.f3] 48 (0, 0)), (bP, .cells p.cells 28 (0, 0)), (W.heap.size, .cells cf.cells 23 (0, 0))])) := ⟨⟨_, H⟩⟩
              refine Calm.plain (fun w' => ∃ x : Kp (Bk W [(bA, .cells #[.int .i64 ev.f0, .int .i64 ev.f1, .int .i64 ev.f2, .int .i64 ev.f3] 48 (0, 0)), (bP, .cells p.cells 28 (0, 0)), (W.heap.size, .cells cf.cells 23 (0, 0))]), w' = x.w) 6 ⟨⟨_, H⟩, rfl⟩ ?_
              simp only [List.take_succ_cons, List.take_zero, List.drop_succ_cons, List.drop_zero]
              repeat (first | go_big_quiet_skip | (go_big_quiet_want; (first | refine quiet_c W.heap.size cf (fun y => y.h.get (.tail _ (.tail _ (.head _)))) rfl rfl ?_ | refine quiet_p bP p (fun y => y.h.get (.tail _ (.head _))) rfl rfl ?_); simp only [Act.put, List.setIfInBounds_toArray, List.set_cons_succ, List.set_cons_zero]; go_big_quiet_on) | (go_big_quiet_want; go_big_quiet_op; first | go_big_quiet_on | go_big_quiet_call ((go_at_call 23; exact Bk.call (Kp.h _) (lost_calls cf p (now + 1) ev.f3 _ (by rw [hI.out.2.2.hfl]; omega) (by rw [hI.out.2.2.hfl]; omega))))))
              refine wpQuiet_nil ?_
              rintro _ ⟨x, rfl⟩
              have hT := st28 (x.h.get (.tail _ (.head _)))
              go_upto_region 6 with (fail)
              have H2 := Bk.row [(bA, .cells #[.int .i64 ev.f0, .int .i64 ev.f1, .int .i64 ev.f2, .int .i64 ev.f3] 48 (0, 0))] [(W.heap.size, .cells cf.cells 23 (0, 0))] (cs' := (lostP cf p (now + 1) ev.f3).cells) x.h hlbP (by intro y hy; simp only [List.cons_append, List.nil_append, List.mem_cons, List.not_mem_nil, or_false] at hy; rcases hy with rfl | rfl <;> assumption)
              generalize x.w.setRow bP ((lostP cf p (now + 1) ev.f3).cells) = w2 at *
              clear hT
              clear hcb7 hcbP hcbA hN H
              try clear x
              have H := H2; clear H2
              go_upto_region 6 with (fail)
              go_wp2_with fail
              go_roundg (gk - 1)
              case measure => have := hI.out.1; omega
              case rel => exact ⟨_, now + 1, last, delay, asked, flying - 1, i + 1, rfl, rfl, rfl, rfl, rfl, by go_num, ⟨by have := hI.out.1; omega, by omega, hI.out.2.2.lost HC'.out (by omega) Hf.out ev.f3⟩, ⟨⟨H.1, fun y hy => H.2 y (.tail _ hy)⟩⟩⟩
        · as_aux_lemma =>
            have hz := Aside0.mk z
            have z0 : (ev.f0 == 0) = false := by simp [z]
            have z1 : (ev.f0 == 1) = false := by simp [z]
            have z2 : (ev.f0 == 2) = true := by simp [z]
            clear z
            go_upto_region 40 with (fail)
            clear z0 z1 z2 gcbA
            have hcb7 : ∀ (x : Kp (Bk W [(bA, .cells #[.int .i64 ev.f0, .int .i64 ev.f1, .int .i64 ev.f2, .int .i64 ev.f3] 48 (0, 0)), (bP, .cells p.cells 28 (0, 0)), (W.heap.size, .cells cf.cells 23 (0, 0))])) i, x.w.cell? ⟨W.heap.size, i, none⟩ = (cf.cells)[i]? := fun x i => x.h.cell (.tail _ (.tail _ (.head _))) i
            have hcbP : ∀ (x : Kp (Bk W [(bA, .cells #[.int .i64 ev.f0, .int .i64 ev.f1, .int .i64 ev.f2, .int .i64 ev.f3] 48 (0, 0)), (bP, .cells p.cells 28 (0, 0)), (W.heap.size, .cells cf.cells 23 (0, 0))])) i, x.w.cell? ⟨bP, i, none⟩ = (p.cells)[i]? := fun x i => x.h.cell (.tail _ (.head _)) i
            have hcbA : ∀ (x : Kp (Bk W [(bA, .cells #[.int .i64 ev.f0, .int .i64 ev.f1, .int .i64 ev.f2, .int .i64 ev.f3] 48 (0, 0)), (bP, .cells p.cells 28 (0, 0)), (W.heap.size, .cells cf.cells 23 (0, 0))])) i, x.w.cell? ⟨bA, i, none⟩ = (#[.int .i64 ev.f0, .int .i64 ev.f1, .int .i64 ev.f2, .int .i64 ev.f3])[i]? := fun x i => x.h.cell (.head _) i
            have hN : Nonempty (Kp (Bk W [(bA, .cells #[.int .i64 ev.f0, .int .i64 ev.f1, .int .i64 ev.f2, .int .i64 ev.f3] 48 (0, 0)), (bP, .cells p.cells 28 (0, 0)), (W.heap.size, .cells cf.cells 23 (0, 0))])) := ⟨⟨_, H⟩⟩
            refine Calm.plain (fun w' => ∃ x : Kp (Bk W [(bA, .cells #[.int .i64 ev.f0, .int .i64 ev.f1, .int .i64 ev.f2, .int .i64 ev.f3] 48 (0, 0)), (bP, .cells p.cells 28 (0, 0)), (W.heap.size, .cells cf.cells 23 (0, 0))]), w' = x.w) 6 ⟨⟨_, H⟩, rfl⟩ ?_
            simp only [List.take_succ_cons, List.take_zero, List.drop_succ_cons, List.drop_zero]
            repeat (first | go_big_quiet_skip | (go_big_quiet_want; (first | refine quiet_c W.heap.size cf (fun y => y.h.get (.tail _ (.tail _ (.head _)))) rfl rfl ?_ | refine quiet_p bP p (fun y => y.h.get (.tail _ (.head _))) rfl rfl ?_); simp only [Act.put, List.setIfInBounds_toArray, List.set_cons_succ, List.set_cons_zero]; go_big_quiet_on) | (go_big_quiet_want; go_big_quiet_op; first | go_big_quiet_on | go_big_quiet_call ((go_at_call 18; exact Bk.call (Kp.h _) (learn_calls cf p false false .none 0 0 wt (now + 1) _)))))
            refine wpQuiet_nil ?_
            rintro _ ⟨x, rfl⟩
            have hT := st28 (x.h.get (.tail _ (.head _)))
            go_upto_region 41 with (fail)
            have H2 := Bk.row [(bA, .cells #[.int .i64 ev.f0, .int .i64 ev.f1, .int .i64 ev.f2, .int .i64 ev.f3] 48 (0, 0))] [(W.heap.size, .cells cf.cells 23 (0, 0))] (cs' := (learnP cf p false false .none 0 0 wt (now + 1)).cells) x.h hlbP (by intro y hy; simp only [List.cons_append, List.nil_append, List.mem_cons, List.not_mem_nil, or_false] at hy; rcases hy with rfl | rfl <;> assumption)
            generalize x.w.setRow bP ((learnP cf p false false .none 0 0 wt (now + 1)).cells) = w2 at *
            clear hT
            clear hcb7 hcbP hcbA hN H
            try clear x
            have H := H2; clear H2
            have HA := Aside0.mk (hI.out.2.2.learn HC'.out hw0 hw1)
            generalize learnP cf p false false .none 0 0 wt (now + 1) = r at *
            have e8 := HA.out.hfl
            have gcbP : ∀ i, w2.cell? ⟨bP, i, none⟩ = (r.cells)[i]? := fun i => H.cell (.tail _ (.head _)) i
            go_upto_region 6 with (fail)
            go_wp2_with fail
            go_roundg (gk - 1)
            case measure => have := hI.out.1; omega
            case rel => exact ⟨r, now + 1, last, wt, asked, flying, i + 1, rfl, rfl, rfl, rfl, rfl, by go_num, ⟨by have := hI.out.1; omega, by omega, HA.out⟩, ⟨⟨H.1, fun y hy => H.2 y (.tail _ hy)⟩⟩⟩
        · have hz := Aside0.mk z
          have z0 : (ev.f0 == 0) = false := by simp [z]
          have z1 : (ev.f0 == 1) = false := by simp [z]
          have z2 : (ev.f0 == 2) = false := by simp [z]
          clear z
          go_upto_region 13 with (fail)
          clear z0 z1 z2 gcbA
          have hcb7 : ∀ (x : Kp (Bk W [(bA, .cells #[.int .i64 ev.f0, .int .i64 ev.f1, .int .i64 ev.f2, .int .i64 ev.f3] 48 (0, 0)), (bP, .cells p.cells 28 (0, 0)), (W.heap.size, .cells cf.cells 23 (0, 0))])) i, x.w.cell? ⟨W.heap.size, i, none⟩ = (cf.cells)[i]? := fun x i => x.h.cell (.tail _ (.tail _ (.head _))) i
          have hcbP : ∀ (x : Kp (Bk W [(bA, .cells #[.int .i64 ev.f0, .int .i64 ev.f1, .int .i64 ev.f2, .int .i64 ev.f3] 48 (0, 0)), (bP, .cells p.cells 28 (0, 0)), (W.heap.size, .cells cf.cells 23 (0, 0))])) i, x.w.cell? ⟨bP, i, none⟩ = (p.cells)[i]? := fun x i => x.h.cell (.tail _ (.head _)) i
          have hN : Nonempty (Kp (Bk W [(bA, .cells #[.int .i64 ev.f0, .int .i64 ev.f1, .int .i64 ev.f2, .int .i64 ev.f3] 48 (0, 0)), (bP, .cells p.cells 28 (0, 0)), (W.heap.size, .cells cf.cells 23 (0, 0))])) := ⟨⟨_, H⟩⟩
          refine Calm.whole (fun w' => ∃ x : Kp (Bk W [(bA, .cells #[.int .i64 ev.f0, .int .i64 ev.f1, .int .i64 ev.f2, .int .i64 ev.f3] 48 (0, 0)), (bP, .cells p.cells 28 (0, 0)), (W.heap.size, .cells cf.cells 23 (0, 0))]), w' = x.w) ⟨⟨_, H⟩, rfl⟩ ?_
          repeat (first | go_big_quiet_skip | (go_big_quiet_want; (first | refine quiet_c W.heap.size cf (fun y => y.h.get (.tail _ (.tail _ (.head _)))) rfl rfl ?_ | refine quiet_p bP p (fun y => y.h.get (.tail _ (.head _))) rfl rfl ?_); simp only [Act.put, List.setIfInBounds_toArray, List.set_cons_succ, List.set_cons_zero]; go_big_quiet_on) | (go_big_quiet_want; go_big_quiet_op; first | go_big_quiet_on | go_big_quiet_call ((go_at_call 10; exact Bk.call (Kp.h _) (elig_calls cf (hI.out.2.2.rl _))))))
          refine wpQuiet_nil ?_
          rintro _ ⟨x, rfl⟩
          have H := x.h
          clear hcb7 hcbP hN
          have HE := hI.out.2.2.elig HC'.out (by omega)
          obtain ⟨E, hE⟩ : ∃ E, eligP cf p = E := ⟨_, rfl⟩
          rw [hE] at HE; rw [hE]; clear hE
          rcases HE with ⟨e, hN⟩ | HE
          · have y1 : (E == 4611686018427387903) = true := by simp [e]
            clear e
            rcases (by omega : ¬ flying < cf.cap ∨ (flying < cf.cap ∧ p.state ≠ 0)) with a | a
            · as_aux_lemma =>
                clear hN
                have gcb7 : ∀ i, x.w.cell? ⟨W.heap.size, i, none⟩ = (cf.cells)[i]? := fun i => H.cell (.tail _ (.tail _ (.head _))) i
                have gcbP : ∀ i, x.w.cell? ⟨bP, i, none⟩ = (p.cells)[i]? := fun i => H.cell (.tail _ (.head _)) i
                go_upto_region 6 with (fail)
                go_wp2_with fail
                go_roundg (gk - 1)
                case measure => have := hI.out.1; omega
                case rel => exact ⟨p, now + 1, last, delay, asked, flying, i + 1, rfl, rfl, rfl, rfl, rfl, by go_num, ⟨by have := hI.out.1; omega, by omega, hI.out.2.2.idle⟩, ⟨⟨H.1, fun y hy => H.2 y (.tail _ hy)⟩⟩⟩
            · as_aux_lemma =>
                have a1 := a.1
                have a2 : (p.state == 0) = false := by simp [a.2]
                clear hN a
                have gcb7 : ∀ i, x.w.cell? ⟨W.heap.size, i, none⟩ = (cf.cells)[i]? := fun i => H.cell (.tail _ (.tail _ (.head _))) i
                have gcbP : ∀ i, x.w.cell? ⟨bP, i, none⟩ = (p.cells)[i]? := fun i => H.cell (.tail _ (.head _)) i
                go_upto_region 6 with (fail)
                go_wp2_with fail
                go_roundg (gk - 1)
                case measure => have := hI.out.1; omega
                case rel => exact ⟨p, now + 1, last, delay, asked, flying, i + 1, rfl, rfl, rfl, rfl, rfl, by go_num, ⟨by have := hI.out.1; omega, by omega, hI.out.2.2.idle⟩, ⟨⟨H.1, fun y hy => H.2 y (.tail _ hy)⟩⟩⟩
          · obtain ⟨e, k1, k2, k3, k4, k5, k6, k7⟩ := HE
            have y1 : (E == 4611686018427387903) = false := by simp [e]
            clear e
            have K2 := Aside0.mk k2; have K6 := Aside0.mk k6; have K7 := Aside0.mk k7; clear k2 k6 k7
            go_upto_if 70 with (fail)
            go_cut [9] (fun v w' => v = .int .i64 (mx E (now + 1)) ∧ Aside0 (w' = x.w))
            case first =>
              by_cases h : now + 1 < E
              · have e : mx E (now + 1) = E := by unfold mx; omega
                go_wp2; go_meet
                case rel => exact ⟨by rw [e], ⟨rfl⟩⟩
              · have e : mx E (now + 1) = now + 1 := by unfold mx; omega
                go_wp2; go_meet
                case rel => exact ⟨by rw [e], ⟨rfl⟩⟩
            case rest =>
              obtain ⟨rfl, ⟨ew⟩⟩ := hcut
              subst ew
              have hm : now + 1 ≤ mx E (now + 1) ∧ E ≤ mx E (now + 1) ∧ mx E (now + 1) ≤ now + 2001 := by unfold mx; omega
              generalize mx E (now + 1) = n at *
              have hm1 := hm.1; have hm2 := hm.2.1; have hm3 := hm.2.2; clear hm y1
              have gg := hI.out.2.2.g0; have gd := hI.out.2.2.gd; have gm := hI.out.2.2.g1
              have HL : Aside0 (0 ≤ last → cf.floor ≤ n - last ∧ delay ≤ n - last) := ⟨fun h => by have := K6.out h; omega⟩
              go_upto_region 19 with (fail)
              go_cut [112] (fun v w' => v = .bool false ∧ Aside0 (w' = x.w))
              case first =>
                have gcb7 : ∀ i, x.w.cell? ⟨W.heap.size, i, none⟩ = (cf.cells)[i]? := fun i => H.cell (.tail _ (.tail _ (.head _))) i
                have gcbP : ∀ i, x.w.cell? ⟨bP, i, none⟩ = (p.cells)[i]? := fun i => H.cell (.tail _ (.head _)) i
                have u1 : ¬ cf.cap ≤ flying := by omega
                have u2 : ¬ n < asked := by omega
                rcases (by omega : (0 ≤ last ∧ p.state = 0) ∨ (0 ≤ last ∧ p.state = 1) ∨ (0 ≤ last ∧ p.state ≠ 0 ∧ p.state ≠ 1) ∨ (¬ 0 ≤ last ∧ p.state = 0) ∨ (¬ 0 ≤ last ∧ p.state = 1) ∨ (¬ 0 ≤ last ∧ p.state ≠ 0 ∧ p.state ≠ 1)) with v | v | v | v | v | v
                · as_aux_lemma =>
                    have v1 := v.1
                    have v2 := (HL.out v1).1; have v3 : ¬ n - last < cf.floor := (by omega); clear v2
                    have s0 : (p.state == 0) = true := by simp [v.2]
                    have s1 : (p.state == 1) = false := by simp [v.2]
                    have s2 : (p.state != 0) = false := by simp [v.2]
                    clear v
                    go_wp2; go_meet
                    case rel => exact ⟨rfl, ⟨rfl⟩⟩
                · as_aux_lemma =>
                    have v1 := v.1
                    have v2 := (HL.out v1).1; have v3 : ¬ n - last < cf.floor := (by omega); clear v2
                    have s0 : (p.state == 0) = false := by simp [v.2]
                    have s1 : (p.state == 1) = true := by simp [v.2]
                    have v4 : ¬ n < p.till := by have := K7.out v.2; omega
                    have v5 : ¬ 0 < flying := by have := K2.out (by rw [v.2]; decide); omega
                    have s2 : (p.state != 0) = true := by simp [v.2]
                    clear v
                    go_wp2; go_meet
                    case rel => exact ⟨rfl, ⟨rfl⟩⟩
                · as_aux_lemma =>
                    have v1 := v.1
                    have v2 := (HL.out v1).1; have v3 : ¬ n - last < cf.floor := (by omega); clear v2
                    have s0 : (p.state == 0) = false := by simp [v.2]
                    have s1 : (p.state == 1) = false := by simp [v.2]
                    have v5 : ¬ 0 < flying := by have := K2.out v.2.1; omega
                    have s2 : (p.state != 0) = true := by simp [v.2]
                    clear v
                    go_wp2; go_meet
                    case rel => exact ⟨rfl, ⟨rfl⟩⟩
                · as_aux_lemma =>
                    have v1 := v.1
                    have s0 : (p.state == 0) = true := by simp [v.2]
                    have s1 : (p.state == 1) = false := by simp [v.2]
                    have s2 : (p.state != 0) = false := by simp [v.2]
                    clear v
                    go_wp2; go_meet
                    case rel => exact ⟨rfl, ⟨rfl⟩⟩
                · as_aux_lemma =>
                    have v1 := v.1
                    have s0 : (p.state == 0) = false := by simp [v.2]
                    have s1 : (p.state == 1) = true := by simp [v.2]
                    have v4 : ¬ n < p.till := by have := K7.out v.2; omega
                    have v5 : ¬ 0 < flying := by have := K2.out (by rw [v.2]; decide); omega
                    have s2 : (p.state != 0) = true := by simp [v.2]
                    clear v
                    go_wp2; go_meet
                    case rel => exact ⟨rfl, ⟨rfl⟩⟩
                · as_aux_lemma =>
                    have v1 := v.1
                    have s0 : (p.state == 0) = false := by simp [v.2]
                    have s1 : (p.state == 1) = false := by simp [v.2]
                    have v5 : ¬ 0 < flying := by have := K2.out v.2.1; omega
                    have s2 : (p.state != 0) = true := by simp [v.2]
                    clear v
                    go_wp2; go_meet
                    case rel => exact ⟨rfl, ⟨rfl⟩⟩
              case rest =>
                obtain ⟨rfl, ⟨ew⟩⟩ := hcut
                subst ew
                go_upto_region 21 with (fail)
                go_cut [134] (fun v w' => v = .bool false ∧ Aside0 (w' = x.w))
                case first =>
                  rcases (by omega : (0 ≤ last ∧ 0 < i) ∨ (0 ≤ last ∧ ¬ 0 < i) ∨ ¬ 0 ≤ last) with v | v | v
                  · have v1 := v.1; have v2 := v.2; clear v
                    have v3 : ¬ n - last < delay := by have := (HL.out v1).2; omega
                    obtain ⟨ad2, ev2, hA2, d0, _, _, _⟩ := at_48 (Kd.C_below hK.out H.1) (i - 1) (by omega)
                    cases hA2
                    by_cases v4 : ev2.f0 = 2
                    · have v5 : (ev2.f0 == 2) = true := by simp [v4]
                      clear v4
                      go_wp2; go_meet
                      case rel => exact ⟨rfl, ⟨rfl⟩⟩
                    · have v5 : (ev2.f0 == 2) = false := by simp [v4]
                      clear v4
                      go_wp2; go_meet
                      case rel => exact ⟨rfl, ⟨rfl⟩⟩
                  · have v1 := v.1; have v2 := v.2; clear v
                    go_wp2; go_meet
                    case rel => exact ⟨rfl, ⟨rfl⟩⟩
                  · go_wp2; go_meet
                    case rel => exact ⟨rfl, ⟨rfl⟩⟩
                case rest =>
                  as_aux_lemma =>
                    obtain ⟨rfl, ⟨ew⟩⟩ := hcut
                    subst ew
                    go_upto_region 23 with (fail)
                    have hcb7 : ∀ (x : Kp (Bk W [(bA, .cells #[.int .i64 ev.f0, .int .i64 ev.f1, .int .i64 ev.f2, .int .i64 ev.f3] 48 (0, 0)), (bP, .cells p.cells 28 (0, 0)), (W.heap.size, .cells cf.cells 23 (0, 0))])) i, x.w.cell? ⟨W.heap.size, i, none⟩ = (cf.cells)[i]? := fun x i => x.h.cell (.tail _ (.tail _ (.head _))) i
                    have hcbP : ∀ (x : Kp (Bk W [(bA, .cells #[.int .i64 ev.f0, .int .i64 ev.f1, .int .i64 ev.f2, .int .i64 ev.f3] 48 (0, 0)), (bP, .cells p.cells 28 (0, 0)), (W.heap.size, .cells cf.cells 23 (0, 0))])) i, x.w.cell? ⟨bP, i, none⟩ = (p.cells)[i]? := fun x i => x.h.cell (.tail _ (.head _)) i
                    have hN : Nonempty (Kp (Bk W [(bA, .cells #[.int .i64 ev.f0, .int .i64 ev.f1, .int .i64 ev.f2, .int .i64 ev.f3] 48 (0, 0)), (bP, .cells p.cells 28 (0, 0)), (W.heap.size, .cells cf.cells 23 (0, 0))])) := ⟨⟨_, H⟩⟩
                    refine Calm.plain (fun w' => ∃ x : Kp (Bk W [(bA, .cells #[.int .i64 ev.f0, .int .i64 ev.f1, .int .i64 ev.f2, .int .i64 ev.f3] 48 (0, 0)), (bP, .cells p.cells 28 (0, 0)), (W.heap.size, .cells cf.cells 23 (0, 0))]), w' = x.w) 4 ⟨⟨_, H⟩, rfl⟩ ?_
                    simp only [List.take_succ_cons, List.take_zero, List.drop_succ_cons, List.drop_zero]
                    repeat (first | go_big_quiet_skip | (go_big_quiet_want; (first | refine quiet_c W.heap.size cf (fun y => y.h.get (.tail _ (.tail _ (.head _)))) rfl rfl ?_ | refine quiet_p bP p (fun y => y.h.get (.tail _ (.head _))) rfl rfl ?_); simp only [Act.put, List.setIfInBounds_toArray, List.set_cons_succ, List.set_cons_zero]; go_big_quiet_on) | (go_big_quiet_want; go_big_quiet_op; first | go_big_quiet_on | go_big_quiet_call ((go_at_call 15; exact Bk.call (Kp.h _) (send_calls cf p n _)))))
                    refine wpQuiet_nil ?_
                    rintro _ ⟨x, rfl⟩
                    have hT := st28 (x.h.get (.tail _ (.head _)))
                    go_upto_region 24 with (fail)
                    have H2 := Bk.row [(bA, .cells #[.int .i64 ev.f0, .int .i64 ev.f1, .int .i64 ev.f2, .int .i64 ev.f3] 48 (0, 0))] [(W.heap.size, .cells cf.cells 23 (0, 0))] (cs' := (sendP p n).cells) x.h hlbP (by intro y hy; simp only [List.cons_append, List.nil_append, List.mem_cons, List.not_mem_nil, or_false] at hy; rcases hy with rfl | rfl <;> assumption)
                    generalize x.w.setRow bP ((sendP p n).cells) = w2 at *
                    clear hT
                    clear hcb7 hcbP hN H
                    try clear x
                    have H := H2; clear H2
                    have HA := Aside0.mk (hI.out.2.2.send HC'.out k1 hm1 hm3 (by omega))
                    generalize sendP p n = r at *
                    have e8 := HA.out.hfl
                    have gcbP : ∀ i, w2.cell? ⟨bP, i, none⟩ = (r.cells)[i]? := fun i => H.cell (.tail _ (.head _)) i
                    go_upto_region 6 with (fail)
                    go_wp2_with fail
                    go_roundg (gk - 1)
                    case measure => have := hI.out.1; omega
                    case rel => exact ⟨r, n, n, delay, asked, flying + 1, i + 1, rfl, rfl, rfl, rfl, rfl, by go_num, ⟨by have := hI.out.1; omega, by omega, HA.out⟩, ⟨⟨H.1, fun y hy => H.2 y (.tail _ hy)⟩⟩⟩
    · have hi1 := hi.1; have hi2 := hi.2; clear hi
      go_upto_region 43 with (fail)
      have hN : Nonempty (Kp (Bk W [(bP, .cells p.cells 28 (0, 0)), (W.heap.size, .cells cf.cells 23 (0, 0))])) := ⟨⟨_, H⟩⟩
      refine Calm.whole (fun w' => ∃ x : Kp (Bk W [(bP, .cells p.cells 28 (0, 0)), (W.heap.size, .cells cf.cells 23 (0, 0))]), w' = x.w) ⟨⟨_, H⟩, rfl⟩ ?_
      repeat (first | go_big_quiet_skip | (go_big_quiet_want; go_big_quiet_op; first | go_big_quiet_on | go_big_quiet_call ((go_at_call 9; exact Bk.call (Kp.h _) (awake_calls _)))))
      refine wpQuiet_nil ?_
      rintro _ ⟨x, rfl⟩
      have HE := x.h.1
      clear hN
      go_wp2
      go_ret
      exact ⟨by first | rfl | simp, HE⟩
    · go_upto_region 43 with (fail)
      have hN : Nonempty (Kp (Bk W [(bP, .cells p.cells 28 (0, 0)), (W.heap.size, .cells cf.cells 23 (0, 0))])) := ⟨⟨_, H⟩⟩
      refine Calm.whole (fun w' => ∃ x : Kp (Bk W [(bP, .cells p.cells 28 (0, 0)), (W.heap.size, .cells cf.cells 23 (0, 0))]), w' = x.w) ⟨⟨_, H⟩, rfl⟩ ?_
      repeat (first | go_big_quiet_skip | (go_big_quiet_want; go_big_quiet_op; first | go_big_quiet_on | go_big_quiet_call ((go_at_call 9; exact Bk.call (Kp.h _) (awake_calls _)))))
      refine wpQuiet_nil ?_
      rintro _ ⟨x, rfl⟩
      have HE := x.h.1
      clear hN
      go_wp2
      go_ret
      exact ⟨by first | rfl | simp, HE⟩
end Go.Proofs.Ytdmebkdikminjaa.Given
namespace Go.Proofs.Ytdmebkdikminjaa.LawsPolite
open Go.RowKit Go.Proofs.Ytdmebkdikminjaa.Given Go.Proofs.Ytdmebkdikminjaa.Act Go.Proofs.YtdmebkdikminjaaW.PrintWords Go.Proofs.Ytdmebkdikminjaa.ArgsPolicyPolite
theorem bd_u8 {n : Int} (h : (Lit.int .u8 n).wf = true) : 0 ≤ n ∧ n ≤ 255 := by
  simp [Lit.wf, IntKind.min, IntKind.max, IntKind.signed, IntKind.bits] at h
  omega
theorem PolicyPolite (fl cp : Int) (v : Value) (x : D46) (W : World) (w0 : (Lit.int .u8 fl).wf = true) (w1 : (Lit.int .u8 cp).wf = true) (s : ∃ A n c, v = .slice A n c) (K : kd46.K W x v.cells.toList) (g : good46 x) :
    Calls Try.prog 7 #[.int .u8 fl, .int .u8 cp, v] W fun e w' => e = .returned (.bool true) ∧ Below W.heap.size W w' := by
  obtain ⟨A, n, c, rfl⟩ := s
  obtain ⟨A', c', hc, hl, hC⟩ := K
  simp [Value.cells] at hc
  obtain ⟨rfl, rfl, rfl⟩ := hc
  have hx : x.length * 32 ≤ 140737488351232 := g.1
  exact lawPolite fl cp A c x W (bd_u8 w0).1 (bd_u8 w0).2 (bd_u8 w1).1 (bd_u8 w1).2 ⟨hC⟩ (by omega)
end Go.Proofs.Ytdmebkdikminjaa.LawsPolite
