/- PolicyCalm, walked: whatever went wrong ahead, an answer that goes well lets the host be spoken to behind the least wait; no condition. -/
import Derived.Test.YtdmebkdikminjaaGivH
import Derived.Test.YtdmebkdikminjaaCal20
import Derived.Outline
import Derived.Deep.LoopGhost
import Derived.Deep.DeepCutAuto
namespace Go.Proofs.Ytdmebkdikminjaa.Given
open Go.Proofs.Ytdmebkdikminjaa.QMid
open Go.RowKit Go.Proofs.Ytdmebkdikminjaa.QBase Go.Proofs.YtdmebkdikminjaaW.PrintWords Go.Proofs.YtdmebkdikminjaaW.PrintLast Go.Proofs.YtdmebkdikminjaaW.PrintMore
set_option linter.unusedVariables false
set_option linter.unusedSimpArgs false
attribute [local go_sem] max2_int min2_int max_two min_two max_three min_three max_four min_four
attribute [local go_sem high] foldE foldC
attribute [local go_sem] foldP mx_fold
attribute [local go_sem high] cc0 cc1 cc2 cc3 cc4 cc5 cc6 cc7 cc8 cc9 cc10 cc11 cc12 cc13 pc0 pc1 pc2 pc3 pc4 pc5 pc6 pc7 pc8 pc9 pc10 pc11 pc12 pc13 ps0 ps1 ps2 ps3 ps4 ps5 ps6 ps7 ps8 ps9 ps10 ps11 ps12 ps13 pcs ccs
theorem pne (p : Pol) : (p.cells = #[]) = False := eq_false (fun h => Nat.succ_ne_zero 13 (congrArg Array.size h))
attribute [local go_sem] pne
theorem CI.rl {cf : Cfg} {d now : Int} {p : Pol} {i : Nat} (h : CI cf d p now i) (w : World) : Rl w p [] := awRl h.n h.A
set_option maxHeartbeats 8000000 in
set_option maxRecDepth 100000 in
theorem lawCalm (fl fa de draw : Int) (W : World) (h0 : 0 ≤ fl) (h1 : fl ≤ 255) (h2 : 0 ≤ fa) (h3 : fa ≤ 255) (h4 : 0 ≤ de) (h5 : de ≤ 65535) : Calls Try.prog 8 #[.int .u8 fl, .int .u8 fa, .int .u16 de, .int .i64 draw] W fun e w' => e = .returned (.bool true) ∧ Below W.heap.size W w' := by
  go_enter Try.func8, Try.ntmps8
  go_upto_region 2 with (fail)
  obtain ⟨cf, hcf⟩ : ∃ cf : Cfg, cf = ⟨0, 0, 0, 0, fl, 1, 10, 9000, 4, 700, 0, 0, 99, ⟨#[]⟩⟩ := ⟨_, rfl⟩
  have HC : CC cf de := by subst hcf; exact ⟨h0, h1, h4, h5, rfl, rfl, rfl, rfl⟩
  have hfl : fl = cf.floor := by rw [hcf]
  have H : Bk W [(W.heap.size, .cells cf.cells 23 (0, 0))] (W.alloc (.cells #[.int .i64 0, .int .i64 0, .int .i64 0, .int .i64 0, .int .i64 fl, .int .i64 1, .int .i64 10, .int .i64 9000, .int .i64 4, .int .i64 700, .int .i64 0, .int .i64 0, .int .i64 99, .string ⟨#[]⟩] 23)) := by rw [hcf]; exact (Bk.start W).alloc _
  generalize W.alloc (.cells #[.int .i64 0, .int .i64 0, .int .i64 0, .int .i64 0, .int .i64 fl, .int .i64 1, .int .i64 10, .int .i64 9000, .int .i64 4, .int .i64 700, .int .i64 0, .int .i64 0, .int .i64 99, .string ⟨#[]⟩] 23) = w at *
  clear hcf
  have HF := Aside0.mk hfl; clear hfl
  have HC' := Aside0.mk HC; clear HC
  refine Calm.boxed (b := ?b) (os := ?os) (fun og w' => ∃ x : Kp (Gb W [(W.heap.size, .cells cf.cells 23 (0, 0))] Oz og), w' = x.w) [0, 1, 2, 3, 4, 5, 6, 7] 8 9 [] (by kernel_rfl) ?hB ?hk ?hos ⟨⟨_, Gb.none H.drew⟩, rfl⟩ ?hal ?hwalk ?htail
  case hB => kernel_rfl
  case hos => rfl
  case hk => kernel_rfl
  case hal =>
    rintro a _ ⟨x, rfl⟩
    exact ⟨_, alloc28 _ _ _ _ a _, ⟨_, Gb.new x.h⟩, rfl⟩
  case hwalk =>
    rintro og ⟨_, x0, rfl⟩
    have hN : Nonempty (Kp (Gb W [(W.heap.size, .cells cf.cells 23 (0, 0))] Oz og)) := ⟨x0⟩
    have hcb9 : ∀ (x : Kp (Gb W [(W.heap.size, .cells cf.cells 23 (0, 0))] Oz og)) i, x.w.cell? ⟨W.heap.size, i, none⟩ = (cf.cells)[i]? := fun x i => x.h.old.cell (.head _) i
    simp only [Calm.pick, List.drop_succ_cons, List.drop_zero, List.take_succ_cons, List.take_zero, List.cons_append, List.nil_append]
    repeat (first | go_big_quiet_skip | (go_big_quiet_want; (first | refine quiet_c W.heap.size cf (fun y => y.h.old.get (.head _)) rfl rfl ?_); simp only [Act.put, List.setIfInBounds_toArray, List.set_cons_succ, List.set_cons_zero]; go_big_quiet_on) | (go_big_quiet_want; go_big_quiet_op; first | go_big_quiet_on | go_big_quiet_call (first
      | (go_at_call 20; exact Gb.call (Kp.h _) (new_calls cf.floor 0 _))
      | (go_at_call 18; exact Gb.call (Kp.h _) (learn_calls cf (newP cf.floor 0) false false .none 0 0 de 0 _)))))
    refine wpQuiet_nil ?_
    rfl
  case htail =>
    rintro bA _ ⟨x, rfl⟩
    have H2 := x.h.1; have HG := x.h.2 bA rfl
    have hlbA := HG.1
    simp only [Calm.pick, List.drop_succ_cons, List.drop_zero, List.take_succ_cons, List.take_zero, List.cons_append, List.nil_append]
    simp only [Calm.ptr, Act.put, List.setIfInBounds_toArray, List.set_cons_succ, List.set_cons_zero]
    have hT := st28 (H2.get (g := bA) (.head _))
    go_upto_region 3 with (fail)
    have H3 := Bk.row [] [(W.heap.size, .cells cf.cells 23 (0, 0))] (cs' := (learnP cf (newP cf.floor 0) false false .none 0 0 de 0).cells) H2 hlbA (by intro y hy; exact HG.2 y hy)
    have hnA : W.heap.size ≠ bA := HG.2 (W.heap.size, .cells cf.cells 23 (0, 0)) (.head _)
    generalize x.w.setRow bA (learnP cf (newP cf.floor 0) false false .none 0 0 de 0).cells = w2 at *
    clear hT H2 HG H
    have H := H3; clear H3
    try clear x
    have HI := Aside0.mk (CI.start (cf := cf) HC'.out)
    generalize (learnP cf (newP cf.floor 0) false false .none 0 0 de 0) = p0 at *
    have hlb9 : W.heap.size ≤ W.heap.size := Nat.le_refl _
    go_wp2_with fail
    go_loopg [11, 12] 40 (fun kq v11 v12 w' => ∃ (p : Pol) (now : Int) (i : Nat), v11 = .int .i64 now ∧ v12 = .int .i64 i ∧ Aside0 (i + kq = 40 ∧ i ≤ 30 ∧ CI cf de p now i) ∧ Aside0 (Bk W [(bA, .cells p.cells 28 (0, 0)), (W.heap.size, .cells cf.cells 23 (0, 0))] w'))
    case atStart => exact ⟨p0, 0, 0, rfl, rfl, ⟨by omega, by omega, HI.out⟩, ⟨H⟩⟩
    case round =>
      clear H HI
      obtain ⟨p, now, i, rfl, rfl, hI, ⟨H⟩⟩ := hrel
      have hn0 := hI.out.2.2.w0; have hn1 := hI.out.2.2.w1; have hi30 := hI.out.2.1
      have hf0 := HC'.out.f0; have hf1 := HC'.out.f1
      have hE := CI.elig hI.out.2.2 HC'.out (by omega)
      by_cases hlt : (i : Int) < fa % 30
      · go_upto_region 7 with (fail)
        have hcb9 : ∀ (x : Kp (Bk W [(bA, .cells p.cells 28 (0, 0)), (W.heap.size, .cells cf.cells 23 (0, 0))])) i, x.w.cell? ⟨W.heap.size, i, none⟩ = (cf.cells)[i]? := fun x i => x.h.cell (.tail _ (.head _)) i
        have hcbA : ∀ (x : Kp (Bk W [(bA, .cells p.cells 28 (0, 0)), (W.heap.size, .cells cf.cells 23 (0, 0))])) i, x.w.cell? ⟨bA, i, none⟩ = (p.cells)[i]? := fun x i => x.h.cell (.head _) i
        have hN : Nonempty (Kp (Bk W [(bA, .cells p.cells 28 (0, 0)), (W.heap.size, .cells cf.cells 23 (0, 0))])) := ⟨⟨_, H⟩⟩
        refine Calm.whole (fun w' => ∃ x : Kp (Bk W [(bA, .cells p.cells 28 (0, 0)), (W.heap.size, .cells cf.cells 23 (0, 0))]), w' = x.w) ⟨⟨_, H⟩, rfl⟩ ?_
        repeat (first | go_big_quiet_skip | (go_big_quiet_want; (first | refine quiet_c W.heap.size cf (fun y => y.h.get (.tail _ (.head _))) rfl rfl ?_ | refine quiet_p bA p (fun y => y.h.get (.head _)) rfl rfl ?_); simp only [Act.put, List.setIfInBounds_toArray, List.set_cons_succ, List.set_cons_zero]; go_big_quiet_on) | (go_big_quiet_want; go_big_quiet_op; first | go_big_quiet_on | go_big_quiet_call ((go_at_call 10; exact Bk.call (Kp.h _) (elig_calls cf (hI.out.2.2.rl _))))))
        refine wpQuiet_nil ?_
        rintro _ ⟨x, rfl⟩
        have H := x.h
        clear hcb9 hcbA hN
        obtain ⟨E, hEe⟩ : ∃ E, eligP cf p = E := ⟨_, rfl⟩
        rw [hEe] at hE; rw [hEe]; clear hEe
        go_upto_if 38 with (fail)
        go_cut [13] (fun v w' => v = .int .i64 (mx E now) ∧ Aside0 (w' = x.w))
        case first =>
          by_cases h : E < now
          · have e : mx E now = now := by unfold mx; omega
            go_wp2; go_meet
            case rel => exact ⟨by rw [e], ⟨rfl⟩⟩
          · have e : mx E now = E := by unfold mx; omega
            go_wp2; go_meet
            case rel => exact ⟨by rw [e], ⟨rfl⟩⟩
        case rest =>
          obtain ⟨rfl, ⟨ew⟩⟩ := hcut
          subst ew
          have hnn : now ≤ mx E now ∧ mx E now ≤ now + 71000 := by unfold mx; omega
          generalize mx E now = n at *
          have hl1 := hnn.1; have hl2 := hnn.2; clear hnn
          have HS := Aside0.mk (CI.sent hI.out.2.2 HC'.out n)
          have HQ := Aside0.mk (flying1 hI.out.2.2.fl n)
          have HL := Aside0.mk (CI.lost hI.out.2.2 HC'.out (by omega) hl1 hl2 draw)
          have HR : Aside0 (∀ w, Rl w (sendP p n) []) := ⟨fun w => awRl hI.out.2.2.n hI.out.2.2.A⟩
          go_upto_region 11 with (fail)
          have hcb9 : ∀ (x : Kp (Bk W [(bA, .cells p.cells 28 (0, 0)), (W.heap.size, .cells cf.cells 23 (0, 0))])) i, x.w.cell? ⟨W.heap.size, i, none⟩ = (cf.cells)[i]? := fun x i => x.h.cell (.tail _ (.head _)) i
          have hcbA : ∀ (x : Kp (Bk W [(bA, .cells p.cells 28 (0, 0)), (W.heap.size, .cells cf.cells 23 (0, 0))])) i, x.w.cell? ⟨bA, i, none⟩ = (p.cells)[i]? := fun x i => x.h.cell (.head _) i
          have hN : Nonempty (Kp (Bk W [(bA, .cells p.cells 28 (0, 0)), (W.heap.size, .cells cf.cells 23 (0, 0))])) := ⟨⟨_, H⟩⟩
          refine Calm.plain (fun w' => ∃ x : Kp (Bk W [(bA, .cells p.cells 28 (0, 0)), (W.heap.size, .cells cf.cells 23 (0, 0))]), w' = x.w) 4 ⟨⟨_, H⟩, rfl⟩ ?_
          simp only [List.take_succ_cons, List.take_zero, List.drop_succ_cons, List.drop_zero]
          repeat (first | go_big_quiet_skip | (go_big_quiet_want; (first | refine quiet_c W.heap.size cf (fun y => y.h.get (.tail _ (.head _))) rfl rfl ?_ | refine quiet_p bA p (fun y => y.h.get (.head _)) rfl rfl ?_); simp only [Act.put, List.setIfInBounds_toArray, List.set_cons_succ, List.set_cons_zero]; go_big_quiet_on) | (go_big_quiet_want; go_big_quiet_op; first | go_big_quiet_on | go_big_quiet_call ((go_at_call 15; exact Bk.call (Kp.h _) (send_calls cf p n _)))))
          refine wpQuiet_nil ?_
          rintro _ ⟨x, rfl⟩
          have hT := st28 (x.h.get (.head _))
          go_upto_region 12 with (fail)
          have H2 := Bk.row [] [(W.heap.size, .cells cf.cells 23 (0, 0))] (cs' := (sendP p n).cells) x.h hlbA (by intro y hy; simp only [List.cons_append, List.nil_append, List.mem_cons, List.not_mem_nil, or_false] at hy; rcases hy with rfl <;> assumption)
          generalize x.w.setRow bA ((sendP p n).cells) = w2 at *
          clear hT
          clear hcb9 hcbA hN H
          try clear x
          have H := H2; clear H2
          generalize sendP p n = q at *
          have e2 := HS.out
          have hcb9 : ∀ (x : Kp (Bk W [(bA, .cells q.cells 28 (0, 0)), (W.heap.size, .cells cf.cells 23 (0, 0))])) i, x.w.cell? ⟨W.heap.size, i, none⟩ = (cf.cells)[i]? := fun x i => x.h.cell (.tail _ (.head _)) i
          have hcbA : ∀ (x : Kp (Bk W [(bA, .cells q.cells 28 (0, 0)), (W.heap.size, .cells cf.cells 23 (0, 0))])) i, x.w.cell? ⟨bA, i, none⟩ = (q.cells)[i]? := fun x i => x.h.cell (.head _) i
          have hN : Nonempty (Kp (Bk W [(bA, .cells q.cells 28 (0, 0)), (W.heap.size, .cells cf.cells 23 (0, 0))])) := ⟨⟨_, H⟩⟩
          refine Calm.whole (fun w' => ∃ x : Kp (Bk W [(bA, .cells q.cells 28 (0, 0)), (W.heap.size, .cells cf.cells 23 (0, 0))]), w' = x.w) ⟨⟨_, H⟩, rfl⟩ ?_
          repeat (first | go_big_quiet_skip | (go_big_quiet_want; (first | refine quiet_c W.heap.size cf (fun y => y.h.get (.tail _ (.head _))) rfl rfl ?_ | refine quiet_p bA q (fun y => y.h.get (.head _)) rfl rfl ?_); simp only [Act.put, List.setIfInBounds_toArray, List.set_cons_succ, List.set_cons_zero]; go_big_quiet_on) | (go_big_quiet_want; go_big_quiet_op; first | go_big_quiet_on | go_big_quiet_call ((go_at_call 10; exact Bk.call (Kp.h _) (elig_calls cf (HR.out _))))))
          refine wpQuiet_nil ?_
          rintro _ ⟨x, rfl⟩
          have H := x.h
          clear hcb9 hcbA hN
          go_upto_region 14 with (fail)
          clear e2
          have hcb9 : ∀ (x : Kp (Bk W [(bA, .cells q.cells 28 (0, 0)), (W.heap.size, .cells cf.cells 23 (0, 0))])) i, x.w.cell? ⟨W.heap.size, i, none⟩ = (cf.cells)[i]? := fun x i => x.h.cell (.tail _ (.head _)) i
          have hcbA : ∀ (x : Kp (Bk W [(bA, .cells q.cells 28 (0, 0)), (W.heap.size, .cells cf.cells 23 (0, 0))])) i, x.w.cell? ⟨bA, i, none⟩ = (q.cells)[i]? := fun x i => x.h.cell (.head _) i
          have hN : Nonempty (Kp (Bk W [(bA, .cells q.cells 28 (0, 0)), (W.heap.size, .cells cf.cells 23 (0, 0))])) := ⟨⟨_, H⟩⟩
          refine Calm.plain (fun w' => ∃ x : Kp (Bk W [(bA, .cells q.cells 28 (0, 0)), (W.heap.size, .cells cf.cells 23 (0, 0))]), w' = x.w) 6 ⟨⟨_, H⟩, rfl⟩ ?_
          simp only [List.take_succ_cons, List.take_zero, List.drop_succ_cons, List.drop_zero]
          repeat (first | go_big_quiet_skip | (go_big_quiet_want; (first | refine quiet_c W.heap.size cf (fun y => y.h.get (.tail _ (.head _))) rfl rfl ?_ | refine quiet_p bA q (fun y => y.h.get (.head _)) rfl rfl ?_); simp only [Act.put, List.setIfInBounds_toArray, List.set_cons_succ, List.set_cons_zero]; go_big_quiet_on) | (go_big_quiet_want; go_big_quiet_op; first | go_big_quiet_on | go_big_quiet_call ((go_at_call 23; exact Bk.call (Kp.h _) (lost_calls cf q (n + 1) draw _ (by rw [HQ.out]; decide) (by rw [HQ.out]; decide))))))
          refine wpQuiet_nil ?_
          rintro _ ⟨x, rfl⟩
          have hT := st28 (x.h.get (.head _))
          go_upto_region 15 with (fail)
          have H2 := Bk.row [] [(W.heap.size, .cells cf.cells 23 (0, 0))] (cs' := (lostP cf q (n + 1) draw).cells) x.h hlbA (by intro y hy; simp only [List.cons_append, List.nil_append, List.mem_cons, List.not_mem_nil, or_false] at hy; rcases hy with rfl <;> assumption)
          generalize x.w.setRow bA ((lostP cf q (n + 1) draw).cells) = w2 at *
          clear hT
          clear hcb9 hcbA hN H
          try clear x
          have H := H2; clear H2
          generalize lostP cf q (n + 1) draw = r at *
          have t1 : ¬ eligP cf r < n + cf.floor := Int.not_lt.2 HL.out.2.1
          have t2 : ¬ eligP cf r < n + de := Int.not_lt.2 HL.out.2.2
          have hcb9 : ∀ (x : Kp (Bk W [(bA, .cells r.cells 28 (0, 0)), (W.heap.size, .cells cf.cells 23 (0, 0))])) i, x.w.cell? ⟨W.heap.size, i, none⟩ = (cf.cells)[i]? := fun x i => x.h.cell (.tail _ (.head _)) i
          have hcbA : ∀ (x : Kp (Bk W [(bA, .cells r.cells 28 (0, 0)), (W.heap.size, .cells cf.cells 23 (0, 0))])) i, x.w.cell? ⟨bA, i, none⟩ = (r.cells)[i]? := fun x i => x.h.cell (.head _) i
          have hN : Nonempty (Kp (Bk W [(bA, .cells r.cells 28 (0, 0)), (W.heap.size, .cells cf.cells 23 (0, 0))])) := ⟨⟨_, H⟩⟩
          refine Calm.wholeD (fun w' => ∃ x : Kp (Bk W [(bA, .cells r.cells 28 (0, 0)), (W.heap.size, .cells cf.cells 23 (0, 0))]), w' = x.w) (by kernel_rfl) (by kernel_rfl) ⟨⟨_, H.drew⟩, rfl⟩ ?_
          repeat (first | go_big_quiet_skip | (go_big_quiet_want; (first | refine quiet_c W.heap.size cf (fun y => y.h.get (.tail _ (.head _))) rfl rfl ?_ | refine quiet_p bA r (fun y => y.h.get (.head _)) rfl rfl ?_); simp only [Act.put, List.setIfInBounds_toArray, List.set_cons_succ, List.set_cons_zero]; go_big_quiet_on) | (go_big_quiet_want; go_big_quiet_op; first | go_big_quiet_on | go_big_quiet_call ((go_at_call 10; exact Bk.call (Kp.h _) (elig_calls cf (HL.out.1.rl _))))))
          refine wpQuiet_nil ?_
          rintro _ ⟨x, rfl⟩
          have H := x.h
          clear hcb9 hcbA hN t1 t2
          go_upto_region 6 with (fail)
          go_wp2_with fail
          go_roundg (gk - 1)
          case measure => have := hI.out.1; omega
          case rel => exact ⟨r, n, i + 1, rfl, by go_num, ⟨by have := hI.out.1; omega, by omega, HL.out.1⟩, ⟨H⟩⟩
      · go_upto_region 18 with (fail)
        obtain ⟨n, hn⟩ : ∃ n, now + 100000 = n := ⟨_, rfl⟩
        rw [hn]
        have hl1 : now ≤ n := by omega
        have hl2 : n ≤ now + 100000 := by omega
        clear hn
        have HQ := Aside0.mk (flying1 hI.out.2.2.fl n)
        have HG := Aside0.mk (CI.good hI.out.2.2 HC'.out (by omega) hl1 hl2 draw)
        have hcb9 : ∀ (x : Kp (Bk W [(bA, .cells p.cells 28 (0, 0)), (W.heap.size, .cells cf.cells 23 (0, 0))])) i, x.w.cell? ⟨W.heap.size, i, none⟩ = (cf.cells)[i]? := fun x i => x.h.cell (.tail _ (.head _)) i
        have hcbA : ∀ (x : Kp (Bk W [(bA, .cells p.cells 28 (0, 0)), (W.heap.size, .cells cf.cells 23 (0, 0))])) i, x.w.cell? ⟨bA, i, none⟩ = (p.cells)[i]? := fun x i => x.h.cell (.head _) i
        have hN : Nonempty (Kp (Bk W [(bA, .cells p.cells 28 (0, 0)), (W.heap.size, .cells cf.cells 23 (0, 0))])) := ⟨⟨_, H⟩⟩
        refine Calm.region (fun w' => ∃ x : Kp (Bk W [(bA, .cells p.cells 28 (0, 0)), (W.heap.size, .cells cf.cells 23 (0, 0))]), w' = x.w) [0, 1, 2, 3, 4, 5, 6, 7, 8, 9] 10 [] (by kernel_rfl) (by kernel_rfl) ⟨⟨_, H.drew⟩, rfl⟩ ?_
        simp only [Calm.pick, List.drop_succ_cons, List.drop_zero, List.take_succ_cons, List.take_zero, List.cons_append, List.nil_append]
        repeat (first | go_big_quiet_skip | (go_big_quiet_want; (first | refine quiet_c W.heap.size cf (fun y => y.h.get (.tail _ (.head _))) rfl rfl ?_ | refine quiet_p bA p (fun y => y.h.get (.head _)) rfl rfl ?_); simp only [Act.put, List.setIfInBounds_toArray, List.set_cons_succ, List.set_cons_zero]; go_big_quiet_on) | (go_big_quiet_want; go_big_quiet_op; first | go_big_quiet_on | go_big_quiet_call (first
      | (go_at_call 15; exact Bk.call (Kp.h _) (send_calls cf p n _))
      | (go_at_call 21; exact Bk.call (Kp.h _) (answer_calls cf (sendP p n) 1 0 0 (n + 5) draw _ (by rw [HQ.out]; decide) (by rw [HQ.out]; decide))))))
        refine wpQuiet_nil ?_
        rintro _ ⟨x, rfl⟩
        have hT := st28 (x.h.get (.head _))
        go_upto_region 19 with (fail)
        have H2 := Bk.row [] [(W.heap.size, .cells cf.cells 23 (0, 0))] (cs' := (answerP cf (sendP p n) 1 0 0 (n + 5) draw).cells) x.h hlbA (by intro y hy; simp only [List.cons_append, List.nil_append, List.mem_cons, List.not_mem_nil, or_false] at hy; rcases hy with rfl <;> assumption)
        generalize x.w.setRow bA ((answerP cf (sendP p n) 1 0 0 (n + 5) draw).cells) = w2 at *
        clear hT
        clear hcb9 hcbA hN H
        try clear x
        have H := H2; clear H2
        generalize answerP cf (sendP p n) 1 0 0 (n + 5) draw = r at *
        have gc : ∀ i, w2.cell? ⟨W.heap.size, i, none⟩ = cf.cells[i]? := fun i => H.cell (.tail _ (.head _)) i
        go_upto_if 90 with (fail)
        go_cut [14] (fun v w' => v = .int .i64 (mx cf.floor de) ∧ Aside0 (w' = w2))
        case first =>
          by_cases h : cf.floor < de
          · have e : mx cf.floor de = de := by unfold mx; omega
            go_wp2; go_meet
            case rel => exact ⟨by rw [e], ⟨rfl⟩⟩
          · have e : mx cf.floor de = cf.floor := by unfold mx; omega
            go_wp2; go_meet
            case rel => exact ⟨by rw [e], ⟨rfl⟩⟩
        case rest =>
          obtain ⟨rfl, ⟨ew⟩⟩ := hcut
          subst ew
          have hM : 0 ≤ mx cf.floor de ∧ mx cf.floor de ≤ 70000 := by unfold mx; omega
          have hM0 := hM.1; have hM1 := hM.2; clear hM
          generalize mx cf.floor de = M at *
          clear gc
          have e1 : (r.state == 0) = true := by rw [HG.out.1]; rfl
          have e2 := HG.out.2.2.2
          go_upto_region 22 with (fail)
          have hcb9 : ∀ (x : Kp (Bk W [(bA, .cells r.cells 28 (0, 0)), (W.heap.size, .cells cf.cells 23 (0, 0))])) i, x.w.cell? ⟨W.heap.size, i, none⟩ = (cf.cells)[i]? := fun x i => x.h.cell (.tail _ (.head _)) i
          have hcbA : ∀ (x : Kp (Bk W [(bA, .cells r.cells 28 (0, 0)), (W.heap.size, .cells cf.cells 23 (0, 0))])) i, x.w.cell? ⟨bA, i, none⟩ = (r.cells)[i]? := fun x i => x.h.cell (.head _) i
          have hN : Nonempty (Kp (Bk W [(bA, .cells r.cells 28 (0, 0)), (W.heap.size, .cells cf.cells 23 (0, 0))])) := ⟨⟨_, H⟩⟩
          refine Calm.whole (fun w' => ∃ x : Kp (Bk W [(bA, .cells r.cells 28 (0, 0)), (W.heap.size, .cells cf.cells 23 (0, 0))]), w' = x.w) ⟨⟨_, H⟩, rfl⟩ ?_
          repeat (first | go_big_quiet_skip | (go_big_quiet_want; (first | refine quiet_c W.heap.size cf (fun y => y.h.get (.tail _ (.head _))) rfl rfl ?_ | refine quiet_p bA r (fun y => y.h.get (.head _)) rfl rfl ?_); simp only [Act.put, List.setIfInBounds_toArray, List.set_cons_succ, List.set_cons_zero]; go_big_quiet_on) | (go_big_quiet_want; go_big_quiet_op; first | go_big_quiet_on | go_big_quiet_call (first
      | (go_at_call 9; exact Bk.call (Kp.h _) (awake_calls _))
      | (go_at_call 10; exact Bk.call (Kp.h _) (elig_calls cf (awRl HG.out.2.1 HG.out.2.2.1))))))
          refine wpQuiet_nil ?_
          rintro _ ⟨x, rfl⟩
          have HE := x.h.1
          clear hcb9 hcbA hN e1 e2
          go_wp2
          go_ret
          exact ⟨by first | rfl | simp, HE⟩
end Go.Proofs.Ytdmebkdikminjaa.Given
namespace Go.Proofs.Ytdmebkdikminjaa.LawsCalm
open Go.RowKit Go.Proofs.Ytdmebkdikminjaa.Given
theorem bd_u8 {n : Int} (h : (Lit.int .u8 n).wf = true) : 0 ≤ n ∧ n ≤ 255 := by
  simp [Lit.wf, IntKind.min, IntKind.max, IntKind.signed, IntKind.bits] at h
  omega
theorem bd_u16 {n : Int} (h : (Lit.int .u16 n).wf = true) : 0 ≤ n ∧ n ≤ 65535 := by
  simp [Lit.wf, IntKind.min, IntKind.max, IntKind.signed, IntKind.bits] at h
  omega
theorem PolicyCalm (fl fa de draw : Int) (W : World) (w0 : (Lit.int .u8 fl).wf = true) (w1 : (Lit.int .u8 fa).wf = true) (w2 : (Lit.int .u16 de).wf = true) (_w3 : (Lit.int .i64 draw).wf = true) :
    Calls Try.prog 8 #[.int .u8 fl, .int .u8 fa, .int .u16 de, .int .i64 draw] W fun e w' => e = .returned (.bool true) ∧ Below W.heap.size W w' :=
  lawCalm fl fa de draw W (bd_u8 w0).1 (bd_u8 w0).2 (bd_u8 w1).1 (bd_u8 w1).2 (bd_u16 w2).1 (bd_u16 w2).2
end Go.Proofs.Ytdmebkdikminjaa.LawsCalm
