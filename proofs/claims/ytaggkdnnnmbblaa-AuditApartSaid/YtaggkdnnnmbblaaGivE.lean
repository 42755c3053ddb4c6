/- AuditCounts, walked. -/
import Derived.Test.YtaggkdnnnmbblaaGivD
import Derived.Deep.RegionHeld3
import Derived.Deep.QuietTactic
import Derived.BigQuiet
namespace Go.Proofs.Ytaggkdnnnmbblaa.Given
open Go.RowKit Go.Maps Go.WideMaps Go.Proofs.Ytaggkdnnnmbblaa.QBase Go.Proofs.YtaggkdnnnmbblaaW.PrintWords Go.Proofs.YtaggkdnnnmbblaaW.PrintLast
set_option linter.unusedVariables false
set_option linter.unusedSimpArgs false

theorem cut_calls (A : Option Addr) (c : Nat) (l : List Ev) (W : World) (hr : Kd.C k28 W A l.length l) (hc : l.length ≤ c) :
    Calls Try.prog 8 #[.slice A l.length c] W fun e w' => ∃ c', e = .returned (.slice A (l.take 60).length c') ∧ (l.take 60).length ≤ c' ∧ w' = W := by
  by_cases h : 60 < l.length
  · have q : (60 : Int) ≤ (l.length : Int) := by omega
    obtain ⟨i0, hi, _, hsz, _⟩ := info_parts info28
    have hcut := cut_to (P := Try.prog) 22 28 .i64 Try.underlying22 hi A l.length c 60 (by omega) q hc
    have c2b0 : decide (60 < (l.length : Int)) = true := decide_eq_true (by omega)
    have c2b1 : decide (60 < l.length) = true := decide_eq_true (by omega)
    replace q := eq_true q
    have HL := Aside0.mk (show (l.take 60).length = 60 by rw [List.length_take]; omega)
    have HC := Aside0.mk hc
    have hlt := Aside0.mk h
    clear hi hsz h hc
    go_enter Try.func8, Try.ntmps8
    go_wp2
    go_ret
    have := hlt.out
    have := HC.out
    exact ⟨c, by rw [HL.out]; rfl, by rw [HL.out]; omega, rfl⟩
  · have c2b0 : decide (60 < (l.length : Int)) = false := decide_eq_false (by omega)
    have c2b1 : decide (60 < l.length) = false := decide_eq_false (by omega)
    have HL := Aside0.mk (show l.take 60 = l from List.take_of_length_le (by omega))
    have HC := Aside0.mk hc
    clear h hc
    go_enter Try.func8, Try.ntmps8
    go_wp2
    go_ret
    exact ⟨c, by rw [HL.out]; rfl, by rw [HL.out]; exact HC.out, rfl⟩

theorem cut_to60 (A : Option Addr) (c : Nat) (l m : List Ev) (hm : m = l.take 60) (W : World) (hr : Kd.C k28 W A l.length l) (hc : l.length ≤ c) :
    Calls Try.prog 8 #[.slice A l.length c] W fun e w' => ∃ c', e = .returned (.slice A m.length c') ∧ m.length ≤ c' ∧ w' = W := by
  subst hm
  exact cut_calls A c l W hr hc
theorem C_take60 {W : World} {A : Option Addr} {l m : List Ev} (hm : m = l.take 60) (hr : Kd.C k28 W A l.length l) : Kd.C k28 W A m.length m ∧ m.length ≤ 60 := by
  subst hm
  refine ⟨?_, by rw [List.length_take]; omega⟩
  by_cases h : 60 ≤ l.length
  · exact Kd.C_take hr h
  · rw [List.take_of_length_le (by omega)]; exact hr
theorem items_cons {P : Program} {w : World} {d : Nat} {e : TypeId} {c : Nat} {xs ys : Array Value} {i : Nat} {is : List Nat} {a : Value} (ha : (part e xs (i * c)).run P w = .ok a w) (hb : (part e ys (i * c)).run P w = .ok a w)
    (he : (Op.equalIn d e a a).run P w = .ok true w) (hr : (Op.eqItems d e c xs ys is).run P w = .ok true w) : (Op.eqItems d e c xs ys (i :: is)).run P w = .ok true w := by
  simp only [Op.eqItems, Sem.run_bind, ha, hb, he, Result.andThen_ok]
  simpa using hr
theorem beq5 (n0 n1 n2 n3 n4 : Int) (w : World) : (Op.equalIn 10000 34 (.agg #[.int .i64 n0, .int .i64 n1, .int .i64 n2, .int .i64 n3, .int .i64 n4]) (.agg #[.int .i64 n0, .int .i64 n1, .int .i64 n2, .int .i64 n3, .int .i64 n4])).run Try.prog w = .ok true w := by
  obtain ⟨i, hi, _⟩ := info_parts info3
  rw [run_equalIn_array w 9999 _ _ Try.underlying34 hi]
  have e : ∀ n : Int, (Op.equalIn 9999 3 (.int .i64 n) (.int .i64 n)).run Try.prog w = .ok true w := fun n => by
    rw [run_equalIn_int w 9998 3 .i64 .i64 n n Try.underlying3]; simp
  exact items_cons (a := .int .i64 n0) (by kernel_rfl) (by kernel_rfl) (e _) (items_cons (a := .int .i64 n1) (by kernel_rfl) (by kernel_rfl) (e _) (items_cons (a := .int .i64 n2) (by kernel_rfl) (by kernel_rfl) (e _) (items_cons (a := .int .i64 n3) (by kernel_rfl) (by kernel_rfl) (e _) (items_cons (a := .int .i64 n4) (by kernel_rfl) (by kernel_rfl) (e _) (by simp [Op.eqItems])))))

theorem drewN_h (W : World) : ∀ n, (W.drewN n).heap = W.heap := fun n => rfl
theorem drewN_b (W : World) (B n : Nat) : Below B W (W.drewN n) := ⟨rfl, rfl, rfl, Nat.le_refl _, fun _ _ => rfl⟩
/-- Sent twice: what the inner loop tells of the first k events. -/
def dup (ev : Ev) (r : List Ev) : Bool := !(ev.f0 == 1) || !idR r ev.f2.f0
/-- An event's cells where a list lies. -/
theorem ev_at {W wr : World} {A : Option Addr} {l : List Ev} (hr : Kd.C k28 W A l.length l) (hb : Below W.heap.size W wr) (k : Nat) (h : k < l.length) : ∃ ad, A = some ad ∧ wr.cell? (ad.add (k * 7)) = some (.int .i64 l[k].f0) ∧
    wr.cell? ⟨(ad.add (k * 7)).block, (ad.add (k * 7)).off + 1, none⟩ = some (.int .i64 l[k].f1) ∧ wr.cell? ⟨(ad.add (k * 7)).block, (ad.add (k * 7)).off + 2, none⟩ = some (.int .i64 l[k].f2.f0) := by
  obtain ⟨ad, e, x0, x1, x2, x3, x4, x5, x6⟩ := at_T28 hr (k : Int) (by omega) (by omega)
  rw [rd_get l k h] at x0 x1 x2 x3 x4 x5 x6
  rw [Int.toNat_natCast] at x0 x1 x2
  exact ⟨ad, e, (hb.cell (World.block_lt_of_cell? _ _ x0)).trans x0, (hb.cell (World.block_lt_of_cell? _ _ x1)).trans x1, (hb.cell (World.block_lt_of_cell? _ _ x2)).trans x2⟩

theorem C_of {W wr : World} {A : Option Addr} {m : List Ev} (hr : Kd.C k28 W A m.length m) (hb : Below W.heap.size W wr) : Kd.C k28 wr A m.length m := Kd.C_below hr hb
theorem C_now {W wr : World} {A : Option Addr} {m : List Ev} (h : Aside0 (Kd.C k28 wr A m.length m ∧ Below W.heap.size W wr)) : Kd.C k28 wr A m.length m := h.out.1
theorem keep_st {W w w' : World} {A : Option Addr} {m : List Ev} {n0 n1 n2 n3 n4 : Int} {g : Nat} (b : Below w.heap.size w w') (h0 : w.cell? ⟨g, 0, none⟩ = some (.int .i64 n0)) (h1 : w.cell? ⟨g, 1, none⟩ = some (.int .i64 n1)) (h2 : w.cell? ⟨g, 2, none⟩ = some (.int .i64 n2)) (h3 : w.cell? ⟨g, 3, none⟩ = some (.int .i64 n3)) (h4 : w.cell? ⟨g, 4, none⟩ = some (.int .i64 n4))
    (hC : Aside0 (Kd.C k28 w A m.length m ∧ Below W.heap.size W w)) : w'.cell? ⟨g, 0, none⟩ = some (.int .i64 n0) ∧ w'.cell? ⟨g, 1, none⟩ = some (.int .i64 n1) ∧ w'.cell? ⟨g, 2, none⟩ = some (.int .i64 n2) ∧ w'.cell? ⟨g, 3, none⟩ = some (.int .i64 n3) ∧ w'.cell? ⟨g, 4, none⟩ = some (.int .i64 n4) ∧ Aside0 (Kd.C k28 w' A m.length m ∧ Below W.heap.size W w') :=
  ⟨(b.cell (World.block_lt_of_cell? _ _ h0)).trans h0, (b.cell (World.block_lt_of_cell? _ _ h1)).trans h1, (b.cell (World.block_lt_of_cell? _ _ h2)).trans h2, (b.cell (World.block_lt_of_cell? _ _ h3)).trans h3, (b.cell (World.block_lt_of_cell? _ _ h4)).trans h4, ⟨Kd.C_below hC.out.1 b, hC.out.2.trans (b.mono hC.out.2.size)⟩⟩

set_option maxHeartbeats 8000000 in
set_option maxRecDepth 100000 in
theorem counts_law (A : Option Addr) (c : Nat) (l : List Ev) (W : World) (hr0 : Kd.C k28 W A l.length l) (hc0 : l.length ≤ c) (hok0 : ∀ e ∈ l, okEv e) :
    Calls Try.prog 5 #[.slice A l.length c] W fun e w' => e = .returned (.bool true) ∧ Below W.heap.size W w' := by
  obtain ⟨m, hm⟩ : ∃ m, m = l.take 60 := ⟨_, rfl⟩
  obtain ⟨hr, hl⟩ := C_take60 hm hr0
  have HOK := Aside0.mk (show ∀ e ∈ m, okEv e from fun e he => hok0 e (List.mem_of_mem_take (hm ▸ he)))
  have HCUT := Aside0.mk (cut_to60 A c l m hm W hr0 hc0)
  clear hr0 hc0 hok0 hm
  go_enter Try.func5, Try.ntmps5
  go_upto_region 2 with (go_at_call 8; go_loud (refine HCUT.out.mono ?_; rintro e w5 ⟨c', rfl, hc', e5⟩; obtain rfl := e5.symm))
  clear HCUT
  go_wp2
  go_loopw [4, 5] (fun o i wr => ∃ (k : Nat) (n0 n1 n2 n3 n4 : Int) (b : Bool), o = .bool b ∧ i = .int .i64 k ∧ k ≤ m.length ∧ Aside0 (countR 0 (m.take k).reverse = n0 ∧ countR 1 (m.take k).reverse = n1 ∧ countR 2 (m.take k).reverse = n2 ∧ countR 3 (m.take k).reverse = n3 ∧ countR 4 (m.take k).reverse = n4) ∧
    Aside0 (wr.heap[W.heap.size]? = some (.cells #[.int .i64 n0, .int .i64 n1, .int .i64 n2, .int .i64 n3, .int .i64 n4] 34 (0, 0))) ∧ Aside0 (onceR (m.take k).reverse = b) ∧
    (0 ≤ n0 ∧ n0 ≤ k) ∧ (0 ≤ n1 ∧ n1 ≤ k) ∧ (0 ≤ n2 ∧ n2 ≤ k) ∧ (0 ≤ n3 ∧ n3 ≤ k) ∧ (0 ≤ n4 ∧ n4 ≤ k) ∧ Below W.heap.size W wr) (fun _ i wr => m.length - (intOf i).toNat)
  case atStart =>
    refine ⟨0, 0, 0, 0, 0, 0, true, rfl, rfl, Nat.zero_le _, ⟨⟨rfl, rfl, rfl, rfl, rfl⟩⟩, ⟨?_⟩, ⟨rfl⟩, by omega, by omega, by omega, by omega, by omega, ?_⟩
    · exact blk_new W _
    · exact (Below.refl _ W).alloc (Nat.le_refl _) _
  case round =>
    obtain ⟨k, n0, n1, n2, n3, n4, b, rfl, rfl, hk, hc, h3, ho, m0, m1, m2, m3, m4, hb⟩ := hrel
    have hz := hb.size
    by_cases hlt : k < m.length
    · obtain ⟨ad, e, x0, x1, x2⟩ := ev_at hr hb k hlt
      cases e
      have HT := Aside0.mk (rev_take_succ m k hlt)
      have q1 : ((k : Int) < (m.length : Int)) = True := eq_true (by omega)
      have q2 : (0 ≤ (k : Int)) = True := eq_true (by omega)
      have hev := Aside0.mk (show ∃ ev, ev = m[k] from ⟨_, rfl⟩)
      have HX := Aside0.mk (fun wr' (h : Below W.heap.size W wr') => show wr'.cell? (ad.add (k * 7)) = some (.int .i64 m[k].f0) ∧ wr'.cell? ⟨(ad.add (k * 7)).block, (ad.add (k * 7)).off + 2, none⟩ = some (.int .i64 m[k].f2.f0) from by
        obtain ⟨ad', e, y0, y1, y2⟩ := ev_at hr h k hlt
        injection e with e
        subst e
        exact ⟨y0, y2⟩)
      generalize m[k] = ev at x0 x1 x2 HT HX
      clear hev
      obtain ⟨f0, f1, f2⟩ := ev
      dsimp only at x0 x1 x2 HX
      have hcl : ∀ j v, (#[Value.int .i64 n0, .int .i64 n1, .int .i64 n2, .int .i64 n3, .int .i64 n4])[j]? = some v → wr.cell? ⟨W.heap.size, j, none⟩ = some v := fun j v e => (blk_cell h3.out j).trans e
      have c0 := hcl 0 _ rfl
      have c1 := hcl 1 _ rfl
      have c2 := hcl 2 _ rfl
      have c3 := hcl 3 _ rfl
      have c4 := hcl 4 _ rfl
      have g0 := blk_frozen h3.out 0
      have g1 := blk_frozen h3.out 1
      have g2 := blk_frozen h3.out 2
      have g3 := blk_frozen h3.out 3
      have g4 := blk_frozen h3.out 4
      clear hcl
      have hsp : f0 = 0 ∨ f0 = 1 ∨ f0 = 2 ∨ f0 = 3 ∨ f0 = 4 ∨ ¬ (0 ≤ f0 ∧ f0 ≤ 4) := by omega
      rcases hsp with h0 | h1 | h2 | h3' | h4 | hin
      · subst h0
        have HC := Aside0.mk (show countR 0 (m.take (k + 1)).reverse = n0 + 1 ∧ countR 1 (m.take (k + 1)).reverse = n1 ∧ countR 2 (m.take (k + 1)).reverse = n2 ∧ countR 3 (m.take (k + 1)).reverse = n3 ∧ countR 4 (m.take (k + 1)).reverse = n4 by
          rw [HT.out]
          obtain ⟨e0, e1, e2, e3, e4⟩ := hc.out
          simp [countR, e0, e1, e2, e3, e4])
        have H3 := Aside0.mk (blk_put h3.out 0 (.int .i64 (n0 + 1)) rfl)
        have HB := hb.setCell (p := ⟨W.heap.size, 0, none⟩) (Nat.le_refl _) (.int .i64 (n0 + 1))
        go_upto_region 9 with (fail)
        clear c0 c1 c2 c3 c4 g0 g1 g2 g3 g4 h3 hb hc x0 x1 x2
        generalize wr.setCell ⟨W.heap.size, 0, none⟩ (.int .i64 (n0 + 1)) = wx at *
        go_wp2
        go_loopw [4, 6] (fun o q wr2 => ∃ (p : Nat) (b2 : Bool), o = .bool b2 ∧ q = .int .i64 p ∧ p ≤ k ∧ Aside0 (b2 = (b && dup ⟨0, f1, f2⟩ (m.take p).reverse)) ∧ wr2.heap = wx.heap ∧ Below W.heap.size W wr2) (fun _ q _ => k - (intOf q).toNat)
        case atStart => exact ⟨0, b, rfl, rfl, Nat.zero_le _, ⟨by simp [dup, idR]⟩, rfl, HB⟩
        case round =>
          obtain ⟨p, b2, rfl, rfl, hp, HD, hheap, hb2⟩ := hrel
          by_cases hpk : p < k
          · have q3 : ((p : Int) < (k : Int)) = True := eq_true (by omega)
            have q4 : (0 ≤ (p : Int)) = True := eq_true (by omega)
            have q5 : ((p : Int) < (m.length : Int)) = True := eq_true (by omega)
            obtain ⟨ad2, e, y0, y1, y2⟩ := ev_at hr hb2 p (by omega)
            injection e with e
            subst e
            obtain ⟨x0, x2⟩ := HX.out _ hb2
            have HT2 := Aside0.mk (rev_take_succ m p (by omega))
            generalize m[p] = ev2 at y0 y1 y2 HT2
            have HE := Aside0.mk hheap
            clear hheap
            have w1 : ((0 : Int) == 1) = false := by decide
            go_wp2
            go_quiet (fail)
            go_wp2
            go_roundw
            case rel =>
              refine ⟨p + 1, b2, rfl, by go_num, by omega, ⟨?_⟩, (drewN_h _ _).trans HE.out, hb2.trans (drewN_b _ _ _)⟩
              rw [HT2.out, HD.out]
              simp [dup, w1]
            case measure => simp [intOf]; omega
          · obtain rfl : p = k := by omega
            have q3 : ((p : Int) < (p : Int)) = False := eq_false (by omega)
            go_wp2
            go_roundw
            case rel =>
              refine ⟨p + 1, _, _, _, _, _, b2, rfl, by go_num, by omega, HC, ⟨by rw [hheap]; exact H3.out⟩, ⟨?_⟩, by omega, by omega, by omega, by omega, by omega, hb2⟩
              rw [HT.out, HD.out, ← ho.out]
              rfl
            case measure => simp [intOf]; omega
      · subst h1
        have HC := Aside0.mk (show countR 0 (m.take (k + 1)).reverse = n0 ∧ countR 1 (m.take (k + 1)).reverse = n1 + 1 ∧ countR 2 (m.take (k + 1)).reverse = n2 ∧ countR 3 (m.take (k + 1)).reverse = n3 ∧ countR 4 (m.take (k + 1)).reverse = n4 by
          rw [HT.out]
          obtain ⟨e0, e1, e2, e3, e4⟩ := hc.out
          simp [countR, e0, e1, e2, e3, e4])
        have H3 := Aside0.mk (blk_put h3.out 1 (.int .i64 (n1 + 1)) rfl)
        have HB := hb.setCell (p := ⟨W.heap.size, 1, none⟩) (Nat.le_refl _) (.int .i64 (n1 + 1))
        go_upto_region 9 with (fail)
        clear c0 c1 c2 c3 c4 g0 g1 g2 g3 g4 h3 hb hc x0 x1 x2
        generalize wr.setCell ⟨W.heap.size, 1, none⟩ (.int .i64 (n1 + 1)) = wx at *
        go_wp2
        go_loopw [4, 6] (fun o q wr2 => ∃ (p : Nat) (b2 : Bool), o = .bool b2 ∧ q = .int .i64 p ∧ p ≤ k ∧ Aside0 (b2 = (b && dup ⟨1, f1, f2⟩ (m.take p).reverse)) ∧ wr2.heap = wx.heap ∧ Below W.heap.size W wr2) (fun _ q _ => k - (intOf q).toNat)
        case atStart => exact ⟨0, b, rfl, rfl, Nat.zero_le _, ⟨by simp [dup, idR]⟩, rfl, HB⟩
        case round =>
          obtain ⟨p, b2, rfl, rfl, hp, HD, hheap, hb2⟩ := hrel
          by_cases hpk : p < k
          · have q3 : ((p : Int) < (k : Int)) = True := eq_true (by omega)
            have q4 : (0 ≤ (p : Int)) = True := eq_true (by omega)
            have q5 : ((p : Int) < (m.length : Int)) = True := eq_true (by omega)
            obtain ⟨ad2, e, y0, y1, y2⟩ := ev_at hr hb2 p (by omega)
            injection e with e
            subst e
            obtain ⟨x0, x2⟩ := HX.out _ hb2
            have HT2 := Aside0.mk (rev_take_succ m p (by omega))
            generalize m[p] = ev2 at y0 y1 y2 HT2
            have HE := Aside0.mk hheap
            clear hheap
            obtain ⟨d2, w2⟩ : ∃ d, (ev2.f0 == 1) = d := ⟨_, rfl⟩
            obtain ⟨d3, w3⟩ : ∃ d, (f2.f0 == ev2.f2.f0) = d := ⟨_, rfl⟩
            have HV : Aside0 ((ev2.f2.f0 == f2.f0) = d3) := ⟨by rw [← w3]; exact Bool.beq_comm⟩
            have HW := Aside0.mk w2
            cases d2
            · go_wp2
              go_quiet (fail)
              go_wp2
              go_roundw
              case rel =>
                refine ⟨p + 1, b2, rfl, by go_num, by omega, ⟨?_⟩, (drewN_h _ _).trans HE.out, hb2.trans (drewN_b _ _ _)⟩
                rw [HT2.out, HD.out]
                simp [dup, idR, HW.out]
              case measure => simp [intOf]; omega
            · cases d3
              · go_wp2
                go_quiet (fail)
                go_wp2
                go_roundw
                case rel =>
                  refine ⟨p + 1, b2, rfl, by go_num, by omega, ⟨?_⟩, (drewN_h _ _).trans HE.out, hb2.trans (drewN_b _ _ _)⟩
                  rw [HT2.out, HD.out]
                  simp [dup, idR, HW.out, HV.out]
                case measure => simp [intOf]; omega
              · go_wp2
                go_quiet (fail)
                go_wp2
                go_roundw
                case rel =>
                  refine ⟨p + 1, false, rfl, by go_num, by omega, ⟨?_⟩, (drewN_h _ _).trans HE.out, hb2.trans (drewN_b _ _ _)⟩
                  rw [HT2.out]
                  simp [dup, idR, HW.out, HV.out]
                case measure => simp [intOf]; omega
          · obtain rfl : p = k := by omega
            have q3 : ((p : Int) < (p : Int)) = False := eq_false (by omega)
            go_wp2
            go_roundw
            case rel =>
              refine ⟨p + 1, _, _, _, _, _, b2, rfl, by go_num, by omega, HC, ⟨by rw [hheap]; exact H3.out⟩, ⟨?_⟩, by omega, by omega, by omega, by omega, by omega, hb2⟩
              rw [HT.out, HD.out, ← ho.out]
              rfl
            case measure => simp [intOf]; omega
      · subst h2
        have HC := Aside0.mk (show countR 0 (m.take (k + 1)).reverse = n0 ∧ countR 1 (m.take (k + 1)).reverse = n1 ∧ countR 2 (m.take (k + 1)).reverse = n2 + 1 ∧ countR 3 (m.take (k + 1)).reverse = n3 ∧ countR 4 (m.take (k + 1)).reverse = n4 by
          rw [HT.out]
          obtain ⟨e0, e1, e2, e3, e4⟩ := hc.out
          simp [countR, e0, e1, e2, e3, e4])
        have H3 := Aside0.mk (blk_put h3.out 2 (.int .i64 (n2 + 1)) rfl)
        have HB := hb.setCell (p := ⟨W.heap.size, 2, none⟩) (Nat.le_refl _) (.int .i64 (n2 + 1))
        go_upto_region 9 with (fail)
        clear c0 c1 c2 c3 c4 g0 g1 g2 g3 g4 h3 hb hc x0 x1 x2
        generalize wr.setCell ⟨W.heap.size, 2, none⟩ (.int .i64 (n2 + 1)) = wx at *
        go_wp2
        go_loopw [4, 6] (fun o q wr2 => ∃ (p : Nat) (b2 : Bool), o = .bool b2 ∧ q = .int .i64 p ∧ p ≤ k ∧ Aside0 (b2 = (b && dup ⟨2, f1, f2⟩ (m.take p).reverse)) ∧ wr2.heap = wx.heap ∧ Below W.heap.size W wr2) (fun _ q _ => k - (intOf q).toNat)
        case atStart => exact ⟨0, b, rfl, rfl, Nat.zero_le _, ⟨by simp [dup, idR]⟩, rfl, HB⟩
        case round =>
          obtain ⟨p, b2, rfl, rfl, hp, HD, hheap, hb2⟩ := hrel
          by_cases hpk : p < k
          · have q3 : ((p : Int) < (k : Int)) = True := eq_true (by omega)
            have q4 : (0 ≤ (p : Int)) = True := eq_true (by omega)
            have q5 : ((p : Int) < (m.length : Int)) = True := eq_true (by omega)
            obtain ⟨ad2, e, y0, y1, y2⟩ := ev_at hr hb2 p (by omega)
            injection e with e
            subst e
            obtain ⟨x0, x2⟩ := HX.out _ hb2
            have HT2 := Aside0.mk (rev_take_succ m p (by omega))
            generalize m[p] = ev2 at y0 y1 y2 HT2
            have HE := Aside0.mk hheap
            clear hheap
            have w1 : ((2 : Int) == 1) = false := by decide
            go_wp2
            go_quiet (fail)
            go_wp2
            go_roundw
            case rel =>
              refine ⟨p + 1, b2, rfl, by go_num, by omega, ⟨?_⟩, (drewN_h _ _).trans HE.out, hb2.trans (drewN_b _ _ _)⟩
              rw [HT2.out, HD.out]
              simp [dup, w1]
            case measure => simp [intOf]; omega
          · obtain rfl : p = k := by omega
            have q3 : ((p : Int) < (p : Int)) = False := eq_false (by omega)
            go_wp2
            go_roundw
            case rel =>
              refine ⟨p + 1, _, _, _, _, _, b2, rfl, by go_num, by omega, HC, ⟨by rw [hheap]; exact H3.out⟩, ⟨?_⟩, by omega, by omega, by omega, by omega, by omega, hb2⟩
              rw [HT.out, HD.out, ← ho.out]
              rfl
            case measure => simp [intOf]; omega
      · subst h3'
        have HC := Aside0.mk (show countR 0 (m.take (k + 1)).reverse = n0 ∧ countR 1 (m.take (k + 1)).reverse = n1 ∧ countR 2 (m.take (k + 1)).reverse = n2 ∧ countR 3 (m.take (k + 1)).reverse = n3 + 1 ∧ countR 4 (m.take (k + 1)).reverse = n4 by
          rw [HT.out]
          obtain ⟨e0, e1, e2, e3, e4⟩ := hc.out
          simp [countR, e0, e1, e2, e3, e4])
        have H3 := Aside0.mk (blk_put h3.out 3 (.int .i64 (n3 + 1)) rfl)
        have HB := hb.setCell (p := ⟨W.heap.size, 3, none⟩) (Nat.le_refl _) (.int .i64 (n3 + 1))
        go_upto_region 9 with (fail)
        clear c0 c1 c2 c3 c4 g0 g1 g2 g3 g4 h3 hb hc x0 x1 x2
        generalize wr.setCell ⟨W.heap.size, 3, none⟩ (.int .i64 (n3 + 1)) = wx at *
        go_wp2
        go_loopw [4, 6] (fun o q wr2 => ∃ (p : Nat) (b2 : Bool), o = .bool b2 ∧ q = .int .i64 p ∧ p ≤ k ∧ Aside0 (b2 = (b && dup ⟨3, f1, f2⟩ (m.take p).reverse)) ∧ wr2.heap = wx.heap ∧ Below W.heap.size W wr2) (fun _ q _ => k - (intOf q).toNat)
        case atStart => exact ⟨0, b, rfl, rfl, Nat.zero_le _, ⟨by simp [dup, idR]⟩, rfl, HB⟩
        case round =>
          obtain ⟨p, b2, rfl, rfl, hp, HD, hheap, hb2⟩ := hrel
          by_cases hpk : p < k
          · have q3 : ((p : Int) < (k : Int)) = True := eq_true (by omega)
            have q4 : (0 ≤ (p : Int)) = True := eq_true (by omega)
            have q5 : ((p : Int) < (m.length : Int)) = True := eq_true (by omega)
            obtain ⟨ad2, e, y0, y1, y2⟩ := ev_at hr hb2 p (by omega)
            injection e with e
            subst e
            obtain ⟨x0, x2⟩ := HX.out _ hb2
            have HT2 := Aside0.mk (rev_take_succ m p (by omega))
            generalize m[p] = ev2 at y0 y1 y2 HT2
            have HE := Aside0.mk hheap
            clear hheap
            have w1 : ((3 : Int) == 1) = false := by decide
            go_wp2
            go_quiet (fail)
            go_wp2
            go_roundw
            case rel =>
              refine ⟨p + 1, b2, rfl, by go_num, by omega, ⟨?_⟩, (drewN_h _ _).trans HE.out, hb2.trans (drewN_b _ _ _)⟩
              rw [HT2.out, HD.out]
              simp [dup, w1]
            case measure => simp [intOf]; omega
          · obtain rfl : p = k := by omega
            have q3 : ((p : Int) < (p : Int)) = False := eq_false (by omega)
            go_wp2
            go_roundw
            case rel =>
              refine ⟨p + 1, _, _, _, _, _, b2, rfl, by go_num, by omega, HC, ⟨by rw [hheap]; exact H3.out⟩, ⟨?_⟩, by omega, by omega, by omega, by omega, by omega, hb2⟩
              rw [HT.out, HD.out, ← ho.out]
              rfl
            case measure => simp [intOf]; omega
      · subst h4
        have HC := Aside0.mk (show countR 0 (m.take (k + 1)).reverse = n0 ∧ countR 1 (m.take (k + 1)).reverse = n1 ∧ countR 2 (m.take (k + 1)).reverse = n2 ∧ countR 3 (m.take (k + 1)).reverse = n3 ∧ countR 4 (m.take (k + 1)).reverse = n4 + 1 by
          rw [HT.out]
          obtain ⟨e0, e1, e2, e3, e4⟩ := hc.out
          simp [countR, e0, e1, e2, e3, e4])
        have H3 := Aside0.mk (blk_put h3.out 4 (.int .i64 (n4 + 1)) rfl)
        have HB := hb.setCell (p := ⟨W.heap.size, 4, none⟩) (Nat.le_refl _) (.int .i64 (n4 + 1))
        go_upto_region 9 with (fail)
        clear c0 c1 c2 c3 c4 g0 g1 g2 g3 g4 h3 hb hc x0 x1 x2
        generalize wr.setCell ⟨W.heap.size, 4, none⟩ (.int .i64 (n4 + 1)) = wx at *
        go_wp2
        go_loopw [4, 6] (fun o q wr2 => ∃ (p : Nat) (b2 : Bool), o = .bool b2 ∧ q = .int .i64 p ∧ p ≤ k ∧ Aside0 (b2 = (b && dup ⟨4, f1, f2⟩ (m.take p).reverse)) ∧ wr2.heap = wx.heap ∧ Below W.heap.size W wr2) (fun _ q _ => k - (intOf q).toNat)
        case atStart => exact ⟨0, b, rfl, rfl, Nat.zero_le _, ⟨by simp [dup, idR]⟩, rfl, HB⟩
        case round =>
          obtain ⟨p, b2, rfl, rfl, hp, HD, hheap, hb2⟩ := hrel
          by_cases hpk : p < k
          · have q3 : ((p : Int) < (k : Int)) = True := eq_true (by omega)
            have q4 : (0 ≤ (p : Int)) = True := eq_true (by omega)
            have q5 : ((p : Int) < (m.length : Int)) = True := eq_true (by omega)
            obtain ⟨ad2, e, y0, y1, y2⟩ := ev_at hr hb2 p (by omega)
            injection e with e
            subst e
            obtain ⟨x0, x2⟩ := HX.out _ hb2
            have HT2 := Aside0.mk (rev_take_succ m p (by omega))
            generalize m[p] = ev2 at y0 y1 y2 HT2
            have HE := Aside0.mk hheap
            clear hheap
            have w1 : ((4 : Int) == 1) = false := by decide
            go_wp2
            go_quiet (fail)
            go_wp2
            go_roundw
            case rel =>
              refine ⟨p + 1, b2, rfl, by go_num, by omega, ⟨?_⟩, (drewN_h _ _).trans HE.out, hb2.trans (drewN_b _ _ _)⟩
              rw [HT2.out, HD.out]
              simp [dup, w1]
            case measure => simp [intOf]; omega
          · obtain rfl : p = k := by omega
            have q3 : ((p : Int) < (p : Int)) = False := eq_false (by omega)
            go_wp2
            go_roundw
            case rel =>
              refine ⟨p + 1, _, _, _, _, _, b2, rfl, by go_num, by omega, HC, ⟨by rw [hheap]; exact H3.out⟩, ⟨?_⟩, by omega, by omega, by omega, by omega, by omega, hb2⟩
              rw [HT.out, HD.out, ← ho.out]
              rfl
            case measure => simp [intOf]; omega
      · have HC := Aside0.mk (show countR 0 (m.take (k + 1)).reverse = n0 ∧ countR 1 (m.take (k + 1)).reverse = n1 ∧ countR 2 (m.take (k + 1)).reverse = n2 ∧ countR 3 (m.take (k + 1)).reverse = n3 ∧ countR 4 (m.take (k + 1)).reverse = n4 by
          rw [HT.out]
          obtain ⟨e0, e1, e2, e3, e4⟩ := hc.out
          have o : ∀ q : Int, 0 ≤ q → q ≤ 4 → f0 ≠ q := by intro q a b e; subst e; exact hin ⟨a, b⟩
          have o0 := o 0 (by omega) (by omega)
          have o1 := o 1 (by omega) (by omega)
          have o2 := o 2 (by omega) (by omega)
          have o3 := o 3 (by omega) (by omega)
          have o4 := o 4 (by omega) (by omega)
          simp [countR, e0, e1, e2, e3, e4, o0, o1, o2, o3, o4])
        have H3 := h3
        have HB := hb
        have hneg : (0 ≤ f0) = False ∨ ((0 ≤ f0) = True ∧ (f0 ≤ 4) = False) := by
          by_cases h : 0 ≤ f0
          · exact .inr ⟨eq_true h, eq_false (fun g => hin ⟨h, g⟩)⟩
          · exact .inl (eq_false h)
        have hne1 : (f0 == 1) = false := beq_eq_false_iff_ne.2 (fun e => hin (by omega))
        clear hin
        rcases hneg with hneg | ⟨hn1, hn2⟩
        all_goals
          go_upto_region 9 with (fail)
          clear c0 c1 c2 c3 c4 g0 g1 g2 g3 g4 h3 hb hc x0 x1 x2
          obtain ⟨wx, rfl⟩ : ∃ wx : World, wx = wr := ⟨_, rfl⟩
          go_wp2
          go_loopw [4, 6] (fun o q wr2 => ∃ (p : Nat) (b2 : Bool), o = .bool b2 ∧ q = .int .i64 p ∧ p ≤ k ∧ Aside0 (b2 = (b && dup ⟨f0, f1, f2⟩ (m.take p).reverse)) ∧ wr2.heap = wx.heap ∧ Below W.heap.size W wr2) (fun _ q _ => k - (intOf q).toNat)
          case atStart => exact ⟨0, b, rfl, rfl, Nat.zero_le _, ⟨by simp [dup, idR]⟩, rfl, HB⟩
          case round =>
            obtain ⟨p, b2, rfl, rfl, hp, HD, hheap, hb2⟩ := hrel
            by_cases hpk : p < k
            · have q3 : ((p : Int) < (k : Int)) = True := eq_true (by omega)
              have q4 : (0 ≤ (p : Int)) = True := eq_true (by omega)
              have q5 : ((p : Int) < (m.length : Int)) = True := eq_true (by omega)
              obtain ⟨ad2, e, y0, y1, y2⟩ := ev_at hr hb2 p (by omega)
              injection e with e
              subst e
              obtain ⟨x0, x2⟩ := HX.out _ hb2
              have HT2 := Aside0.mk (rev_take_succ m p (by omega))
              generalize m[p] = ev2 at y0 y1 y2 HT2
              have HE := Aside0.mk hheap
              clear hheap
              have w1 : ((f0 : Int) == 1) = false := hne1
              go_wp2
              go_quiet (fail)
              go_wp2
              go_roundw
              case rel =>
                refine ⟨p + 1, b2, rfl, by go_num, by omega, ⟨?_⟩, (drewN_h _ _).trans HE.out, hb2.trans (drewN_b _ _ _)⟩
                rw [HT2.out, HD.out]
                simp [dup, w1]
              case measure => simp [intOf]; omega
            · obtain rfl : p = k := by omega
              have q3 : ((p : Int) < (p : Int)) = False := eq_false (by omega)
              go_wp2
              go_roundw
              case rel =>
                refine ⟨p + 1, _, _, _, _, _, b2, rfl, by go_num, by omega, HC, ⟨by rw [hheap]; exact H3.out⟩, ⟨?_⟩, by omega, by omega, by omega, by omega, by omega, hb2⟩
                rw [HT.out, HD.out, ← ho.out]
                rfl
              case measure => simp [intOf]; omega
    · obtain rfl : k = m.length := by omega
      have q1 : ((m.length : Int) < (m.length : Int)) = False := eq_false (by omega)
      rw [List.take_length] at hc ho
      go_upto_region 14 with (fail)
      have c0 := (blk_cell h3.out 0).trans (show _ = some (Value.int .i64 n0) from rfl)
      have c1 := (blk_cell h3.out 1).trans (show _ = some (Value.int .i64 n1) from rfl)
      have c2 := (blk_cell h3.out 2).trans (show _ = some (Value.int .i64 n2) from rfl)
      have c3 := (blk_cell h3.out 3).trans (show _ = some (Value.int .i64 n3) from rfl)
      have c4 := (blk_cell h3.out 4).trans (show _ = some (Value.int .i64 n4) from rfl)
      have HCC := Aside0.mk (show countsV m.reverse = #[.int .i64 n0, .int .i64 n1, .int .i64 n2, .int .i64 n3, .int .i64 n4] by
        obtain ⟨e0, e1, e2, e3, e4⟩ := hc.out
        simp [countsV, e0, e1, e2, e3, e4])
      have HO := Aside0.mk (show onceB m = b from ho.out)
      have hCd : Aside0 (Kd.C k28 wr.drew A m.length m ∧ Below W.heap.size W wr.drew) := ⟨C_of hr (hb.trans (drewN_b wr _ 1)), hb.trans (drewN_b wr _ 1)⟩
      have heq := beq5 n0 n1 n2 n3 n4
      have hb0 : (b == b) = true := by simp
      clear h3 hc ho hr hb
      go_region_held3 (fun w' => w'.cell? ⟨W.heap.size, 0, none⟩ = some (.int .i64 n0) ∧ w'.cell? ⟨W.heap.size, 1, none⟩ = some (.int .i64 n1) ∧ w'.cell? ⟨W.heap.size, 2, none⟩ = some (.int .i64 n2) ∧ w'.cell? ⟨W.heap.size, 3, none⟩ = some (.int .i64 n3) ∧ w'.cell? ⟨W.heap.size, 4, none⟩ = some (.int .i64 n4) ∧ Aside0 (Kd.C k28 w' A m.length m ∧ Below W.heap.size W w'))
        (first
          | (exact ⟨k0, k1, k2, k3, k4, kC⟩)
          | (exact ⟨c0, c1, c2, c3, c4, hCd⟩)
          | go_keep)
        (first
          | (go_at_call 12; go_loud (refine (awake_calls _).mono ?_; rintro e w1 ⟨rfl, b1⟩; obtain ⟨k0, k1, k2, k3, k4, kC⟩ := keep_st b1 (by assumption) (by assumption) (by assumption) (by assumption) (by assumption) (by assumption)))
          | (go_at_call 16; go_loud (refine (counts_calls A c' m _ (C_now (by assumption)) (by omega)).mono ?_; rintro e w1 ⟨rfl, b1⟩; rw [HCC.out]; obtain ⟨k0, k1, k2, k3, k4, kC⟩ := keep_st b1 (by assumption) (by assumption) (by assumption) (by assumption) (by assumption) (by assumption)))
          | (go_at_call 17; go_loud (refine (once_calls A c' m _ (C_now (by assumption)) (by omega) HOK.out).mono ?_; rintro e w1 ⟨rfl, b1⟩; rw [HO.out]; obtain ⟨k0, k1, k2, k3, k4, kC⟩ := keep_st b1 (by assumption) (by assumption) (by assumption) (by assumption) (by assumption) (by assumption))))
      go_wp2
      go_ret
      exact ⟨by first | rfl | simp, kC.out.2⟩
end Go.Proofs.Ytaggkdnnnmbblaa.Given
