/- audit.Once and audit.Counts, walked. -/
import Derived.Test.YtaggkdnnnmbblaaGivA
namespace Go.Proofs.Ytaggkdnnnmbblaa.Given
open Go.RowKit Go.Maps Go.WideMaps Go.Proofs.Ytaggkdnnnmbblaa.QBase Go.Proofs.YtaggkdnnnmbblaaW.PrintWords Go.Proofs.YtaggkdnnnmbblaaW.PrintLast
set_option linter.unusedVariables false
set_option linter.unusedSimpArgs false

/-- The numbers that were sent, as a function. -/
def seenR (r : List Ev) (i : Int) : Option Bool := if idR r i then some true else none
theorem seen_put {D : DataW Unit} {e : Ev} {r : List Ev} (he : (e.f0 == 1) = true) {x : Int} (h : Maps.has D (keyI x) = (put1 (seenR r) e.f2.f0 true x).isSome ∧ ∀ z, D.atKey (keyI x) (valB z) = valB ((put1 (seenR r) e.f2.f0 true x).getD z)) :
    Maps.has D (keyI x) = (seenR (e :: r) x).isSome ∧ ∀ z, D.atKey (keyI x) (valB z) = valB ((seenR (e :: r) x).getD z) := by
  have e1 : seenR (e :: r) x = put1 (seenR r) e.f2.f0 true x := by
    unfold put1 seenR
    rw [idR, he]
    by_cases hx : x = e.f2.f0
    · simp [hx]
    · have hx2 : ¬ e.f2.f0 = x := fun g => hx (Eq.symm g)
      simp [hx, hx2]
  rw [e1]
  exact h
theorem seen_at {D : DataW Unit} {k : Lit} {r : List Ev} {i : Int} {c : Bool} (h : ∀ z, D.atKey k (valB z) = valB ((seenR r i).getD z)) (hat : D.atKey k (.lit (.bool false)) = .lit (.bool c)) : c = idR r i := by
  have := (h false).symm.trans hat
  simp [valB] at this
  rw [← this]
  unfold seenR
  cases idR r i <;> rfl

set_option maxHeartbeats 8000000 in
set_option maxRecDepth 100000 in
theorem once_calls (A : Option Addr) (c : Nat) (l : List Ev) (W : World) (hr : Kd.C k28 W A l.length l) (hl : l.length ≤ 1000) (hok : ∀ e ∈ l, okEv e) :
    Calls Try.prog 17 #[.slice A l.length c] W fun e w' => e = .returned (.bool (onceB l)) ∧ Below W.heap.size W w' := by
  have hmm := @run_makeMap Try.prog
  go_enter Try.func17, Try.ntmps17
  go_wp2
  go_loopw [9] (fun i wr => ∃ (k : Nat), i = .int .i64 k ∧ k ≤ l.length ∧ Aside0 (MapIs keyI valB 3 4 wr W.heap.size k (seenR (l.take k).reverse)) ∧ Aside0 (onceR (l.take k).reverse = true) ∧ Below W.heap.size W wr) (fun i wr => l.length - (intOf i).toNat)
  case atStart =>
    refine ⟨0, rfl, Nat.zero_le _, ⟨?_⟩, ⟨rfl⟩, ?_⟩
    · exact MapIs.made W keyI valB 3 4
    · exact (Below.refl _ W).alloc (Nat.le_refl _) _
  case round =>
    obtain ⟨k, rfl, hk, hm, hg, hb⟩ := hrel
    have hz := hb.size
    by_cases hlt : k < l.length
    · have hget := Aside0.mk (rd_get l k hlt)
      obtain ⟨ad, e, x0, x1, x2, x3, x4, x5, x6⟩ := at_T28 hr (k : Int) (by omega) (by omega)
      cases e
      have HOK := Aside0.mk (hok l[k] (List.getElem_mem hlt))
      rw [hget.out] at x0 x1 x2 x3 x4 x5 x6
      have HT := Aside0.mk (rev_take_succ l k hlt)
      replace x0 := (hb.cell (World.block_lt_of_cell? _ _ x0)).trans x0
      replace x1 := (hb.cell (World.block_lt_of_cell? _ _ x1)).trans x1
      replace x2 := (hb.cell (World.block_lt_of_cell? _ _ x2)).trans x2
      replace x3 := (hb.cell (World.block_lt_of_cell? _ _ x3)).trans x3
      replace x4 := (hb.cell (World.block_lt_of_cell? _ _ x4)).trans x4
      replace x5 := (hb.cell (World.block_lt_of_cell? _ _ x5)).trans x5
      replace x6 := (hb.cell (World.block_lt_of_cell? _ _ x6)).trans x6
      generalize l[k] = ev at *
      clear hget
      rw [Int.toNat_natCast] at *
      have q1 : ((k : Int) < (l.length : Int)) = True := eq_true (by omega)
      have q2 : (0 ≤ (k : Int)) = True := eq_true (by omega)
      have bB : Below wr.heap.size wr (wr.alloc (.cells (evCells ev) 28)) := (Below.refl _ wr).alloc (Nat.le_refl _) _
      have HM2 := Aside0.mk (hm.out.below bB)
      have HB2 := Aside0.mk (hb.trans (bB.mono hz))
      clear bB
      obtain ⟨b, hw⟩ : ∃ b, (ev.f0 == 1) = b := ⟨_, rfl⟩
      have HW := Aside0.mk hw
      have hw' : (ev.f0 != 1) = !b := by rw [bne, hw]
      cases b
      · go_wp2
        go_roundw
        case rel =>
          refine ⟨k + 1, by go_num, by omega, ⟨?_⟩, ⟨?_⟩, HB2.out⟩
          · rw [HT.out]
            obtain ⟨D, h1, h2⟩ := HM2.out.more (Nat.le_succ k)
            refine ⟨D, h1, fun x => ?_⟩
            rw [show seenR (ev :: (l.take k).reverse) x = seenR (l.take k).reverse x by rw [seenR, idR, HW.out]; rfl]
            exact h2 x
          · rw [HT.out, onceR, HW.out, hg.out]; rfl
        case measure => simp [intOf]; omega
      · obtain ⟨D, hown, hD0⟩ := HM2.out
        have HD := Aside0.mk hD0
        have hkey : keyOf Try.prog 3 (.int .i64 ev.f2.f0) = some (keyI ev.f2.f0) := keyOf_int_mk Try.underlying3 (wf_i64 HOK.out.2.2.1)
        clear hD0
        obtain ⟨sn, hs⟩ : ∃ s, idR (l.take k).reverse ev.f2.f0 = s := ⟨_, rfl⟩
        have HS := Aside0.mk hs
        cases sn
        · go_upto_region 8 with (at_lookup; go_loud (refine wpList_lookup_own_bool _ rfl _ _ 43 rfl 3 4 lawI Try.underlying43 Try.underlying4 (zero4 _) _ _ D rfl hown _ _ rfl hkey ?_; intro c1 hat; obtain rfl : c1 = false := (seen_at (HD.out ev.f2.f0).2 hat).trans HS.out; clear hat))
          go_wp2_with (at_mapUpdate; go_loud (refine wpList_mapUpdate_own _ rfl _ _ _ 43 rfl 3 4 lawI Try.underlying43 _ _ k D rfl hown (by unfold maxLen; omega) _ _ _ rfl rfl hkey (valB true) [] (plainElem_bool Try.underlying4 true) ?_; intro w3 hown3 hgrow3))
          go_roundw
          case rel =>
            refine ⟨k + 1, by go_num, by omega, ⟨?_⟩, ⟨?_⟩, ?_⟩
            · rw [HT.out]
              refine ⟨_, hown3, fun x => ?_⟩
              exact seen_put HW.out (put_is hown.isMap HD.out keyI_key keyI_inj ev.f2.f0 true x)
            · rw [HT.out, onceR, HW.out, hg.out, HS.out]; rfl
            · exact HB2.out.trans (grown_below hgrow3 (Nat.le_refl _) HB2.out.size)
          case measure => simp [intOf]; omega
        · have hfin : onceB l = false := by
            apply onceB_false (k + 1)
            rw [HT.out, onceR, HW.out, HS.out]
            simp
          have HF := Aside0.mk hfin
          clear hfin
          go_wp2_with (at_lookup; go_loud (refine wpList_lookup_own_bool _ rfl _ _ 43 rfl 3 4 lawI Try.underlying43 Try.underlying4 (zero4 _) _ _ D rfl hown _ _ rfl hkey ?_; intro c1 hat; obtain rfl : c1 = true := (seen_at (HD.out ev.f2.f0).2 hat).trans HS.out; clear hat))
          go_ret
          exact ⟨by rw [HF.out]; rfl, HB2.out⟩
    · obtain rfl : k = l.length := by omega
      have q1 : ((l.length : Int) < (l.length : Int)) = False := eq_false (by omega)
      go_wp2
      go_ret
      rw [List.take_length] at hg
      exact ⟨by rw [show onceB l = true from hg.out]; rfl, hb⟩

/-- The five counts. -/
def countsV (r : List Ev) : Array Value := #[.int .i64 (countR 0 r), .int .i64 (countR 1 r), .int .i64 (countR 2 r), .int .i64 (countR 3 r), .int .i64 (countR 4 r)]
set_option maxHeartbeats 8000000 in
set_option maxRecDepth 100000 in
theorem counts_calls (A : Option Addr) (c : Nat) (l : List Ev) (W : World) (hr : Kd.C k28 W A l.length l) (hl : l.length ≤ 1000) :
    Calls Try.prog 16 #[.slice A l.length c] W fun e w' => e = .returned (.agg (countsV l.reverse)) ∧ Below W.heap.size W w' := by
  go_enter Try.func16, Try.ntmps16
  go_wp2
  go_loopw [8] (fun i wr => ∃ (k : Nat) (n0 n1 n2 n3 n4 : Int), i = .int .i64 k ∧ k ≤ l.length ∧ Aside0 (countR 0 (l.take k).reverse = n0 ∧ countR 1 (l.take k).reverse = n1 ∧ countR 2 (l.take k).reverse = n2 ∧ countR 3 (l.take k).reverse = n3 ∧ countR 4 (l.take k).reverse = n4) ∧
    Aside0 (wr.heap[W.heap.size + 1]? = some (.cells #[.int .i64 n0, .int .i64 n1, .int .i64 n2, .int .i64 n3, .int .i64 n4] 34 (0, 0))) ∧ Aside0 (wr.heap[W.heap.size]? = some (.cells #[.int .i64 0, .int .i64 0, .int .i64 0, .int .i64 0, .int .i64 0] 34 (0, 0))) ∧
    (0 ≤ n0 ∧ n0 ≤ k) ∧ (0 ≤ n1 ∧ n1 ≤ k) ∧ (0 ≤ n2 ∧ n2 ≤ k) ∧ (0 ≤ n3 ∧ n3 ≤ k) ∧ (0 ≤ n4 ∧ n4 ≤ k) ∧ Below W.heap.size W wr) (fun i wr => l.length - (intOf i).toNat)
  case atStart =>
    refine ⟨0, 0, 0, 0, 0, 0, rfl, Nat.zero_le _, ⟨⟨rfl, rfl, rfl, rfl, rfl⟩⟩, ⟨?_⟩, ⟨?_⟩, by omega, by omega, by omega, by omega, by omega, ?_⟩
    · simpa using blk_new (W.alloc (.cells #[.int .i64 0, .int .i64 0, .int .i64 0, .int .i64 0, .int .i64 0] 34)) (.cells #[.int .i64 0, .int .i64 0, .int .i64 0, .int .i64 0, .int .i64 0] 34)
    · exact blk_alloc (blk_new W _) _
    · exact ((Below.refl _ W).alloc (Nat.le_refl _) _).alloc (by simp) _
  case round =>
    obtain ⟨k, n0, n1, n2, n3, n4, rfl, hk, hc, h3, h2, m0, m1, m2, m3, m4, hb⟩ := hrel
    have hz := hb.size
    by_cases hlt : k < l.length
    · have hget := Aside0.mk (rd_get l k hlt)
      obtain ⟨ad, e, x0, x1, x2, x3, x4, x5, x6⟩ := at_T28 hr (k : Int) (by omega) (by omega)
      cases e
      rw [hget.out] at x0 x1 x2 x3 x4 x5 x6
      have HT := Aside0.mk (rev_take_succ l k hlt)
      replace x0 := (hb.cell (World.block_lt_of_cell? _ _ x0)).trans x0
      replace x1 := (hb.cell (World.block_lt_of_cell? _ _ x1)).trans x1
      replace x2 := (hb.cell (World.block_lt_of_cell? _ _ x2)).trans x2
      replace x3 := (hb.cell (World.block_lt_of_cell? _ _ x3)).trans x3
      replace x4 := (hb.cell (World.block_lt_of_cell? _ _ x4)).trans x4
      replace x5 := (hb.cell (World.block_lt_of_cell? _ _ x5)).trans x5
      replace x6 := (hb.cell (World.block_lt_of_cell? _ _ x6)).trans x6
      generalize l[k] = ev at *
      obtain ⟨f0, f1, f2⟩ := ev
      dsimp only at x0 x1 x2 x3 x4 x5 x6
      clear hget
      rw [Int.toNat_natCast] at *
      have q1 : ((k : Int) < (l.length : Int)) = True := eq_true (by omega)
      have q2 : (0 ≤ (k : Int)) = True := eq_true (by omega)
      by_cases hin : 0 ≤ f0 ∧ f0 < 5
      · have H3 := Aside0.mk (blk_alloc h3.out (.cells (evCells ⟨f0, f1, f2⟩) 28))
        have H2 := Aside0.mk (blk_alloc h2.out (.cells (evCells ⟨f0, f1, f2⟩) 28))
        have HB2 := Aside0.mk (hb.alloc hz (.cells (evCells ⟨f0, f1, f2⟩) 28))
        simp only [evCells] at H3 H2 HB2
        have c0 := blk_cell H3.out 0
        have c1 := blk_cell H3.out 1
        have c2 := blk_cell H3.out 2
        have c3 := blk_cell H3.out 3
        have c4 := blk_cell H3.out 4
        have g0 := blk_frozen H3.out 0
        have g1 := blk_frozen H3.out 1
        have g2 := blk_frozen H3.out 2
        have g3 := blk_frozen H3.out 3
        have g4 := blk_frozen H3.out 4
        replace c0 := c0.trans (show _ = some (Value.int .i64 n0) from rfl)
        replace c1 := c1.trans (show _ = some (Value.int .i64 n1) from rfl)
        replace c2 := c2.trans (show _ = some (Value.int .i64 n2) from rfl)
        replace c3 := c3.trans (show _ = some (Value.int .i64 n3) from rfl)
        replace c4 := c4.trans (show _ = some (Value.int .i64 n4) from rfl)
        obtain h0 | h1 | h2 | h3 | h4 : f0 = 0 ∨ f0 = 1 ∨ f0 = 2 ∨ f0 = 3 ∨ f0 = 4 := by omega
        all_goals clear hin
        · subst h0
          go_wp2
          go_roundw
          case rel =>
            refine ⟨k + 1, n0 + 1, n1, n2, n3, n4, by go_num, by omega, ⟨?_⟩, ⟨?_⟩, ⟨?_⟩, by omega, by omega, by omega, by omega, by omega, ?_⟩
            · rw [HT.out]
              obtain ⟨e0, e1, e2, e3, e4⟩ := hc.out
              simp [countR, e0, e1, e2, e3, e4]
            · exact blk_put (H3.out) 0 _ rfl
            · exact blk_far H2.out (by simp) _
            · exact HB2.out.setCell (by simp) _
          case measure => simp [intOf]; omega
        · subst h1
          go_wp2
          go_roundw
          case rel =>
            refine ⟨k + 1, n0, n1 + 1, n2, n3, n4, by go_num, by omega, ⟨?_⟩, ⟨?_⟩, ⟨?_⟩, by omega, by omega, by omega, by omega, by omega, ?_⟩
            · rw [HT.out]
              obtain ⟨e0, e1, e2, e3, e4⟩ := hc.out
              simp [countR, e0, e1, e2, e3, e4]
            · exact blk_put (H3.out) 1 _ rfl
            · exact blk_far H2.out (by simp) _
            · exact HB2.out.setCell (by simp) _
          case measure => simp [intOf]; omega
        · subst h2
          go_wp2
          go_roundw
          case rel =>
            refine ⟨k + 1, n0, n1, n2 + 1, n3, n4, by go_num, by omega, ⟨?_⟩, ⟨?_⟩, ⟨?_⟩, by omega, by omega, by omega, by omega, by omega, ?_⟩
            · rw [HT.out]
              obtain ⟨e0, e1, e2, e3, e4⟩ := hc.out
              simp [countR, e0, e1, e2, e3, e4]
            · exact blk_put (H3.out) 2 _ rfl
            · exact blk_far H2.out (by simp) _
            · exact HB2.out.setCell (by simp) _
          case measure => simp [intOf]; omega
        · subst h3
          go_wp2
          go_roundw
          case rel =>
            refine ⟨k + 1, n0, n1, n2, n3 + 1, n4, by go_num, by omega, ⟨?_⟩, ⟨?_⟩, ⟨?_⟩, by omega, by omega, by omega, by omega, by omega, ?_⟩
            · rw [HT.out]
              obtain ⟨e0, e1, e2, e3, e4⟩ := hc.out
              simp [countR, e0, e1, e2, e3, e4]
            · exact blk_put (H3.out) 3 _ rfl
            · exact blk_far H2.out (by simp) _
            · exact HB2.out.setCell (by simp) _
          case measure => simp [intOf]; omega
        · subst h4
          go_wp2
          go_roundw
          case rel =>
            refine ⟨k + 1, n0, n1, n2, n3, n4 + 1, by go_num, by omega, ⟨?_⟩, ⟨?_⟩, ⟨?_⟩, by omega, by omega, by omega, by omega, by omega, ?_⟩
            · rw [HT.out]
              obtain ⟨e0, e1, e2, e3, e4⟩ := hc.out
              simp [countR, e0, e1, e2, e3, e4]
            · exact blk_put (H3.out) 4 _ rfl
            · exact blk_far H2.out (by simp) _
            · exact HB2.out.setCell (by simp) _
          case measure => simp [intOf]; omega
      · have HB2 := Aside0.mk (hb.alloc hz (.cells (evCells ⟨f0, f1, f2⟩) 28))
        have H3 := Aside0.mk (blk_alloc h3.out (.cells (evCells ⟨f0, f1, f2⟩) 28))
        have H2 := Aside0.mk (blk_alloc h2.out (.cells (evCells ⟨f0, f1, f2⟩) 28))
        have out : ∀ n, 0 ≤ n → n < 5 → f0 ≠ n := by intro n a b e; subst e; exact hin ⟨a, b⟩
        have HO := Aside0.mk out
        clear out
        have hneg : (0 ≤ f0) = False ∨ ((0 ≤ f0) = True ∧ (f0 < 5) = False) := by
          by_cases h : 0 ≤ f0
          · exact .inr ⟨eq_true h, eq_false (fun g => hin ⟨h, g⟩)⟩
          · exact .inl (eq_false h)
        clear hin
        rcases hneg with hneg | ⟨hn1, hn2⟩
        all_goals
          go_wp2
          go_roundw
          case rel =>
            refine ⟨k + 1, n0, n1, n2, n3, n4, by go_num, by omega, ⟨?_⟩, H3, H2, by omega, by omega, by omega, by omega, by omega, HB2.out⟩
            rw [HT.out]
            obtain ⟨e0, e1, e2, e3, e4⟩ := hc.out
            have o0 := HO.out 0 (by omega) (by omega)
            have o1 := HO.out 1 (by omega) (by omega)
            have o2 := HO.out 2 (by omega) (by omega)
            have o3 := HO.out 3 (by omega) (by omega)
            have o4 := HO.out 4 (by omega) (by omega)
            simp [countR, e0, e1, e2, e3, e4, o0, o1, o2, o3, o4]
          case measure => simp [intOf]; omega
    · obtain rfl : k = l.length := by omega
      have q1 : ((l.length : Int) < (l.length : Int)) = False := eq_false (by omega)
      have c0 := (blk_cell h3.out 0).trans (show _ = some (Value.int .i64 n0) from rfl)
      have c1 := (blk_cell h3.out 1).trans (show _ = some (Value.int .i64 n1) from rfl)
      have c2 := (blk_cell h3.out 2).trans (show _ = some (Value.int .i64 n2) from rfl)
      have c3 := (blk_cell h3.out 3).trans (show _ = some (Value.int .i64 n3) from rfl)
      have c4 := (blk_cell h3.out 4).trans (show _ = some (Value.int .i64 n4) from rfl)
      have d0 := (blk_cell h2.out 0).trans (show _ = some (Value.int .i64 0) from rfl)
      have d1 := (blk_cell h2.out 1).trans (show _ = some (Value.int .i64 0) from rfl)
      have d2 := (blk_cell h2.out 2).trans (show _ = some (Value.int .i64 0) from rfl)
      have d3 := (blk_cell h2.out 3).trans (show _ = some (Value.int .i64 0) from rfl)
      have d4 := (blk_cell h2.out 4).trans (show _ = some (Value.int .i64 0) from rfl)
      have g0 := blk_frozen h2.out 0
      have g1 := blk_frozen h2.out 1
      have g2 := blk_frozen h2.out 2
      have g3 := blk_frozen h2.out 3
      have g4 := blk_frozen h2.out 4
      rw [List.take_length] at hc
      have HF := Aside0.mk (show countsV l.reverse = #[.int .i64 n0, .int .i64 n1, .int .i64 n2, .int .i64 n3, .int .i64 n4] by
        obtain ⟨e0, e1, e2, e3, e4⟩ := hc.out
        simp [countsV, e0, e1, e2, e3, e4])
      go_wp2
      have F := blk_put (blk_put (blk_put (blk_put (blk_put h2.out 0 (.int .i64 n0) rfl) 1 (.int .i64 n1) rfl) 2 (.int .i64 n2) rfl) 3 (.int .i64 n3) rfl) 4 (.int .i64 n4) rfl
      have FB := ((((hb.setCell (p := ⟨W.heap.size, 0, none⟩) (Nat.le_refl _) (.int .i64 n0)).setCell (p := ⟨W.heap.size, 1, none⟩) (Nat.le_refl _) (.int .i64 n1)).setCell (p := ⟨W.heap.size, 2, none⟩) (Nat.le_refl _) (.int .i64 n2)).setCell (p := ⟨W.heap.size, 3, none⟩) (Nat.le_refl _) (.int .i64 n3)).setCell (p := ⟨W.heap.size, 4, none⟩) (Nat.le_refl _) (.int .i64 n4)
      clear c0 c1 c2 c3 c4 d0 d1 d2 d3 d4 g0 g1 g2 g3 g4
      generalize (((((wr.setCell ⟨W.heap.size, 0, none⟩ (.int .i64 n0)).setCell ⟨W.heap.size, 1, none⟩ (.int .i64 n1)).setCell ⟨W.heap.size, 2, none⟩ (.int .i64 n2)).setCell ⟨W.heap.size, 3, none⟩ (.int .i64 n3)).setCell ⟨W.heap.size, 4, none⟩ (.int .i64 n4)) = wf at *
      have e0 := (blk_cell F 0).trans (show _ = some (Value.int .i64 n0) from rfl)
      have e1 := (blk_cell F 1).trans (show _ = some (Value.int .i64 n1) from rfl)
      have e2 := (blk_cell F 2).trans (show _ = some (Value.int .i64 n2) from rfl)
      have e3 := (blk_cell F 3).trans (show _ = some (Value.int .i64 n3) from rfl)
      have e4 := (blk_cell F 4).trans (show _ = some (Value.int .i64 n4) from rfl)
      exact bodyPost_ret (v := .agg #[.int .i64 n0, .int .i64 n1, .int .i64 n2, .int .i64 n3, .int .i64 n4]) (by simp [results, Try.results16, go_sem, e0, e1, e2, e3, e4]) rfl ⟨by rw [HF.out], FB⟩
end Go.Proofs.Ytaggkdnnnmbblaa.Given
