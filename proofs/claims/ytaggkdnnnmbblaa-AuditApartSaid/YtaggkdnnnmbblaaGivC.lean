/- The fixed fact of the audit's laws. -/
import Derived.Test.YtaggkdnnnmbblaaGivB
namespace Go.Proofs.Ytaggkdnnnmbblaa.Given
open Go.RowKit Go.Maps Go.WideMaps Go.Proofs.Ytaggkdnnnmbblaa.QBase Go.Proofs.YtaggkdnnnmbblaaW.PrintWords Go.Proofs.YtaggkdnnnmbblaaW.PrintLast
set_option linter.unusedVariables false
set_option linter.unusedSimpArgs false

def a97 : ByteArray := ⟨#[97]⟩
def evs : List Ev := [⟨1, 5, ⟨1, ⟨#[97]⟩, ⟨#[]⟩, 0, 0⟩⟩, ⟨3, 6, ⟨0, ⟨#[97]⟩, ⟨#[]⟩, 0, 0⟩⟩, ⟨2, 9, ⟨-1, ⟨#[97]⟩, ⟨#[]⟩, 0, 0⟩⟩]
def evRow : List Ev → List Value
  | [] => []
  | e :: r => (evCells e).toList ++ evRow r
theorem evRow_append (a b : List Ev) : evRow (a ++ b) = evRow a ++ evRow b := by
  induction a with
  | nil => rfl
  | cons e r ih => simp [evRow, ih]
theorem ev_reps (W : World) (base : Nat) (ok : Nat → Prop) : ∀ l : List Ev, Reps (k28.M W base ok) k28.sz l (evRow l) := by
  intro l
  have main : ∀ r : List Ev, Reps (k28.M W base ok) k28.sz r.reverse (evRow r.reverse) := by
    intro r
    induction r with
    | nil => exact Reps.none _ _
    | cons e r ih =>
      rw [List.reverse_cons, evRow_append]
      refine ih.snoc ?_ ?_
      · simp only [evRow, List.append_nil]
        exact k28_mkM W base ok e
      · simp [evRow, evCells]; rfl
  have := main l.reverse
  rwa [List.reverse_reverse] at this
theorem evs_R (W : World) (l : List Ev) (hl : l.length ≤ 1000) : Kd.R k28 28 (W.alloc (.cells (evRow l).toArray 28)) W.heap.size (fun _ => True) (.slice (some ⟨W.heap.size, 0, none⟩) l.length l.length) l := by
  refine ⟨fun k hk => trivial, evRow l, ?_, ?_⟩
  · have hrep := ev_reps W W.heap.size (fun _ => True) l
    have h2 := World.ownsRow_lit (base := W.heap.size) (e := 28) (size := k28.sz) W (evRow l).toArray l.length (Nat.le_refl _) (by unfold maxLen; omega) (by simpa using hrep.1)
    simpa using h2
  · exact (ev_reps (W.alloc (.cells (evRow l).toArray 28)) W.heap.size _ l)

theorem info28 : (Try.prog.info? 28).map (fun i => (i.zero, i.size, i.bytes)) = some (some (.agg #[(.int .i64 0), (.int .i64 0), (.int .i64 0), (.string ⟨#[]⟩), (.string ⟨#[]⟩), (.int .i64 0), (.int .i64 0)]), 7, 72) := by kernel_rfl
theorem rate250 (A : Option Addr) (c : Nat) (W : World) (hR : Kd.C k28 W A evs.length evs) (hc : evs.length ≤ c) : Calls Try.prog 15 #[.slice A 3 c, .int .i64 250, .int .i64 1] W fun e w' => e = .returned (.bool true) ∧ Below W.heap.size W w' :=
  audit_Rate.calls 100 _ _ evs 250 1 true _ hR hc (by decide +kernel)
theorem rate249 (A : Option Addr) (c : Nat) (W : World) (hR : Kd.C k28 W A evs.length evs) (hc : evs.length ≤ c) : Calls Try.prog 15 #[.slice A 3 c, .int .i64 249, .int .i64 1] W fun e w' => e = .returned (.bool false) ∧ Below W.heap.size W w' :=
  audit_Rate.calls 100 _ _ evs 249 1 false _ hR hc (by decide +kernel)
def ev1 : Ev := ⟨1, 5, ⟨1, ⟨#[97]⟩, ⟨#[]⟩, 0, 0⟩⟩
theorem once4 (A : Option Addr) (c : Nat) (W : World) (hR : Kd.C k28 W A (evs ++ [ev1]).length (evs ++ [ev1])) : Calls Try.prog 17 #[.slice A 4 c] W fun e w' => e = .returned (.bool false) ∧ Below W.heap.size W w' := by
  have ok : ∀ e ∈ evs ++ [ev1], okEv e := by
    intro e he
    simp only [evs, List.cons_append, List.nil_append, List.mem_cons, List.not_mem_nil, or_false] at he
    rcases he with rfl | rfl | rfl | rfl <;> simp [okEv, wf64, ev1] <;> decide
  have h := once_calls A c _ W hR (by decide) ok
  rwa [show onceB (evs ++ [ev1]) = false by decide +kernel] at h

set_option maxHeartbeats 8000000 in
set_option maxRecDepth 100000 in
theorem awake_calls (W : World) : Calls Try.prog 12 #[] W fun e w' => e = .returned (.bool true) ∧ Below W.heap.size W w' := by
  have g4 : gapsB 4 evs = true := by decide +kernel
  have g5 : gapsB 5 evs = false := by decide +kernel
  have r1 : audit_Rate.f 100 evs 250 1 = some true := by decide +kernel
  have r2 : audit_Rate.f 100 evs 249 1 = some false := by decide +kernel
  have o1 : onceB evs = true := by decide +kernel
  have o2 : onceB (evs ++ [ev1]) = false := by decide +kernel
  have cn : countsV evs.reverse = #[.int .i64 0, .int .i64 1, .int .i64 1, .int .i64 1, .int .i64 0] := rfl
  have hd1 : decorumref01_Held.f 1 = some 1 := by decide +kernel
  have G4 := Aside0.mk g4
  have G5 := Aside0.mk g5
  have R1 := Aside0.mk r1
  have R2 := Aside0.mk r2
  have O1 := Aside0.mk o1
  have O2 := Aside0.mk o2
  have CN := Aside0.mk cn
  have H1 := Aside0.mk hd1
  clear g4 g5 r1 r2 o1 o2 cn hd1
  have OK := Aside0.mk (show ∀ e ∈ evs, okEv e by
    intro e he
    simp only [evs, List.mem_cons, List.not_mem_nil, or_false] at he
    rcases he with rfl | rfl | rfl <;> simp [okEv, wf64] <;> decide)
  have hR : Kd.R k28 28 (W.alloc (.cells (evRow evs).toArray 28)) W.heap.size (fun _ => True) (.slice (some ⟨W.heap.size, 0, none⟩) 3 3) evs := evs_R W evs (by decide)
  rw [show (evRow evs).toArray = #[Value.int .i64 1, Value.int .i64 5, Value.int .i64 1, Value.string ⟨#[97]⟩, Value.string ⟨#[]⟩, Value.int .i64 0, Value.int .i64 0, Value.int .i64 3, Value.int .i64 6, Value.int .i64 0, Value.string ⟨#[97]⟩, Value.string ⟨#[]⟩, Value.int .i64 0, Value.int .i64 0, Value.int .i64 2, Value.int .i64 9, Value.int .i64 (-1), Value.string ⟨#[97]⟩, Value.string ⟨#[]⟩, Value.int .i64 0, Value.int .i64 0] from rfl] at hR
  have HO := Aside0.mk hR
  have HB := Aside0.mk ((Below.refl W.heap.size W).alloc (Nat.le_refl _) (.cells #[Value.int .i64 1, Value.int .i64 5, Value.int .i64 1, Value.string ⟨#[97]⟩, Value.string ⟨#[]⟩, Value.int .i64 0, Value.int .i64 0, Value.int .i64 3, Value.int .i64 6, Value.int .i64 0, Value.string ⟨#[97]⟩, Value.string ⟨#[]⟩, Value.int .i64 0, Value.int .i64 0, Value.int .i64 2, Value.int .i64 9, Value.int .i64 (-1), Value.string ⟨#[97]⟩, Value.string ⟨#[]⟩, Value.int .i64 0, Value.int .i64 0] 28))
  have BK := Aside0.mk (blk_new W (.cells #[Value.int .i64 1, Value.int .i64 5, Value.int .i64 1, Value.string ⟨#[97]⟩, Value.string ⟨#[]⟩, Value.int .i64 0, Value.int .i64 0, Value.int .i64 3, Value.int .i64 6, Value.int .i64 0, Value.string ⟨#[97]⟩, Value.string ⟨#[]⟩, Value.int .i64 0, Value.int .i64 0, Value.int .i64 2, Value.int .i64 9, Value.int .i64 (-1), Value.string ⟨#[97]⟩, Value.string ⟨#[]⟩, Value.int .i64 0, Value.int .i64 0] 28))
  clear hR
  have M1 : ∀ {W0 : World} {b0 : Nat} {ok0 : Nat → Prop}, k28.M W0 b0 ok0 ev1 [.int .i64 1, .int .i64 5, .int .i64 1, .string ⟨#[97]⟩, .string ⟨#[]⟩, .int .i64 0, .int .i64 0] := fun {W0 b0 ok0} => k28_mkM W0 b0 ok0 ev1
  have heq : ∀ w : World, (Op.equalIn 10000 34 (.agg #[.int .i64 0, .int .i64 1, .int .i64 1, .int .i64 1, .int .i64 0]) (.agg #[.int .i64 0, .int .i64 1, .int .i64 1, .int .i64 1, .int .i64 0])).run Try.prog w = .ok true w := fun w => by kernel_rfl
  go_enter Try.func12, Try.ntmps12
  go_wp2_with (first
    | (go_at_call 13; go_loud (refine (gaps_calls _ _ evs _ _ (Kd.R_reads' HO.out).2.2 (by decide) OK.out).mono ?_; rintro e w1 ⟨rfl, b1⟩; first | rw [G4.out] | rw [G5.out]); have HO' := Aside0.mk (Kd.R_below HO.out b1); have BK' := Aside0.mk (blk_below BK.out b1); have HB' := Aside0.mk (HB.out.trans (b1.mono HB.out.size)); clear HO HB BK b1; have HO := HO'; have HB := HB'; have BK := BK'; clear HO' HB' BK')
    | (go_at_call 15; go_loud (first | (with_reducible refine (rate250 _ _ _ (Kd.R_reads' HO.out).2.2 (Kd.R_reads' HO.out).2.1).mono ?_) | (with_reducible refine (rate249 _ _ _ (Kd.R_reads' HO.out).2.2 (Kd.R_reads' HO.out).2.1).mono ?_)); rintro e w1 ⟨rfl, b1⟩; have HO' := Aside0.mk (Kd.R_below HO.out b1); have BK' := Aside0.mk (blk_below BK.out b1); have HB' := Aside0.mk (HB.out.trans (b1.mono HB.out.size)); clear HO HB BK b1; have HO := HO'; have HB := HB'; have BK := BK'; clear HO' HB' BK')
    | (go_at_call 16; go_loud (refine (counts_calls _ _ evs _ (Kd.R_reads' HO.out).2.2 (by decide)).mono ?_; rintro e w1 ⟨rfl, b1⟩; rw [CN.out]); have HO' := Aside0.mk (Kd.R_below HO.out b1); have BK' := Aside0.mk (blk_below BK.out b1); have HB' := Aside0.mk (HB.out.trans (b1.mono HB.out.size)); clear HO HB BK b1; have HO := HO'; have HB := HB'; have BK := BK'; clear HO' HB' BK')
    | (go_at_call 17; (with_reducible refine (once4 _ _ _ (Kd.R_reads' HO4.out).2.2).mono ?_); rintro e w1 ⟨rfl, b1⟩; have HB' := Aside0.mk (HB.out.trans (b1.mono HB.out.size)); clear HO4 HB b1; have HB := HB'; clear HB')
    | (go_at_call 17; go_loud (refine (once_calls _ _ evs _ (Kd.R_reads' HO.out).2.2 (by decide) OK.out).mono ?_; rintro e w1 ⟨rfl, b1⟩; rw [O1.out]); have HO' := Aside0.mk (Kd.R_below HO.out b1); have BK' := Aside0.mk (blk_below BK.out b1); have HB' := Aside0.mk (HB.out.trans (b1.mono HB.out.size)); clear HO HB BK b1; have HO := HO'; have HB := HB'; have BK := BK'; clear HO' HB' BK'; have c0 := (blk_cell BK.out 0).trans (show _ = some (Value.int .i64 1) from rfl); have c1 := (blk_cell BK.out 1).trans (show _ = some (Value.int .i64 5) from rfl); have c2 := (blk_cell BK.out 2).trans (show _ = some (Value.int .i64 1) from rfl); have c3 := (blk_cell BK.out 3).trans (show _ = some (Value.string ⟨#[97]⟩) from rfl); have c4 := (blk_cell BK.out 4).trans (show _ = some (Value.string ⟨#[]⟩) from rfl); have c5 := (blk_cell BK.out 5).trans (show _ = some (Value.int .i64 0) from rfl); have c6 := (blk_cell BK.out 6).trans (show _ = some (Value.int .i64 0) from rfl))
    | (go_at_call 11; go_loud (refine (decorumref01_Held.calls 1 1 _ H1.out).mono ?_; rintro e w1 ⟨rfl, b0⟩; have b1 := b0.below; have HB' := Aside0.mk (HB.out.trans (b1.mono HB.out.size)); clear HB b1 b0; have HB := HB'; clear HB'))
    | ((with_reducible refine gate_builtin (b := .append) (xs := #[.tmp 36, .tmp 40]) rfl ?_); go_loud (refine gate_guard (by rfl) ?_; refine Kd.R_append k28 (w0 := W) W.heap.size rfl (.tmp 36) (.tmp 40) 22 28 _ 72 rfl Try.underlying22 info28 rfl (by decide) (by decide) (.slice (some ⟨W.heap.size, 0, none⟩) 3 3) evs ev1 [.int .i64 1, .int .i64 5, .int .i64 1, .string ⟨#[97]⟩, .string ⟨#[]⟩, .int .i64 0, .int .i64 0] (fun _ => True) (fun k => False) rfl rfl M1 (fun _ h => h.elim) (fun _ _ => trivial) HO.out HB.out HB.out.size (by decide) ?_; intro v1 w1 HO1 hb1 hg1 hat1; clear c0 c1 c2 c3 c4 c5 c6; have h4 : ∃ A1 k1, v1 = .slice A1 4 k1 := Kd.R_slice HO1; obtain ⟨A1, k1, e4⟩ := h4; subst e4; have HO4 := Aside0.mk HO1; clear HO BK HB; have HB := Aside0.mk hb1; clear hb1 hg1 hat1)))
  go_ret
  exact ⟨rfl, HB.out⟩
end Go.Proofs.Ytaggkdnnnmbblaa.Given
