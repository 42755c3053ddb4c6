/- policy's functions, walked: least, Knows, New. -/
import Derived.Test.YtdmebkdikminjaaGivA
namespace Go.Proofs.Ytdmebkdikminjaa.Given
open Go.RowKit Go.Proofs.Ytdmebkdikminjaa.QBase Go.Proofs.YtdmebkdikminjaaW.PrintWords Go.Proofs.YtdmebkdikminjaaW.PrintLast Go.Proofs.YtdmebkdikminjaaW.PrintMore
set_option linter.unusedVariables false
set_option linter.unusedSimpArgs false
attribute [local go_sem] max2_int min2_int max_two min_two max_three min_three max_four min_four
theorem cc0 (c : Cfg) : c.cells[0]? = some (.int .i64 c.c0) := rfl
theorem cc1 (c : Cfg) : c.cells[1]? = some (.int .i64 c.c1) := rfl
theorem cc2 (c : Cfg) : c.cells[2]? = some (.int .i64 c.c2) := rfl
theorem cc3 (c : Cfg) : c.cells[3]? = some (.int .i64 c.c3) := rfl
theorem cc4 (c : Cfg) : c.cells[4]? = some (.int .i64 c.floor) := rfl
theorem cc5 (c : Cfg) : c.cells[5]? = some (.int .i64 c.cap) := rfl
theorem cc6 (c : Cfg) : c.cells[6]? = some (.int .i64 c.base) := rfl
theorem cc7 (c : Cfg) : c.cells[7]? = some (.int .i64 c.most) := rfl
theorem cc8 (c : Cfg) : c.cells[8]? = some (.int .i64 c.brk) := rfl
theorem cc9 (c : Cfg) : c.cells[9]? = some (.int .i64 c.opn) := rfl
theorem cc10 (c : Cfg) : c.cells[10]? = some (.int .i64 c.c10) := rfl
theorem cc11 (c : Cfg) : c.cells[11]? = some (.int .i64 c.c11) := rfl
theorem cc12 (c : Cfg) : c.cells[12]? = some (.int .i64 c.keep) := rfl
theorem cc13 (c : Cfg) : c.cells[13]? = some (.string c.agent) := rfl
theorem ccs (c : Cfg) : c.cells.size = 14 := rfl
attribute [local go_sem high] cc0 cc1 cc2 cc3 cc4 cc5 cc6 cc7 cc8 cc9 cc10 cc11 cc12 cc13 pc0 pc1 pc2 pc3 pc4 pc5 pc6 pc7 pc8 pc9 pc10 pc11 pc12 pc13 ps0 ps1 ps2 ps3 ps4 ps5 ps6 ps7 ps8 ps9 ps10 ps11 ps12 ps13 pcs ccs

theorem ret_int {k : IntKind} {a b : Int} (h : a = b) : Ending.returned (.int k a) = Ending.returned (.int k b) := by rw [h]
set_option maxHeartbeats 8000000 in
set_option maxRecDepth 100000 in
theorem knows_calls (p : Pol) (now : Int) (W : World) : Calls Try.prog 17 #[.agg p.cells, .int .i64 now] W fun e w' => e = .returned (.bool (decide (now < p.known))) ∧ Below W.heap.size W w' := by
  go_enter Try.func17, Try.ntmps17
  go_wp2
  go_ret
  exact ⟨by first | rfl | simp, (Below.refl _ _).alloc (Nat.le_refl _) _⟩
set_option maxHeartbeats 8000000 in
set_option maxRecDepth 100000 in
theorem least_calls (cf : Cfg) (p : Pol) (W : World) : Calls Try.prog 30 #[.agg cf.cells, .agg p.cells] W fun e w' => e = .returned (.int .i64 (leastP cf p)) ∧ Below W.heap.size W w' := by
  go_enter Try.func30, Try.ntmps30
  go_wp2
  all_goals
    go_ret
    exact ⟨ret_int (by unfold leastP mx; omega), ((Below.refl _ _).alloc (Nat.le_refl _) _).alloc (by simp) _⟩
set_option maxHeartbeats 8000000 in
set_option maxRecDepth 100000 in
theorem new_calls (floor until_ : Int) (W : World) : Calls Try.prog 20 #[.int .i64 floor, .int .i64 until_] W fun e w' => e = .returned (.agg (newP floor until_).cells) ∧ Below W.heap.size W w' := by
  go_enter Try.func20, Try.ntmps20
  go_wp2
  all_goals
    refine bodyPost_ret (v := .agg (newP floor until_).cells) ?_ rfl ⟨rfl, (Below.refl _ _).alloc (Nat.le_refl _) _⟩
  · have e : newP floor until_ = ⟨-1, 0, 0, 0, 0, 0, until_, 0, 0, 0, false, false, .none, 0, 0, 0⟩ := by
      unfold newP mx
      congr 1
      omega
    rw [e]
    simp [results, Try.results20, go_sem]
    rfl
  · have e : newP floor until_ = ⟨-1, floor, 0, 0, 0, 0, until_, 0, 0, 0, false, false, .none, 0, 0, 0⟩ := by
      unfold newP mx
      congr 1
      omega
    rw [e]
    simp [results, Try.results20, go_sem]
    rfl
end Go.Proofs.Ytdmebkdikminjaa.Given
