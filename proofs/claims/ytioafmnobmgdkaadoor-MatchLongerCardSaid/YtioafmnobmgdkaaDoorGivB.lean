/- pct's functions all and width: what they answer. -/
import Derived.Test.YtioafmnobmgdkaaDoorGivA
import Derived.BigCall
namespace Go.Proofs.YtioafmnobmgdkaaDoor.Given
open Go.RowKit Go.Proofs.YtioafmnobmgdkaaDoor.QBase Go.Proofs.YtioafmnobmgdkaaDoorW.PrintWords Go.Proofs.YtioafmnobmgdkaaDoorW.PrintLast
set_option linter.unusedVariables false

theorem isB_below {T e : TypeId} {B b : Nat} {bs : List Value} {W W' : World} (h : Lib.IsBuilderF T e B b bs W) (hb : Below W.heap.size W W') : Lib.IsBuilderF T e B b bs W' := by
  have one : ∀ p : Value, Lib.BuilderAtF T e B b p bs W → Lib.BuilderAtF T e B b p bs W' := by
    rintro p h
    have hlt := h.lt
    obtain ⟨hB, v, hv, hown, hne⟩ := h
    exact ⟨hB, v, (hb.block b hlt).trans hv, hown.kept (row := none) ⟨hb.os, hb.tape, hb.output, hb.size, fun k hk _ => hb.block k hk⟩ (Classical.em _), hne⟩
  exact h.elim (fun x => .inl (one _ x)) (fun x => .inr (one _ x))

def codeAll (l : List UInt8) : List UInt8 := l.flatMap codeB
theorem codeAll_length (l : List UInt8) : (codeAll l).length = 3 * l.length := by
  induction l with
  | nil => rfl
  | cons c t ih => simp only [codeAll, List.flatMap_cons, List.length_append, codeB_length, List.length_cons] at *; omega
theorem codeAll_snoc (l : List UInt8) (i : Nat) (h : i < l.length) : codeAll (l.take (i + 1)) = codeAll (l.take i) ++ codeB l[i] := by
  rw [List.take_add_one, List.getElem?_eq_getElem h]; simp only [codeAll, List.flatMap_append, Option.toList_some, List.flatMap_cons, List.flatMap_nil, List.append_nil]

set_option maxHeartbeats 4000000 in
set_option maxRecDepth 1000000 in
theorem all_calls (s : ByteArray) (w : World) (hs : s.size ≤ 1099511627776) :
    Calls Tryd.prog 34 #[.string s] w fun e w' => e = .returned (.string ⟨(codeAll s.data.toList).toArray⟩) ∧ Below w.heap.size w w' := by
  go_enter Tryd.func34, Tryd.ntmps34
  go_wp2
  go_loopw [7] (fun v wr => ∃ k : Nat, k ≤ s.size ∧ v = .int .i64 k ∧ Lib.IsBuilderF 44 5 w.heap.size w.heap.size (Lib.byteCells (codeAll (s.data.toList.take k))) wr ∧ Below w.heap.size w wr) (fun v wr => s.size - (intOf v).toNat)
  case atStart =>
    refine ⟨0, by omega, rfl, (Lib.IsBuilderF.of (Lib.fresh_isBuilder 44 5 w)), (Below.refl _ w).alloc (Nat.le_refl _) _⟩
  case round =>
    obtain ⟨k, hk, rfl, hI, hbw⟩ := hrel
    have hsz := hbw.size
    by_cases hlt : k < s.size
    · have hlt' : ((k : Int) < (s.size : Int)) = True := eq_true (by omega)
      have hx : (s[k]'hlt) = s.data.toList[k]'(by simpa using hlt) := by simp; rfl
      have h3 : ∀ c : UInt8, (Lib.byteCells (codeAll (s.data.toList.take k))).length + ByteArray.size ⟨(codeB c).toArray⟩ ≤ 140737488355328 := by
        intro c
        rw [Lib.byteCells_length, codeAll_length]
        have := List.length_take_le k s.data.toList
        show 3 * _ + 3 ≤ _
        omega
      go_wp2_with (first
        | (go_at_call 31; refine (coded_calls _ _).mono ?_; rintro e w1 ⟨rfl, hb1⟩)
        | (go_at_call 30; refine (Tryd.Builder_WriteString_k w.heap.size w.heap.size _ _ _ (isB_below hI hb1) (h3 _) (Nat.le_trans hsz hb1.size)).mono ?_; rintro e W1 ⟨rfl, h1, b1, k1⟩))
      go_roundw
      case rel =>
        refine ⟨k + 1, by omega, by go_num, ?_, hbw.trans ((hb1.mono hsz).trans b1)⟩
        rw [codeAll_snoc _ k (by simpa using hlt), Lib.byteCells_append, ← hx]
        exact Or.inr h1
      case measure =>
        simp [intOf]; omega
    · have hlt' : ((k : Int) < (s.size : Int)) = False := eq_false (by omega)
      obtain rfl : k = s.size := by omega
      have ht : s.data.toList.take s.size = s.data.toList := List.take_of_length_le (by simp)
      rw [ht] at hI
      go_wp2_with (go_at_call 36; refine (Tryd.Builder_String_any_k w.heap.size w.heap.size _ _ hI hsz).mono ?_)
      rintro e W1 ⟨rfl, _, b1, _⟩
      go_wp2
      go_ret
      exact ⟨rfl, hbw.trans b1⟩

/-- A sign's bytes lie in the text; those of one beyond ASCII are 128 or more. -/
theorem dec_in (s : ByteArray) (pos : Nat) (h : pos < s.size) :
    1 ≤ (Utf8.decode s pos).2 ∧ pos + (Utf8.decode s pos).2 ≤ s.size ∧ (128 ≤ (s.get! pos).toNat → ∀ i, i < (Utf8.decode s pos).2 → 128 ≤ (s.get! (pos + i)).toNat) := by
  unfold Utf8.decode
  simp only [Nat.add_zero, Bool.and_eq_true, decide_eq_true_eq, beq_iff_eq]
  have one : ∀ x : Nat, 1 ≤ (x, 1).2 ∧ pos + (x, 1).2 ≤ s.size ∧ (128 ≤ (s.get! pos).toNat → ∀ i, i < (x, 1).2 → 128 ≤ (s.get! (pos + i)).toNat) := by
    intro x
    refine ⟨Nat.le_refl _, by simp; omega, fun h1 i hi => ?_⟩
    obtain rfl : i = 0 := by simp at hi; omega
    exact h1
  split
  · exact one _
  split
  · rename_i hc
    split
    · refine ⟨by simp, by simp; omega, fun h1 i hi => ?_⟩
      simp only at hi
      rcases (by omega : i = 0 ∨ i = 1) with rfl | rfl
      · exact h1
      · omega
    · exact one _
  split
  · rename_i hc
    split
    · refine ⟨by simp, by simp; omega, fun h1 i hi => ?_⟩
      simp only at hi
      rcases (by omega : i = 0 ∨ i = 1 ∨ i = 2) with rfl | rfl | rfl
      · exact h1
      · omega
      · omega
    · exact one _
  split
  · rename_i hc
    split
    · refine ⟨by simp, by simp; omega, fun h1 i hi => ?_⟩
      simp only at hi
      rcases (by omega : i = 0 ∨ i = 1 ∨ i = 2 ∨ i = 3) with rfl | rfl | rfl | rfl
      · exact h1
      · omega
      · omega
      · omega
    · exact one _
  · exact one _
theorem dec_pos (s : ByteArray) (pos : Nat) (h : pos < s.size) : 1 ≤ (Utf8.decode s pos).2 := (dec_in s pos h).1

set_option maxHeartbeats 4000000 in
set_option maxRecDepth 1000000 in
theorem width_calls (s : ByteArray) (w : World) (h0 : 0 < s.size) (hs : s.size ≤ 1099511627776) :
    Calls Tryd.prog 35 #[.string s] w fun e w' => e = .returned (.int .i64 ((Utf8.decode s 0).2 : Int)) ∧ Below w.heap.size w w' := by
  have hd0 := dec_pos s 0 h0
  have hd1 := (dec_in s 0 h0).2.1
  go_enter Tryd.func35, Tryd.ntmps35
  go_wp2
  go_loopw [] (fun wr => ∃ pos : Nat, wr.heap[w.heap.size]? = some (.stringIter s pos) ∧ Below w.heap.size w wr ∧ (pos = 0 ∨ pos = (Utf8.decode s 0).2)) (fun wr => s.size - wr.iterPos w.heap.size)
  case atStart =>
    refine ⟨0, ?_, (Below.refl _ w).alloc (by simp) _, .inl rfl⟩
    exact World.iter_heap w s 0
  case round =>
    obtain ⟨pos, hit, hbw, hp0⟩ := hrel
    have hsz : w.heap.size < wr.heap.size := (Array.getElem?_eq_some_iff.1 hit).1
    by_cases hp : pos < s.size
    · have hnx : ∀ ty, (Instr.next (.pointer (some ⟨w.heap.size, 0, none⟩)) true ty).run Tryd.prog wr = _ := fun ty => Lib.run_next_any_at wr (w.heap.size) s pos ty hit hp
      have hwd := dec_pos s pos hp
      have hit2 := Lib.iterAt_heap wr (w.heap.size) s pos (pos + (Utf8.decode s pos).2) hit
      have hbw2 := Lib.below_iterAt hbw (k := w.heap.size) (Nat.le_refl _) s (pos + (Utf8.decode s pos).2)
      by_cases hz : pos = 0
      · subst hz
        rw [Nat.zero_add] at hit2 hbw2
        go_wp2
        go_roundw
        case rel =>
          exact ⟨_, hit2, hbw2, .inr rfl⟩
        case measure =>
          simp only [World.iterPos, hit2, hit]
          omega
      · obtain rfl : pos = (Utf8.decode s 0).2 := by omega
        have hgt : ((0 : Int) < (((Utf8.decode s 0).2 : Nat) : Int)) = True := eq_true (by omega)
        go_wp2
        go_ret
        exact ⟨rfl, hbw2⟩
    · have hnx : ∀ ty, (Instr.next (.pointer (some ⟨w.heap.size, 0, none⟩)) true ty).run Tryd.prog wr = _ := fun ty => Lib.run_next_end_at wr (w.heap.size) s pos ty hit hp
      have he : (s.size : Int) = ((Utf8.decode s 0).2 : Int) := by omega
      go_wp2
      go_ret
      exact ⟨by rw [← he]; rfl, hbw⟩

end Go.Proofs.YtioafmnobmgdkaaDoor.Given
