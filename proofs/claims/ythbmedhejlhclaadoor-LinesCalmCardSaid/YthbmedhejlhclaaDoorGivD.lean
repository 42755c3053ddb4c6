/- lines.Delay: what it answers. -/
import Derived.Test.YthbmedhejlhclaaDoorDec
import Derived.Test.YthbmedhejlhclaaDoorGivO
import Derived.BigCall
namespace Go.Proofs.YthbmedhejlhclaaDoor.Given
open Go.RowKit Go.Proofs.YthbmedhejlhclaaDoorW.PrintWords
set_option linter.unusedVariables false

theorem Hid.mk_ {p : Prop} (h : p) : Hid p := h
def digB (c : UInt8) : Bool := decide (48 ≤ c.toNat) && decide (c.toNat ≤ 57)
def stepV (n : Nat) (c : UInt8) : Nat := 10 * n + (c.toNat - 48)
def numV (n : Nat) (l : List UInt8) : Nat := l.foldl stepV n
theorem numV_nil (n : Nat) : numV n [] = n := by unfold numV; rw [List.foldl_nil]
theorem numV_cons (n : Nat) (c : UInt8) (t : List UInt8) : numV n (c :: t) = numV (stepV n c) t := by unfold numV; rw [List.foldl_cons]
theorem stepV_eq (n : Nat) (c : UInt8) : stepV n c = 10 * n + (c.toNat - 48) := by unfold stepV; exact Eq.refl _
/-- Milliseconds of a text, in its parts. -/
def delayP (a b : List UInt8) (d : Bool) : Nat × Bool :=
  if (a ++ b).isEmpty || decide (9 < a.length) || (d && b.isEmpty) then (0, false) else if (a ++ b).all digB then (numV 0 (a ++ (b ++ [48, 48, 48]).take 3), true) else (0, false)
def delayV (l : List UInt8) : Nat × Bool := delayP (Lib.cut l [46]).1 (Lib.cut l [46]).2.1 (Lib.cut l [46]).2.2

theorem numV_snoc (n : Nat) (l : List UInt8) (c : UInt8) : numV n (l ++ [c]) = 10 * numV n l + (c.toNat - 48) := by
  unfold numV
  rw [List.foldl_append, List.foldl_cons, List.foldl_nil, stepV_eq]
theorem numV_lt1 (l : List UInt8) (h : ∀ c ∈ l, digB c = true) : ∀ n, numV n l < (n + 1) * 10 ^ l.length := by
  induction l with
  | nil => intro n; rw [numV_nil]; simp
  | cons c t ih =>
    intro n
    have h1 := ih (fun d hd => h d (List.mem_cons_of_mem _ hd)) (stepV n c)
    have h2 : c.toNat ≤ 57 := by have := h c (List.mem_cons_self ..); simp [digB] at this; exact this.2
    rw [numV_cons, List.length_cons, Nat.pow_succ]
    refine Nat.lt_of_lt_of_le h1 ?_
    rw [stepV_eq]
    rw [Nat.mul_comm (10 ^ t.length) 10, ← Nat.mul_assoc]
    exact Nat.mul_le_mul_right _ (by omega)
theorem numV_lt (l : List UInt8) (h : ∀ c ∈ l, digB c = true) (m : Nat) (hl : l.length ≤ m) : numV 0 l < 10 ^ m := by
  have := numV_lt1 l h 0
  rw [Nat.zero_add, Nat.one_mul] at this
  exact Nat.lt_of_lt_of_le this (Nat.pow_le_pow_right (by decide) hl)
theorem cut_room (l sep : List UInt8) : (Lib.cut l sep).1.length + (Lib.cut l sep).2.1.length ≤ l.length := by
  unfold Lib.cut
  split
  · simp; omega
  · simp

set_option maxHeartbeats 4000000 in
set_option maxRecDepth 1000000 in
theorem delay_calls (s : ByteArray) (w : World) (hs : s.size < 4294967281) (hS : Shp w) :
    Calls Tryd.prog 13 #[.string s] w fun e w' => e = .returned (.tuple #[.int .i64 ((delayV s.data.toList).1 : Int), .bool (delayV s.data.toList).2]) ∧ Below w.heap.size w w' := by
  have hroom := cut_room s.data.toList [46]
  have HC : Aside0 (strings_Cut.f s ⟨#[46]⟩ = some (⟨(Lib.cut s.data.toList [46]).1.toArray⟩, ⟨(Lib.cut s.data.toList [46]).2.1.toArray⟩, (Lib.cut s.data.toList [46]).2.2)) := ⟨by
    rw [strings_Cut.f, if_pos hs]⟩
  have HS := Aside0.mk hS
  clear hS
  unfold delayV
  generalize (Lib.cut s.data.toList [46]).1 = a at *
  generalize (Lib.cut s.data.toList [46]).2.1 = b at *
  generalize (Lib.cut s.data.toList [46]).2.2 = d at *
  have hA : ∃ A : ByteArray, A = ⟨a.toArray⟩ := ⟨_, rfl⟩
  have hB : ∃ B : ByteArray, B = ⟨b.toArray⟩ := ⟨_, rfl⟩
  obtain ⟨A, hA⟩ := hA
  obtain ⟨B, hB⟩ := hB
  rw [← hA, ← hB] at HC
  have ha : a = A.data.toList := by rw [hA]
  have hb : b = B.data.toList := by rw [hB]
  subst ha hb
  clear hA hB
  have hsum : (9223372036854775807 < A.size + B.size) = False := eq_false (by simp at hroom; omega)
  have hsl : A.data.toList.length = A.size ∧ B.data.toList.length = B.size := by simp
  have hnil : ((A ++ B).toList = []) = ((A.data.toList ++ B.data.toList) = []) := by rw [Lib.toList_data]; simp
  have hemp : (A ++ B).toList.isEmpty = (A.data.toList ++ B.data.toList).isEmpty := by rw [Lib.toList_data]; simp
  have hbm : B.toList.isEmpty = B.data.toList.isEmpty := by rw [Lib.toList_data]
  have hin : Hid _ := hroom
  clear hroom
  by_cases hE : A.data.toList ++ B.data.toList = []
  · have e1 : ((A ++ B).toList = []) = True := by rw [hnil]; exact eq_true hE
    have e2 : (A ++ B).toList.isEmpty = true := by rw [hemp, hE]; rfl
    have hv : delayP A.data.toList B.data.toList d = (0, false) := by unfold delayP; rw [hE]; rfl
    clear hnil hemp hbm hE
    go_enter Tryd.func13, Tryd.ntmps13
    go_wp2_with (first | (go_at_call 24; (with_reducible refine (strings_Cut.calls s ⟨#[46]⟩ A B d _ HC.out HS.out).mono ?_); rintro e w' ⟨rfl, ⟨nd, rfl⟩⟩))
    go_ret2
    rw [hv]
    exact ⟨rfl, pw_below_drewN (Below.refl _ _) _⟩
  have e1 : ((A ++ B).toList = []) = False := by rw [hnil]; exact eq_false hE
  have e2 : (A ++ B).toList.isEmpty = false := by rw [hemp]; simpa using hE
  have hE2 : (A.data.toList ++ B.data.toList).isEmpty = false := by simpa using hE
  clear hnil hemp hE
  by_cases h9 : 9 < A.size
  · have h9b : (9 < (A.size : Int)) = True := eq_true (by omega)
    have hv : delayP A.data.toList B.data.toList d = (0, false) := by unfold delayP; rw [hE2, hsl.1]; simp [h9]
    clear hbm hE2
    go_enter Tryd.func13, Tryd.ntmps13
    go_wp2_with (first | (go_at_call 24; (with_reducible refine (strings_Cut.calls s ⟨#[46]⟩ A B d _ HC.out HS.out).mono ?_); rintro e w' ⟨rfl, ⟨nd, rfl⟩⟩))
    go_ret2
    rw [hv]
    exact ⟨rfl, pw_below_drewN (Below.refl _ _) _⟩
  have h9b : (9 < (A.size : Int)) = False := eq_false (by omega)
  by_cases hd : d = true ∧ B.data.toList.isEmpty = true
  · obtain ⟨rfl, hbe⟩ := hd
    rw [hbe] at hbm
    have hv : delayP A.data.toList B.data.toList true = (0, false) := by unfold delayP; rw [hE2, hsl.1, hbe]; simp [h9]
    clear hE2 hbe
    go_enter Tryd.func13, Tryd.ntmps13
    go_wp2_with (first | (go_at_call 24; (with_reducible refine (strings_Cut.calls s ⟨#[46]⟩ A B true _ HC.out HS.out).mono ?_); rintro e w' ⟨rfl, ⟨nd, rfl⟩⟩))
    go_ret2
    rw [hv]
    exact ⟨rfl, pw_below_drewN (Below.refl _ _) _⟩
  have hv : delayP A.data.toList B.data.toList d = if (A.data.toList ++ B.data.toList).all digB then (numV 0 (A.data.toList ++ (B.data.toList ++ [48, 48, 48]).take 3), true) else (0, false) := by
    unfold delayP
    rw [hE2, hsl.1, if_neg]
    simp only [Bool.false_or, Bool.or_eq_true, decide_eq_true_eq, Bool.and_eq_true]
    rintro (h | h)
    · exact h9 h
    · exact hd h
  have hv : Hid (delayP A.data.toList B.data.toList d = if (A.data.toList ++ B.data.toList).all digB then (numV 0 (A.data.toList ++ (B.data.toList ++ [48, 48, 48]).take 3), true) else (0, false)) := hv
  have hd2 : (d = true ∧ B.data.toList.isEmpty = false) ∨ d = false := by
    cases d with
    | false => exact .inr rfl
    | true =>
      refine .inl ⟨rfl, ?_⟩
      cases hbe : B.data.toList.isEmpty with
      | false => rfl
      | true => exact absurd ⟨rfl, hbe⟩ hd
  clear hd hE2
  rcases hd2 with ⟨rfl, hbe⟩ | rfl
  · rw [hbe] at hbm
    go_enter Tryd.func13, Tryd.ntmps13
    go_wp2_with (first | (go_at_call 24; (with_reducible refine (strings_Cut.calls s ⟨#[46]⟩ A B true _ HC.out HS.out).mono ?_); rintro e w' ⟨rfl, ⟨nd, rfl⟩⟩))
    generalize hT : A ++ B = T at *
    have hTl : T.data.toList = A.data.toList ++ B.data.toList := by rw [← hT]; simp
    have hTs : T.size = A.size + B.size := by rw [← hT]; simp [ByteArray.size_append]
    have hTl := Hid.mk_ hTl
    clear hT
    go_loopw [] (fun wr => ∃ pos : Nat, wr.heap[w.heap.size]? = some (.stringIter T pos) ∧ Hid (Below w.heap.size w wr) ∧ pos ≤ T.size ∧ Hid (∀ j (h : j < T.data.toList.length), j < pos → digB (T.data.toList[j]) = true)) (fun wr => T.size - wr.iterPos w.heap.size)
    case atStart =>
      refine ⟨0, World.iter_heap (w.drewN nd) T 0, ?_, by omega, ?_⟩
      · exact (pw_below_drewN (Below.refl _ w) nd).alloc (Nat.le_refl _) _
      · intro j h hj; omega
    case round =>
      obtain ⟨pos, hit, hbw, hp0, hdig⟩ := hrel
      have hsz : w.heap.size < wr.heap.size := (Array.getElem?_eq_some_iff.1 hit).1
      by_cases hp : pos < T.size
      · have hpl : pos < T.data.toList.length := by simpa using hp
        have hgt := get_list T pos hp
        by_cases hdg : digB (T.data.toList[pos]) = true
        · have hr : 48 ≤ (T[pos]'hp).toNat ∧ (T[pos]'hp).toNat ≤ 57 := by
            have e : T[pos]'hp = T.data.toList[pos]'hpl := by simp; rfl
            rw [e]
            simpa [digB] using hdg
          have hnx : ∀ ty, (Instr.next (.pointer (some ⟨w.heap.size, 0, none⟩)) true ty).run Tryd.prog wr = _ := fun ty => Lib.run_next_ascii_at wr (w.heap.size) T pos ty hit hp (by omega)
          have hit2 := Lib.iterAt_heap wr (w.heap.size) T pos (pos + 1) hit
          have hbw2 : Hid _ := Lib.below_iterAt hbw.out (k := w.heap.size) (Nat.le_refl _) T (pos + 1)
          have g1 : (((T[pos]'hp).toNat : Int) < 48) = False := eq_false (by omega)
          have g2 : (57 < ((T[pos]'hp).toNat : Int)) = False := eq_false (by omega)
          have hdig2 : Hid (∀ j (h : j < T.data.toList.length), j < pos + 1 → digB (T.data.toList[j]) = true) := by
            intro j h hj
            by_cases e : j = pos
            · subst e; exact hdg
            · exact hdig.out j h (by omega)
          clear hdig hdg hgt hr hbw
          go_wp2
          go_roundw
          case rel => exact ⟨pos + 1, hit2, hbw2, by omega, hdig2⟩
          case measure =>
            simp only [World.iterPos, hit2, hit]
            omega
        · have hres : (A.data.toList ++ B.data.toList).all digB = false := by
            rw [← hTl.out]
            apply Bool.eq_false_iff.mpr
            intro h
            exact hdg (List.all_eq_true.mp h _ (List.getElem_mem hpl))
          have hv2 := hv.out
          rw [if_neg (show ¬ ((A.data.toList ++ B.data.toList).all digB = true) by rw [hres]; decide)] at hv2
          have hv2 : Hid _ := hv2
          clear hdig hres hv
          have key : (((Utf8.decode T pos).1 : Int) < 48) = True ∨ ((((Utf8.decode T pos).1 : Int) < 48) = False ∧ (57 < ((Utf8.decode T pos).1 : Int)) = True) := by
            by_cases hbig : 128 ≤ (T.get! pos).toNat
            · have := dec_big T pos hbig
              exact .inr ⟨eq_false (by omega), eq_true (by omega)⟩
            · have e1 : (T[pos]'hp).toNat = (T.get! pos).toNat := by rw [hgt]; simp; rfl
              have e2 := decode_ascii T pos hp (by omega)
              rw [e2, e1]
              rw [hgt] at hbig ⊢
              simp [digB] at hdg
              by_cases h48 : 48 ≤ (T.data.toList[pos]).toNat
              · have := hdg (by simpa using h48)
                exact .inr ⟨eq_false (by simp; simp at h48; omega), eq_true (by simp; omega)⟩
              · exact .inl (eq_true (by simp; simp at h48; omega))
          have hnx : ∀ ty, (Instr.next (.pointer (some ⟨w.heap.size, 0, none⟩)) true ty).run Tryd.prog wr = _ := fun ty => Lib.run_next_any_at wr (w.heap.size) T pos ty hit hp
          have hbw2 := Lib.below_iterAt hbw.out (k := w.heap.size) (Nat.le_refl _) T (pos + (Utf8.decode T pos).2)
          have hbw2 : Hid _ := hbw2
          clear hdg hgt hbw
          rcases key with g1 | ⟨g1, g2⟩
          · go_wp2
            go_ret2
            rw [hv2.out]
            exact ⟨rfl, hbw2.out⟩
          · go_wp2
            go_ret2
            rw [hv2.out]
            exact ⟨rfl, hbw2.out⟩
      · obtain rfl : pos = T.size := by omega
        have hnx : ∀ ty, (Instr.next (.pointer (some ⟨w.heap.size, 0, none⟩)) true ty).run Tryd.prog wr = _ := fun ty => Lib.run_next_end_at wr (w.heap.size) T T.size ty hit hp
        have hall : (A.data.toList ++ B.data.toList).all digB = true := by
          rw [← hTl.out]
          refine List.all_eq_true.mpr fun c hc => ?_
          obtain ⟨j, hj, rfl⟩ := List.getElem_of_mem hc
          exact hdig.out j hj (by simpa using hj)
        have hv2 := hv.out
        rw [if_pos hall] at hv2
        have hv2 : Hid _ := hv2
        have hdT : Hid (∀ c ∈ A.data.toList ++ B.data.toList, digB c = true) := fun c hc => List.all_eq_true.mp hall c hc
        clear hdig hv hall
        have hBs : B.size ≤ s.size := by have := hin.out; simp at this; omega
        have hs3 : (9223372036854775807 < B.size + 3) = False := eq_false (by omega)
        have hs4 : (9223372036854775807 < A.size + ((B ++ (⟨#[48, 48, 48]⟩ : ByteArray)).extract 0 3).size) = False := eq_false (by simp; omega)
        go_wp2
        have hUl : Hid ((A ++ (B ++ (⟨#[48, 48, 48]⟩ : ByteArray)).extract 0 3).data.toList = A.data.toList ++ (B.data.toList ++ [48, 48, 48]).take 3) := by
          show _ = _
          rw [show (A ++ (B ++ (⟨#[48, 48, 48]⟩ : ByteArray)).extract 0 3).data.toList = A.data.toList ++ ((B ++ (⟨#[48, 48, 48]⟩ : ByteArray)).extract 0 3).data.toList by simp, Lib.extract_from_zero]
          simp
        generalize A ++ (B ++ (⟨#[48, 48, 48]⟩ : ByteArray)).extract 0 3 = U at *
        have hUd : Hid (∀ c ∈ U.data.toList, digB c = true) := by
          show ∀ c ∈ U.data.toList, digB c = true
          rw [hUl.out]
          intro c hc
          rcases List.mem_append.mp hc with h | h
          · exact hdT.out c (List.mem_append_left _ h)
          · rcases List.mem_append.mp (List.mem_of_mem_take h) with h | h
            · exact hdT.out c (List.mem_append_right _ h)
            · simp at h; subst h; decide
        have hU12 : U.size ≤ 12 := by
          have := congrArg List.length hUl.out
          simp at this
          omega
        have hb2 : Hid (Below w.heap.size w (wr.iter U 0)) := hbw.out.alloc hbw.out.size _
        have hit2 := World.iter_heap wr U 0
        have hwr : w.heap.size ≤ wr.heap.size := hbw.out.size
        clear hit hnx hbw hs3 hs4 hin hBs
        generalize wr.iter U 0 = wx at *
        generalize wr.heap.size = b2 at *
        go_loopw [9] (fun v wr => ∃ pos : Nat, v = .int .i64 ((numV 0 (U.data.toList.take pos) : Nat) : Int) ∧ wr.heap[b2]? = some (.stringIter U pos) ∧ Hid (Below w.heap.size w wr) ∧ pos ≤ U.size) (fun v wr => U.size - wr.iterPos b2)
        case atStart => exact ⟨0, rfl, hit2, hb2, by omega⟩
        case round =>
          clear hb2 hit2
          obtain ⟨pos, rfl, hit, hbw, hp0⟩ := hrel
          by_cases hp : pos < U.size
          · have hpl : pos < U.data.toList.length := by simpa using hp
            have eU : U[pos]'hp = U.data.toList[pos]'hpl := by simp; rfl
            have hdg : digB (U[pos]'hp) = true := by rw [eU]; exact hUd.out _ (List.getElem_mem hpl)
            have hr : 48 ≤ (U[pos]'hp).toNat ∧ (U[pos]'hp).toNat ≤ 57 := by simpa [digB] using hdg
            have hnx : ∀ ty, (Instr.next (.pointer (some ⟨b2, 0, none⟩)) true ty).run Tryd.prog wr = _ := fun ty => Lib.run_next_ascii_at wr b2 U pos ty hit hp (by omega)
            have hit2 := Lib.iterAt_heap wr b2 U pos (pos + 1) hit
            have hbw2 : Hid _ := Lib.below_iterAt hbw.out (k := b2) hwr U (pos + 1)
            have hnb := numV_lt (U.data.toList.take pos) (fun c hc => hUd.out c (List.mem_of_mem_take hc)) 12 (by rw [List.length_take]; omega)
            have hnx2 : Hid (numV 0 (U.data.toList.take (pos + 1)) = 10 * numV 0 (U.data.toList.take pos) + ((U[pos]'hp).toNat - 48)) := by
              show _ = _
              rw [List.take_add_one, List.getElem?_eq_getElem hpl, eU]
              exact numV_snoc 0 _ _
            generalize numV 0 (U.data.toList.take pos) = n at *
            generalize (U[pos]'hp).toNat = c at *
            have f1 : wrap64 (10 * (n : Int)) = ((10 * n : Nat) : Int) := by simp only [wrap64]; omega
            have f2 : IntKind.i32.wrap ((c : Int) - 48) = ((c - 48 : Nat) : Int) := by simp [IntKind.wrap, IntKind.signed, IntKind.bits]; omega
            clear eU hdg hbw
            go_wp2
            go_roundw
            case rel =>
              refine ⟨pos + 1, ?_, hit2, hbw2, by omega⟩
              rw [hnx2.out]
              exact congrArg (Value.int IntKind.i64) (by omega)
            case measure =>
              simp only [World.iterPos, hit2, hit]
              omega
          · obtain rfl : pos = U.size := by omega
            have hnx : ∀ ty, (Instr.next (.pointer (some ⟨b2, 0, none⟩)) true ty).run Tryd.prog wr = _ := fun ty => Lib.run_next_end_at wr b2 U U.size ty hit hp
            go_wp2
            go_ret2
            rw [hv2.out, ← hUl.out]
            have : U.data.toList.take U.size = U.data.toList := List.take_of_length_le (by simp)
            rw [this]
            exact ⟨rfl, hbw.out⟩
  · go_enter Tryd.func13, Tryd.ntmps13
    go_wp2_with (first | (go_at_call 24; (with_reducible refine (strings_Cut.calls s ⟨#[46]⟩ A B false _ HC.out HS.out).mono ?_); rintro e w' ⟨rfl, ⟨nd, rfl⟩⟩))
    generalize hT : A ++ B = T at *
    have hTl : T.data.toList = A.data.toList ++ B.data.toList := by rw [← hT]; simp
    have hTs : T.size = A.size + B.size := by rw [← hT]; simp [ByteArray.size_append]
    have hTl := Hid.mk_ hTl
    clear hT
    go_loopw [] (fun wr => ∃ pos : Nat, wr.heap[w.heap.size]? = some (.stringIter T pos) ∧ Hid (Below w.heap.size w wr) ∧ pos ≤ T.size ∧ Hid (∀ j (h : j < T.data.toList.length), j < pos → digB (T.data.toList[j]) = true)) (fun wr => T.size - wr.iterPos w.heap.size)
    case atStart =>
      refine ⟨0, World.iter_heap (w.drewN nd) T 0, ?_, by omega, ?_⟩
      · exact (pw_below_drewN (Below.refl _ w) nd).alloc (Nat.le_refl _) _
      · intro j h hj; omega
    case round =>
      obtain ⟨pos, hit, hbw, hp0, hdig⟩ := hrel
      have hsz : w.heap.size < wr.heap.size := (Array.getElem?_eq_some_iff.1 hit).1
      by_cases hp : pos < T.size
      · have hpl : pos < T.data.toList.length := by simpa using hp
        have hgt := get_list T pos hp
        by_cases hdg : digB (T.data.toList[pos]) = true
        · have hr : 48 ≤ (T[pos]'hp).toNat ∧ (T[pos]'hp).toNat ≤ 57 := by
            have e : T[pos]'hp = T.data.toList[pos]'hpl := by simp; rfl
            rw [e]
            simpa [digB] using hdg
          have hnx : ∀ ty, (Instr.next (.pointer (some ⟨w.heap.size, 0, none⟩)) true ty).run Tryd.prog wr = _ := fun ty => Lib.run_next_ascii_at wr (w.heap.size) T pos ty hit hp (by omega)
          have hit2 := Lib.iterAt_heap wr (w.heap.size) T pos (pos + 1) hit
          have hbw2 : Hid _ := Lib.below_iterAt hbw.out (k := w.heap.size) (Nat.le_refl _) T (pos + 1)
          have g1 : (((T[pos]'hp).toNat : Int) < 48) = False := eq_false (by omega)
          have g2 : (57 < ((T[pos]'hp).toNat : Int)) = False := eq_false (by omega)
          have hdig2 : Hid (∀ j (h : j < T.data.toList.length), j < pos + 1 → digB (T.data.toList[j]) = true) := by
            intro j h hj
            by_cases e : j = pos
            · subst e; exact hdg
            · exact hdig.out j h (by omega)
          clear hdig hdg hgt hr hbw
          go_wp2
          go_roundw
          case rel => exact ⟨pos + 1, hit2, hbw2, by omega, hdig2⟩
          case measure =>
            simp only [World.iterPos, hit2, hit]
            omega
        · have hres : (A.data.toList ++ B.data.toList).all digB = false := by
            rw [← hTl.out]
            apply Bool.eq_false_iff.mpr
            intro h
            exact hdg (List.all_eq_true.mp h _ (List.getElem_mem hpl))
          have hv2 := hv.out
          rw [if_neg (show ¬ ((A.data.toList ++ B.data.toList).all digB = true) by rw [hres]; decide)] at hv2
          have hv2 : Hid _ := hv2
          clear hdig hres hv
          have key : (((Utf8.decode T pos).1 : Int) < 48) = True ∨ ((((Utf8.decode T pos).1 : Int) < 48) = False ∧ (57 < ((Utf8.decode T pos).1 : Int)) = True) := by
            by_cases hbig : 128 ≤ (T.get! pos).toNat
            · have := dec_big T pos hbig
              exact .inr ⟨eq_false (by omega), eq_true (by omega)⟩
            · have e1 : (T[pos]'hp).toNat = (T.get! pos).toNat := by rw [hgt]; simp; rfl
              have e2 := decode_ascii T pos hp (by omega)
              rw [e2, e1]
              rw [hgt] at hbig ⊢
              simp [digB] at hdg
              by_cases h48 : 48 ≤ (T.data.toList[pos]).toNat
              · have := hdg (by simpa using h48)
                exact .inr ⟨eq_false (by simp; simp at h48; omega), eq_true (by simp; omega)⟩
              · exact .inl (eq_true (by simp; simp at h48; omega))
          have hnx : ∀ ty, (Instr.next (.pointer (some ⟨w.heap.size, 0, none⟩)) true ty).run Tryd.prog wr = _ := fun ty => Lib.run_next_any_at wr (w.heap.size) T pos ty hit hp
          have hbw2 := Lib.below_iterAt hbw.out (k := w.heap.size) (Nat.le_refl _) T (pos + (Utf8.decode T pos).2)
          have hbw2 : Hid _ := hbw2
          clear hdg hgt hbw
          rcases key with g1 | ⟨g1, g2⟩
          · go_wp2
            go_ret2
            rw [hv2.out]
            exact ⟨rfl, hbw2.out⟩
          · go_wp2
            go_ret2
            rw [hv2.out]
            exact ⟨rfl, hbw2.out⟩
      · obtain rfl : pos = T.size := by omega
        have hnx : ∀ ty, (Instr.next (.pointer (some ⟨w.heap.size, 0, none⟩)) true ty).run Tryd.prog wr = _ := fun ty => Lib.run_next_end_at wr (w.heap.size) T T.size ty hit hp
        have hall : (A.data.toList ++ B.data.toList).all digB = true := by
          rw [← hTl.out]
          refine List.all_eq_true.mpr fun c hc => ?_
          obtain ⟨j, hj, rfl⟩ := List.getElem_of_mem hc
          exact hdig.out j hj (by simpa using hj)
        have hv2 := hv.out
        rw [if_pos hall] at hv2
        have hv2 : Hid _ := hv2
        have hdT : Hid (∀ c ∈ A.data.toList ++ B.data.toList, digB c = true) := fun c hc => List.all_eq_true.mp hall c hc
        clear hdig hv hall
        have hBs : B.size ≤ s.size := by have := hin.out; simp at this; omega
        have hs3 : (9223372036854775807 < B.size + 3) = False := eq_false (by omega)
        have hs4 : (9223372036854775807 < A.size + ((B ++ (⟨#[48, 48, 48]⟩ : ByteArray)).extract 0 3).size) = False := eq_false (by simp; omega)
        go_wp2
        have hUl : Hid ((A ++ (B ++ (⟨#[48, 48, 48]⟩ : ByteArray)).extract 0 3).data.toList = A.data.toList ++ (B.data.toList ++ [48, 48, 48]).take 3) := by
          show _ = _
          rw [show (A ++ (B ++ (⟨#[48, 48, 48]⟩ : ByteArray)).extract 0 3).data.toList = A.data.toList ++ ((B ++ (⟨#[48, 48, 48]⟩ : ByteArray)).extract 0 3).data.toList by simp, Lib.extract_from_zero]
          simp
        generalize A ++ (B ++ (⟨#[48, 48, 48]⟩ : ByteArray)).extract 0 3 = U at *
        have hUd : Hid (∀ c ∈ U.data.toList, digB c = true) := by
          show ∀ c ∈ U.data.toList, digB c = true
          rw [hUl.out]
          intro c hc
          rcases List.mem_append.mp hc with h | h
          · exact hdT.out c (List.mem_append_left _ h)
          · rcases List.mem_append.mp (List.mem_of_mem_take h) with h | h
            · exact hdT.out c (List.mem_append_right _ h)
            · simp at h; subst h; decide
        have hU12 : U.size ≤ 12 := by
          have := congrArg List.length hUl.out
          simp at this
          omega
        have hb2 : Hid (Below w.heap.size w (wr.iter U 0)) := hbw.out.alloc hbw.out.size _
        have hit2 := World.iter_heap wr U 0
        have hwr : w.heap.size ≤ wr.heap.size := hbw.out.size
        clear hit hnx hbw hs3 hs4 hin hBs
        generalize wr.iter U 0 = wx at *
        generalize wr.heap.size = b2 at *
        go_loopw [9] (fun v wr => ∃ pos : Nat, v = .int .i64 ((numV 0 (U.data.toList.take pos) : Nat) : Int) ∧ wr.heap[b2]? = some (.stringIter U pos) ∧ Hid (Below w.heap.size w wr) ∧ pos ≤ U.size) (fun v wr => U.size - wr.iterPos b2)
        case atStart => exact ⟨0, rfl, hit2, hb2, by omega⟩
        case round =>
          clear hb2 hit2
          obtain ⟨pos, rfl, hit, hbw, hp0⟩ := hrel
          by_cases hp : pos < U.size
          · have hpl : pos < U.data.toList.length := by simpa using hp
            have eU : U[pos]'hp = U.data.toList[pos]'hpl := by simp; rfl
            have hdg : digB (U[pos]'hp) = true := by rw [eU]; exact hUd.out _ (List.getElem_mem hpl)
            have hr : 48 ≤ (U[pos]'hp).toNat ∧ (U[pos]'hp).toNat ≤ 57 := by simpa [digB] using hdg
            have hnx : ∀ ty, (Instr.next (.pointer (some ⟨b2, 0, none⟩)) true ty).run Tryd.prog wr = _ := fun ty => Lib.run_next_ascii_at wr b2 U pos ty hit hp (by omega)
            have hit2 := Lib.iterAt_heap wr b2 U pos (pos + 1) hit
            have hbw2 : Hid _ := Lib.below_iterAt hbw.out (k := b2) hwr U (pos + 1)
            have hnb := numV_lt (U.data.toList.take pos) (fun c hc => hUd.out c (List.mem_of_mem_take hc)) 12 (by rw [List.length_take]; omega)
            have hnx2 : Hid (numV 0 (U.data.toList.take (pos + 1)) = 10 * numV 0 (U.data.toList.take pos) + ((U[pos]'hp).toNat - 48)) := by
              show _ = _
              rw [List.take_add_one, List.getElem?_eq_getElem hpl, eU]
              exact numV_snoc 0 _ _
            generalize numV 0 (U.data.toList.take pos) = n at *
            generalize (U[pos]'hp).toNat = c at *
            have f1 : wrap64 (10 * (n : Int)) = ((10 * n : Nat) : Int) := by simp only [wrap64]; omega
            have f2 : IntKind.i32.wrap ((c : Int) - 48) = ((c - 48 : Nat) : Int) := by simp [IntKind.wrap, IntKind.signed, IntKind.bits]; omega
            clear eU hdg hbw
            go_wp2
            go_roundw
            case rel =>
              refine ⟨pos + 1, ?_, hit2, hbw2, by omega⟩
              rw [hnx2.out]
              exact congrArg (Value.int IntKind.i64) (by omega)
            case measure =>
              simp only [World.iterPos, hit2, hit]
              omega
          · obtain rfl : pos = U.size := by omega
            have hnx : ∀ ty, (Instr.next (.pointer (some ⟨b2, 0, none⟩)) true ty).run Tryd.prog wr = _ := fun ty => Lib.run_next_end_at wr b2 U U.size ty hit hp
            go_wp2
            go_ret2
            rw [hv2.out, ← hUl.out]
            have : U.data.toList.take U.size = U.data.toList := List.take_of_length_le (by simp)
            rw [this]
            exact ⟨rfl, hbw.out⟩
def lines_Delay.f (a0 : ByteArray) : Option (Int × Bool) := if a0.size < 4294967281 then some (((delayV a0.data.toList).1 : Int), (delayV a0.data.toList).2) else none
theorem lines_Delay.calls (a0 : ByteArray) (r1 : Int) (r2 : Bool) (w : World) (h : lines_Delay.f a0 = some (r1, r2)) (hS_ : Shp w) :
    Calls Tryd.prog 13 #[.string a0] w fun e w' => e = .returned (.tuple #[.int .i64 r1, .bool r2]) ∧ Below w.heap.size w w' := by
  unfold lines_Delay.f at h
  split at h
  · rename_i hc
    obtain ⟨rfl, rfl⟩ := Prod.mk.inj (Option.some.inj h)
    exact delay_calls a0 w hc hS_
  · cases h
end Go.Proofs.YthbmedhejlhclaaDoor.Given
