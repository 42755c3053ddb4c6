/- pct's function Norm: what it answers, at every text of at most 2^40 bytes. -/
import Derived.Test.YtioafmnobmgdkaaDoorGivB
import Derived.BigCall
namespace Go.Proofs.YtioafmnobmgdkaaDoor.Given
open Go.RowKit Go.Proofs.YtioafmnobmgdkaaDoor.QBase Go.Proofs.YtioafmnobmgdkaaDoorW.PrintWords Go.Proofs.YtioafmnobmgdkaaDoorW.PrintLast
set_option linter.unusedVariables false

theorem get_list (s : ByteArray) (i : Nat) (h : i < s.data.toList.length) : s.get! i = (s.data.toList)[i] := by
  have h2 : i < s.data.size := by simpa using h
  simp only [ByteArray.get!]
  rw [getElem!_pos (c := s.data) i h2]
  simp
theorem drop_cons (l : List UInt8) (i : Nat) (h : i < l.length) : l.drop i = l[i] :: l.drop (i + 1) := List.drop_eq_getElem_cons h

theorem ext_list (s : ByteArray) (pos : Nat) : (s.extract pos s.size).data.toList = s.data.toList.drop pos := by
  rw [ByteArray.data_extract, Array.toList_extract, List.extract_eq_take_drop]
  exact List.take_of_length_le (by simp)

theorem ext_list2 (s : ByteArray) (a n : Nat) : (s.extract a (a + n)).data.toList = (s.data.toList.drop a).take n := by
  rw [ByteArray.data_extract, Array.toList_extract, List.extract_eq_take_drop, Nat.add_sub_cancel_left]

/-- A stretch of bytes of 128 or more is coded, byte by byte. -/
theorem normB_high : ∀ (xs t : List UInt8), (∀ c ∈ xs, 128 ≤ c.toNat) → normB (xs ++ t) = (normB t).map (codeAll xs ++ ·)
  | [], t, _ => by
    rw [List.nil_append]; cases normB t <;> simp [codeAll]
  | c :: xs, t, h => by
    have hc : 128 ≤ c.toNat := h c (List.mem_cons_self ..)
    have ih := normB_high xs t fun x hx => h x (List.mem_cons_of_mem _ hx)
    rw [List.cons_append, normB_one _ _ (by rintro rfl; simp at hc), ih, out1_high c hc]
    cases normB t <;> simp [codeAll]

theorem map_map (o : Option (List UInt8)) (a b : List UInt8) : (o.map (b ++ ·)).map (a ++ ·) = o.map ((a ++ b) ++ ·) := by
  cases o <;> simp

/-- A sign of the text that begins at a place. -/
theorem decode_drop (s : ByteArray) (pos : Nat) : Utf8.decode (s.extract pos s.size) 0 = Utf8.decode s pos := by
  have hsz : (s.extract pos s.size).size = s.size - pos := by simp
  have hg : ∀ k, (s.extract pos s.size).get! (0 + k) = s.get! (pos + k) := by
    intro k
    by_cases h : pos + k < s.size
    · have h1 : k < (s.extract pos s.size).data.toList.length := by simp; omega
      have h2 : pos + k < s.data.toList.length := by simpa using h
      rw [Nat.zero_add, get_list _ _ h1, get_list _ _ h2]
      simp [ByteArray.data_extract]
    · have h1 : ¬ k < (s.extract pos s.size).data.size := by simp; omega
      have h2 : ¬ pos + k < s.data.size := by simpa using h
      rw [Nat.zero_add]
      simp only [ByteArray.get!]
      rw [getElem!_neg (c := (s.extract pos s.size).data) k h1, getElem!_neg (c := s.data) (pos + k) h2]
  unfold Utf8.decode
  simp only [hg, hsz]
  have : ∀ k, (decide (0 + k < s.size - pos)) = decide (pos + k < s.size) := fun k => by rw [decide_eq_decide]; omega
  simp only [this]

theorem triple_b (s : ByteArray) (w : World) :
    Calls Tryd.prog 27 #[.string s] w fun e w' => ∃ r, e = .returned (.tuple #[.int .u8 r, .bool (tripB s.data.toList).isSome]) ∧ (∀ b, tripB s.data.toList = some b → r = (b.toNat : Int)) ∧ Below w.heap.size w w' :=
  (triple_calls s w).mono fun e w' ⟨r, h1, h2, n, h3⟩ => ⟨r, h1, h2, h3 ▸ pw_below_drewN (Below.refl _ w) n⟩
theorem plain_b (c : Nat) (w : World) :
    Calls Tryd.prog 28 #[.int .i32 (c : Int)] w fun e w' => e = .returned (.bool (freeN c)) ∧ Below w.heap.size w w' :=
  (plain_calls c w).mono fun e w' ⟨h1, n, h3⟩ => ⟨h1, h3 ▸ pw_below_drewN (Below.refl _ w) n⟩
theorem slice_two (s : ByteArray) (pos n : Nat) (h : pos + n ≤ s.size) (W : World) :
    Sem.run Tryd.prog (Instr.slice 9 (.string s) (some (.int .i64 (pos : Int))) (some (.int .i64 ((pos : Int) + (n : Int)))) none) W = .ok (.string (s.extract pos (pos + n))) W := by
  have e1 : ((pos : Int)).toNat = pos := by omega
  have e2 : ((pos : Int) + (n : Int)).toNat = pos + n := by omega
  rw [Go.run_slice_string W 9 s .i64 .i64 _ _ Tryd.underlying9 (by omega) (by omega) (by omega), e1, e2]
theorem blk_below {W W' : World} {k : Nat} {o : Obj} (h : W.heap[k]? = some o) (hb : Below W.heap.size W W') : W'.heap[k]? = some o :=
  (hb.block k (Array.getElem?_eq_some_iff.1 h).1).trans h
def normV : Option (List UInt8) → Value
  | some l => .tuple #[.string ⟨l.toArray⟩, .bool true]
  | none => .tuple #[.string ⟨#[]⟩, .bool false]
def pct_Norm.f (a0 : ByteArray) : Option (ByteArray × Bool) :=
  if a0.size ≤ 1099511627776 then some (match normB a0.data.toList with | some l => (⟨l.toArray⟩, true) | none => (⟨#[]⟩, false)) else none

set_option maxHeartbeats 8000000 in
set_option maxRecDepth 1000000 in
theorem norm_calls (s : ByteArray) (w : World) (hs : s.size ≤ 1099511627776) :
    Calls Tryd.prog 21 #[.string s] w fun e w' => e = .returned (normV (normB s.data.toList)) ∧ Below w.heap.size w w' := by
  have hl : s.data.toList.length = s.size := by simp
  go_enter Tryd.func21, Tryd.ntmps21
  go_wp2
  go_loopw [5] (fun sk wr => ∃ (pos skip : Nat) (acc : List UInt8), sk = .int .i64 skip ∧ Lib.IsBuilderF 44 5 w.heap.size w.heap.size (Lib.byteCells acc) wr ∧ wr.heap[w.heap.size + 1]? = some (.stringIter s pos) ∧ Below w.heap.size w wr ∧ Hid ((normB (s.data.toList.drop (max pos skip))).map (acc ++ ·) = normB s.data.toList) ∧ skip ≤ s.size ∧ (∀ i, pos ≤ i → i < skip → (s.get! i).toNat < 128) ∧ acc.length ≤ 3 * max pos skip) (fun _ wr => s.size - wr.iterPos (w.heap.size + 1))
  case atStart =>
    refine ⟨0, 0, [], rfl, (Lib.IsBuilderF.of (Lib.fresh_isBuilder 44 5 w)).alloc _, ?_, ((Below.refl _ w).alloc (Nat.le_refl _) _).alloc (by simp) _, ?_, by omega, by omega, by simp⟩
    · have := World.iter_heap (w.alloc (.cells #[.pointer none, .slice none 0 0] 44)) s 0
      simpa using this
    · show (normB (s.data.toList.drop 0)).map ([] ++ ·) = normB s.data.toList
      cases h : normB s.data.toList <;> simp [h]
  case round =>
    obtain ⟨pos, skip, acc, rfl, hI, hit, hbw, hacc, hsk, hasc, hal⟩ := hrel
    have hsz : w.heap.size + 1 < wr.heap.size := (Array.getElem?_eq_some_iff.1 hit).1
    by_cases hp : pos < s.size
    · have hnx : ∀ ty, (Instr.next (.pointer (some ⟨w.heap.size + 1, 0, none⟩)) true ty).run Tryd.prog wr = _ := fun ty => Lib.run_next_any_at wr (w.heap.size + 1) s pos ty hit hp
      obtain ⟨hw1, hw2, hw3⟩ := dec_in s pos hp
      have hd1 := decode_le s pos
      have hI2 := hI.iterAt hit (pos + (Utf8.decode s pos).2)
      have hit2 := Lib.iterAt_heap wr (w.heap.size + 1) s pos (pos + (Utf8.decode s pos).2) hit
      have hbw2 := Lib.below_iterAt hbw (k := w.heap.size + 1) (by omega) s (pos + (Utf8.decode s pos).2)
      have hsz2 : w.heap.size ≤ (wr.iterAt (w.heap.size + 1) s (pos + (Utf8.decode s pos).2)).heap.size := by rw [Lib.iterAt_size]; omega
      have hg : s.get! pos = s.data.toList[pos]'(by omega) := get_list s pos (by omega)
      have hgs : (s[pos]'hp) = s.data.toList[pos]'(by omega) := by simp; rfl
      by_cases hps : pos < skip
      · -- what a triple took
        have ha := hasc pos (Nat.le_refl _) hps
        have hd := decode_ascii s pos hp (by rw [hgs, ← hg]; exact ha)
        rw [hd] at hit2 hbw2 hI2 hsz2
        have e1 : max pos skip = skip := Nat.max_eq_right (by omega)
        have e2 : max (pos + 1) skip = skip := Nat.max_eq_right (by omega)
        rw [e1] at hacc hal
        go_wp2
        go_roundw
        case rel => exact ⟨pos + 1, skip, acc, rfl, hI2, hit2, hbw2, by rw [e2]; exact hacc, hsk, fun i h1 h2 => hasc i (by omega) h2, by rw [e2]; exact hal⟩
        case measure =>
          simp only [World.iterPos, hit2, hit]
          omega
      · have e1 : max pos skip = pos := Nat.max_eq_left (by omega)
        rw [e1] at hacc hal
        have hdc := drop_cons s.data.toList pos (by omega)
        by_cases h37 : (Utf8.decode s pos).1 = 37
        · -- a percent
          have hb : (s.data.toList[pos]'(by omega)).toNat < 128 := by
            apply Decidable.byContradiction
            intro hh
            have := (decode_high s pos hp (by rw [hgs]; omega)).1
            omega
          have hd : Utf8.decode s pos = (37, 1) := by
            have hd0 := decode_ascii s pos hp (by rw [hgs]; exact hb)
            rw [hd0] at h37 ⊢
            simp only at h37
            rw [h37]
          have hb37 : s.data.toList[pos]'(by omega) = 37 := by
            have hd0 := decode_ascii s pos hp (by rw [hgs]; exact hb)
            rw [hd, hgs] at hd0
            have := congrArg Prod.fst hd0
            simp only at this
            exact UInt8.toNat_inj.mp (by rw [← this]; rfl)
          rw [hd] at hit2 hbw2 hI2 hsz2
          clear h37 hw1 hw2 hw3 hd1
          have hX : (s.extract pos s.size).data.toList = s.data.toList.drop pos := ext_list s pos
          have hnB := normB_pct _ (s.data.toList.drop (pos + 1)) hb37
          rw [← hdc, ← hX, List.drop_drop] at hnB
          rcases ht : tripB (s.extract pos s.size).data.toList with _ | b
          · rw [ht, hX] at hnB
            have hno : normB s.data.toList = none := by rw [← hacc.out, hnB]; rfl
            go_wp2_with (go_at_call 27; refine (triple_b (s.extract pos s.size) _).mono ?_; rintro e W1 ⟨r, rfl, -, hb1⟩; rw [ht, Option.isSome_none])
            go_ret2
            rw [hno]
            exact ⟨rfl, hbw2.trans (hb1.mono hsz2)⟩
          · rw [ht, hX] at hnB
            have ht0 := ht
            rw [hX, hdc] at ht0
            have hlen := tripB_len ht0
            have hlen' : pos + 3 ≤ s.size := by
              rw [← hdc, List.length_drop] at hlen; omega
            have hq1 := drop_cons s.data.toList (pos + 1) (by omega)
            have hq2 := drop_cons s.data.toList (pos + 2) (by omega)
            rw [hq1, hq2] at ht0
            obtain ⟨ha1, ha2⟩ := tripB_ascii ht0
            clear hlen ht0 hq1 hq2
            have hasc3 : ∀ i, pos + 1 ≤ i → i < pos + 3 → (s.get! i).toNat < 128 := by
              intro i h1 h2
              rcases (by omega : i = pos + 1 ∨ i = pos + 2) with rfl | rfl
              · rw [get_list s _ (by omega)]; exact ha1
              · rw [get_list s _ (by omega)]; exact ha2
            have hnB2 : (normB (s.data.toList.drop (pos + 3))).map ((acc ++ outB b) ++ ·) = normB s.data.toList := by
              rw [← hacc.out, hnB, ← map_map]; rfl
            have hnB3 := outB_length b
            clear hnB hX hdc ha1 ha2
            have e3 : max (pos + 1) (pos + 3) = pos + 3 := Nat.max_eq_right (by omega)
            have hbl := b.toNat_lt
            by_cases hf : freeN b.toNat = true
            · have ho : outB b = [b] := by rw [outB, if_pos hf]
              go_wp2_with (first
                | (go_at_call 27; refine (triple_b (s.extract pos s.size) _).mono ?_; rintro e W1 ⟨r, rfl, hr, hb1⟩; obtain rfl := hr b ht; rw [ht, Option.isSome_some])
                | (go_at_call 28; refine (plain_b b.toNat _).mono ?_; rintro e W2 ⟨rfl, hb2⟩; rw [hf])
                | (go_at_call 29; refine (Tryd.Builder_WriteByte_k w.heap.size w.heap.size _ _ _ (isB_below (isB_below hI2 hb1) hb2) (by rw [Lib.byteCells_length]; omega) (Nat.le_trans hsz2 (Nat.le_trans hb1.size hb2.size))).mono ?_; rintro e W3 ⟨rfl, h3, b3, k3⟩))
              have hz1 := Nat.le_trans hsz2 hb1.size
              have hz2 := Nat.le_trans hz1 hb2.size
              go_roundw
              case rel =>
                refine ⟨pos + 1, pos + 3, acc ++ outB b, by go_num, ?_, k3.iter (blk_below (blk_below hit2 hb1) hb2) (by omega), hbw2.trans ((hb1.mono hsz2).trans ((hb2.mono hz1).trans b3)), ?_, hlen', hasc3, ?_⟩
                · rw [ho, Lib.byteCells_append]; exact Or.inr h3
                · rw [e3]; exact hnB2
                · rw [e3, List.length_append]; omega
              case measure =>
                simp only [World.iterPos, k3.iter (blk_below (blk_below hit2 hb1) hb2) (show w.heap.size + 1 ≠ w.heap.size by omega), hit]
                omega
            · have ho : outB b = codeB b := by rw [outB, if_neg hf]
              have hf' : freeN b.toNat = false := by simpa using hf
              have h3 : (Lib.byteCells acc).length + ByteArray.size ⟨(codeB b).toArray⟩ ≤ 140737488355328 := by
                rw [Lib.byteCells_length]
                show _ + 3 ≤ _
                omega
              go_wp2_with (first
                | (go_at_call 27; refine (triple_b (s.extract pos s.size) _).mono ?_; rintro e W1 ⟨r, rfl, hr, hb1⟩; obtain rfl := hr b ht; rw [ht, Option.isSome_some])
                | (go_at_call 28; refine (plain_b b.toNat _).mono ?_; rintro e W2 ⟨rfl, hb2⟩; rw [hf'])
                | (go_at_call 31; refine (coded_calls b _).mono ?_; rintro e W3 ⟨rfl, hb3⟩)
                | (go_at_call 30; refine (Tryd.Builder_WriteString_k w.heap.size w.heap.size _ _ _ (isB_below (isB_below (isB_below hI2 hb1) hb2) hb3) h3 (Nat.le_trans hsz2 (Nat.le_trans hb1.size (Nat.le_trans hb2.size hb3.size)))).mono ?_; rintro e W4 ⟨rfl, h4, b4, k4⟩))
              have hz1 := Nat.le_trans hsz2 hb1.size
              have hz2 := Nat.le_trans hz1 hb2.size
              have hit4 := k4.iter (blk_below (blk_below (blk_below hit2 hb1) hb2) hb3) (show w.heap.size + 1 ≠ w.heap.size by omega)
              go_roundw
              case rel =>
                refine ⟨pos + 1, pos + 3, acc ++ outB b, by go_num, ?_, hit4, hbw2.trans ((hb1.mono hsz2).trans ((hb2.mono hz1).trans ((hb3.mono hz2).trans b4))), ?_, hlen', hasc3, ?_⟩
                · rw [ho, Lib.byteCells_append]; exact Or.inr h4
                · rw [e3]; exact hnB2
                · rw [e3, List.length_append]; omega
              case measure =>
                simp only [World.iterPos, hit4, hit]
                omega
        · -- no percent
          by_cases hb : (s.data.toList[pos]'(by omega)).toNat < 128
          · have hd : Utf8.decode s pos = ((s.data.toList[pos]'(by omega)).toNat, 1) := by
              rw [← hgs]; exact decode_ascii s pos hp (by rw [hgs]; exact hb)
            have hnB := normB_one (s.data.toList[pos]'(by omega)) (s.data.toList.drop (pos + 1)) (by intro h; rw [hd, h] at h37; exact h37 rfl)
            rw [← hdc] at hnB
            have hX : (s.extract pos (pos + 1)).data.toList = [s.data.toList[pos]'(by omega)] := by
              rw [ext_list2, hdc]; rfl
            clear hdc hg hgs hw3
            rw [hd] at hit2 hbw2 hI2 hsz2 h37
            generalize (s.data.toList[pos]'(by omega)) = c at *
            have hnB2 : (normB (s.data.toList.drop (pos + 1))).map ((acc ++ out1 c) ++ ·) = normB s.data.toList := by
              rw [← hacc.out, hnB, ← map_map]
            have ho3 := out1_length c
            have h37' : ¬ ((c.toNat : Int) = 37) := by simp only at h37; omega
            have hrc : Lib.runeCells (c.toNat : Int) = [.int .u8 (c.toNat : Int)] := by
              rw [Lib.runeCells, Lib.encodeRuneZ_one (by omega) (by omega)]; rfl
            have e2 : max (pos + 1) skip = pos + 1 := Nat.max_eq_left (by omega)
            clear hnB h37 hw1 hd1
            by_cases hf : freeN c.toNat = true
            · have ho : out1 c = [c] := by rw [out1, if_pos (by simp [hf])]
              go_wp2_with (first
                | (go_at_call 28; refine (plain_b c.toNat _).mono ?_; rintro e W1 ⟨rfl, hb1⟩; rw [hf])
                | (go_at_call 33; refine (Tryd.Builder_WriteRune_k w.heap.size w.heap.size _ _ (by omega) (by omega) _ (isB_below hI2 hb1) (by rw [Lib.byteCells_length]; omega) (Nat.le_trans hsz2 hb1.size)).mono ?_; rintro e W2 ⟨rfl, h2, b2, k2⟩))
              have hit3 := k2.iter (blk_below hit2 hb1) (show w.heap.size + 1 ≠ w.heap.size by omega)
              go_roundw
              case rel =>
                refine ⟨pos + 1, skip, acc ++ out1 c, rfl, ?_, hit3, hbw2.trans ((hb1.mono hsz2).trans b2), ?_, hsk, fun i h1 h2 => absurd h2 (by omega), ?_⟩
                · rw [ho, Lib.byteCells_append]; rw [hrc] at h2; exact Or.inr h2
                · rw [e2]; exact hnB2
                · rw [e2, List.length_append]; omega
              case measure =>
                simp only [World.iterPos, hit3, hit]
                omega
            · have hf' : freeN c.toNat = false := by simpa using hf
              by_cases hh : otherN c.toNat = true
              · have ho : out1 c = [c] := by rw [out1, if_pos (by simp [hh])]
                go_wp2_with (first
                  | (go_at_call 28; refine (plain_b c.toNat _).mono ?_; rintro e W1 ⟨rfl, hb1⟩; rw [hf'])
                  | (go_at_call 32; refine (rune_other c.toNat hb _).mono ?_; rintro e W9 ⟨rfl, rfl⟩; rw [hh])
                  | (go_at_call 33; refine (Tryd.Builder_WriteRune_k w.heap.size w.heap.size _ _ (by omega) (by omega) _ (isB_below hI2 hb1) (by rw [Lib.byteCells_length]; omega) (Nat.le_trans hsz2 hb1.size)).mono ?_; rintro e W2 ⟨rfl, h2, b2, k2⟩))
                have hit3 := k2.iter (blk_below hit2 hb1) (show w.heap.size + 1 ≠ w.heap.size by omega)
                go_roundw
                case rel =>
                  refine ⟨pos + 1, skip, acc ++ out1 c, rfl, ?_, hit3, hbw2.trans ((hb1.mono hsz2).trans b2), ?_, hsk, fun i h1 h2 => absurd h2 (by omega), ?_⟩
                  · rw [ho, Lib.byteCells_append]; rw [hrc] at h2; exact Or.inr h2
                  · rw [e2]; exact hnB2
                  · rw [e2, List.length_append]; omega
                case measure =>
                  simp only [World.iterPos, hit3, hit]
                  omega
              · have hh' : otherN c.toNat = false := by simpa using hh
                have h3 : acc.length + ByteArray.size ⟨(codeAll (s.extract pos (pos + 1)).data.toList).toArray⟩ ≤ 140737488355328 := by
                  rw [hX]
                  show _ + 3 ≤ _
                  omega
                have hsl : ∀ W, Sem.run Tryd.prog (Instr.slice 9 (.string s) (some (.int .i64 (pos : Int))) (some (.int .i64 ((pos : Int) + 1))) none) W = .ok (.string (s.extract pos (pos + 1))) W := fun W => slice_two s pos 1 (by omega) W
                have ho : out1 c = codeB c := by rw [out1, if_neg (by simp [hf', hh'])]
                go_wp2_with (first
                  | (go_at_call 28; refine (plain_b c.toNat _).mono ?_; rintro e W1 ⟨rfl, hb1⟩; rw [hf'])
                  | (go_at_call 32; refine (rune_other c.toNat hb _).mono ?_; rintro e W9 ⟨rfl, rfl⟩; rw [hh'])
                  | (go_at_call 35; refine (width_calls (s.extract pos s.size) _ (by simp; omega) (by simp; omega)).mono ?_; rintro e W2 ⟨rfl, hb2⟩; rw [decode_drop, hd])
                  | (go_at_call 34; refine (all_calls (s.extract pos (pos + 1)) _ (by simp; omega)).mono ?_; rintro e W3 ⟨rfl, hb3⟩)
                  | (go_at_call 30; go_loud (refine (Tryd.Builder_WriteString_k w.heap.size w.heap.size _ _ _ (isB_below (isB_below (isB_below hI2 hb1) hb2) hb3) (by rw [Lib.byteCells_length, ← ext_list2]; exact h3) (Nat.le_trans hsz2 (Nat.le_trans hb1.size (Nat.le_trans hb2.size hb3.size)))).mono ?_; rintro e W4 ⟨rfl, h4, b4, k4⟩)))
                have hz1 := Nat.le_trans hsz2 hb1.size
                have hz2 := Nat.le_trans hz1 hb2.size
                have hit3 := k4.iter (blk_below (blk_below (blk_below hit2 hb1) hb2) hb3) (show w.heap.size + 1 ≠ w.heap.size by omega)
                go_roundw
                case rel =>
                  refine ⟨pos + 1, skip, acc ++ out1 c, rfl, ?_, hit3, hbw2.trans ((hb1.mono hsz2).trans ((hb2.mono hz1).trans ((hb3.mono hz2).trans b4))), ?_, hsk, fun i h1 h2 => absurd h2 (by omega), ?_⟩
                  · rw [ho, Lib.byteCells_append]; rw [Lib.strCells_eq, ← ext_list2, hX] at h4; simp only [codeAll, List.flatMap_cons, List.flatMap_nil, List.append_nil] at h4; exact Or.inr h4
                  · rw [e2]; exact hnB2
                  · rw [e2, List.length_append]; omega
                case measure =>
                  simp only [World.iterPos, hit3, hit]
                  omega
          · -- beyond ASCII
            have hb' : 128 ≤ (s.data.toList[pos]'(by omega)).toNat := by omega
            have hc := (decode_high s pos hp (by rw [hgs]; exact hb')).1
            have hf' : freeN (Utf8.decode s pos).1 = false := by
              cases h : freeN (Utf8.decode s pos).1
              · rfl
              · exact absurd (freeN_lt h) (by omega)
            have hx := ext_list2 s pos (Utf8.decode s pos).2
            have hX : ∀ c ∈ (s.data.toList.drop pos).take (Utf8.decode s pos).2, 128 ≤ c.toNat := by
              intro c hc'
              obtain ⟨i, hi, rfl⟩ := List.mem_iff_getElem.mp hc'
              have hi1 : i < (Utf8.decode s pos).2 := by
                have := List.length_take_le (Utf8.decode s pos).2 (s.data.toList.drop pos)
                omega
              have := hw3 (by rw [hg]; exact hb') i hi1
              rw [get_list s _ (by omega)] at this
              simpa using this
            have hnB := normB_high _ ((s.data.toList.drop pos).drop (Utf8.decode s pos).2) hX
            rw [List.take_append_drop, List.drop_drop] at hnB
            rw [← hx] at hnB
            have hnB2 : (normB (s.data.toList.drop (pos + (Utf8.decode s pos).2))).map ((acc ++ codeAll (s.extract pos (pos + (Utf8.decode s pos).2)).data.toList) ++ ·) = normB s.data.toList := by
              rw [← hacc.out, hnB, ← map_map]
            have hlx : (codeAll (s.extract pos (pos + (Utf8.decode s pos).2)).data.toList).length = 3 * (Utf8.decode s pos).2 := by
              rw [codeAll_length, hx, List.length_take, List.length_drop]
              omega
            have h3 : acc.length + ByteArray.size ⟨(codeAll (s.extract pos (pos + (Utf8.decode s pos).2)).data.toList).toArray⟩ ≤ 140737488355328 := by
              show _ + Array.size _ ≤ _
              rw [List.size_toArray, hlx]
              omega
            have e2 : max (pos + (Utf8.decode s pos).2) skip = pos + (Utf8.decode s pos).2 := Nat.max_eq_left (by omega)
            clear hX hx hnB hw3 hdc
            have hsl := fun W => slice_two s pos (Utf8.decode s pos).2 hw2 W
            go_wp2_with (first
              | (go_at_call 28; refine (plain_b (Utf8.decode s pos).1 _).mono ?_; rintro e W1 ⟨rfl, hb1⟩; rw [hf'])
              | (go_at_call 35; refine (width_calls (s.extract pos s.size) _ (by simp; omega) (by simp; omega)).mono ?_; rintro e W2 ⟨rfl, hb2⟩; rw [decode_drop])
              | (go_at_call 34; go_loud (refine (all_calls (s.extract pos (pos + (Utf8.decode s pos).2)) _ (by simp; omega)).mono ?_; rintro e W3 ⟨rfl, hb3⟩))
              | (go_at_call 30; go_loud (refine (Tryd.Builder_WriteString_k w.heap.size w.heap.size _ _ _ (isB_below (isB_below (isB_below hI2 hb1) hb2) hb3) (by rw [Lib.byteCells_length, ← ext_list2]; exact h3) (Nat.le_trans hsz2 (Nat.le_trans hb1.size (Nat.le_trans hb2.size hb3.size)))).mono ?_; rintro e W4 ⟨rfl, h4, b4, k4⟩)))
            have hz1 := Nat.le_trans hsz2 hb1.size
            have hz2 := Nat.le_trans hz1 hb2.size
            have hit3 := k4.iter (blk_below (blk_below (blk_below hit2 hb1) hb2) hb3) (show w.heap.size + 1 ≠ w.heap.size by omega)
            go_roundw
            case rel =>
              refine ⟨pos + (Utf8.decode s pos).2, skip, _, rfl, ?_, hit3, hbw2.trans ((hb1.mono hsz2).trans ((hb2.mono hz1).trans ((hb3.mono hz2).trans b4))), by rw [e2]; exact hnB2, hsk, fun i h1 h2 => absurd h2 (by omega), ?_⟩
              · rw [Lib.byteCells_append]; rw [Lib.strCells_eq, ← ext_list2] at h4; exact Or.inr h4
              · rw [e2, List.length_append, hlx]; omega
            case measure =>
              simp only [World.iterPos, hit3, hit]
              omega
    · -- the text is through
      have hnx : ∀ ty, (Instr.next (.pointer (some ⟨w.heap.size + 1, 0, none⟩)) true ty).run Tryd.prog wr = _ := fun ty => Lib.run_next_end_at wr (w.heap.size + 1) s pos ty hit hp
      go_wp2_with (go_at_call 36; refine (Tryd.Builder_String_any_k w.heap.size w.heap.size acc _ hI (by omega)).mono ?_)
      rintro e W1 ⟨rfl, _, b1, _⟩
      go_wp2
      go_ret2
      have hn : normB s.data.toList = some acc := by
        rw [← hacc.out, List.drop_of_length_le (by omega), normB_nil]
        simp
      rw [hn]
      exact ⟨rfl, hbw.trans b1⟩
theorem pct_Norm.calls (a0 : ByteArray) (r1 : ByteArray) (r2 : Bool) (w : World) (h : pct_Norm.f a0 = some (r1, r2)) :
    Calls Tryd.prog 21 #[.string a0] w fun e w' => e = .returned (.tuple #[.string r1, .bool r2]) ∧ Below w.heap.size w w' := by
  unfold pct_Norm.f at h
  split at h
  · rename_i hc
    refine (norm_calls a0 w hc).mono fun e w' ⟨h1, h2⟩ => ⟨?_, h2⟩
    rw [h1]
    have h' := Option.some.inj h
    revert h'
    cases normB a0.data.toList <;> (intro h'; cases h'; rfl)
  · cases h

end Go.Proofs.YtioafmnobmgdkaaDoor.Given
