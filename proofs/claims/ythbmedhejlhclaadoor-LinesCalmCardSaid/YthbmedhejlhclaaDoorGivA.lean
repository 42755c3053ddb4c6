/- lines.lower, and the document's Lower: what they answer. -/
import Derived.Test.YthbmedhejlhclaaDoorBts
import Derived.Test.YthbmedhejlhclaaDoorProg
import Derived.OwnWalk
namespace Go.Proofs.YthbmedhejlhclaaDoor.Given
open Go.RowKit
set_option linter.unusedVariables false

theorem wrap_low (c : UInt8) (h : 65 ≤ c.toNat ∧ c.toNat ≤ 90) : IntKind.u8.wrap ((c.toNat : Int) + 32) = ((lowB c).toNat : Int) := by
  unfold lowB
  rw [if_pos h]
  have : (UInt8.ofNat (c.toNat + 32)).toNat = c.toNat + 32 := by simp; omega
  rw [this]
  simp [IntKind.wrap, IntKind.signed, IntKind.bits]
  omega
theorem low_not (c : UInt8) (h : ¬ (65 ≤ c.toNat ∧ c.toNat ≤ 90)) : lowB c = c := by unfold lowB; rw [if_neg h]
theorem low_back (w wr : World) (b cap n : Nat) (l : List UInt8) (h : Bts wr b l) (hn : l.length = n) :
    (convert 39 9 (.slice (some ⟨b, 0, none⟩) n cap)).run Tryd.prog wr = .ok (.string ⟨l.toArray⟩) wr := by
  subst hn
  exact Go.run_convert_bytes_back wr 39 9 5 ⟨b, 0, none⟩ cap l Tryd.underlying39 Tryd.underlying5 Tryd.underlying9 (fun j hj => by
    have e : (⟨b, 0, none⟩ : Addr).add j = ⟨b, j, none⟩ := by unfold Addr.add; split <;> simp_all
    rw [e]
    exact h.cell j hj)

set_option maxHeartbeats 4000000 in
set_option maxRecDepth 1000000 in
theorem lower_calls (s : ByteArray) (w : World) (hs : s.size ≤ 1099511627776) :
    Calls Tryd.prog 28 #[.string s] w fun e w' => e = .returned (.string ⟨(lowL s.data.toList).toArray⟩) ∧ Below w.heap.size w w' := by
  have hconv := Lib.run_convert_string_bytes w 9 39 5 s Tryd.underlying9 Tryd.underlying39 Tryd.underlying5
  have hB : Hid (Bts (Lib.bytesWorld w 5 s) w.heap.size s.data.toList) := Bts.of w s
  have hb : Hid (Below w.heap.size w (Lib.bytesWorld w 5 s)) := Bts.below w s
  have hsl : Hid (s.data.toList.length = s.size) := by show _ = _; simp
  generalize Lib.bytesWorld w 5 s = w1 at hconv hB hb
  generalize grownCap w s.size 0 5 = cap at hconv
  go_enter Tryd.func28, Tryd.ntmps28
  go_wp2
  clear hconv
  go_loopw [10] (fun v wr => ∃ i : Nat, i ≤ s.size ∧ v = .int .i64 i ∧ Hid (Bts wr w.heap.size ((s.data.toList.take i).map lowB ++ s.data.toList.drop i)) ∧ Hid (Below w.heap.size w wr)) (fun v wr => s.size - (intOf v).toNat)
  case atStart =>
    refine ⟨0, by omega, rfl, ?_, hb⟩
    have e : (s.data.toList.take 0).map lowB ++ s.data.toList.drop 0 = s.data.toList := by simp
    rw [e]; exact hB
  case round =>
    clear hB hb
    obtain ⟨i, hi, rfl, hB, hb⟩ := hrel
    have hll := low_len s.data.toList i
    by_cases hlt : i < s.size
    · have hlt' : ((i : Int) < (s.size : Int)) = True := eq_true (by omega)
      have hil : i < s.data.toList.length := by rw [hsl.out]; exact hlt
      have hcell := hB.out.cell i (by rw [hll]; exact hil)
      rw [low_at s.data.toList i hil] at hcell
      have hfr := hB.out.frozen i (by rw [hll]; exact hil)
      have hset := hB.out.set i (by rw [hll]; exact hil) (lowB s.data.toList[i])
      rw [low_next s.data.toList i hil] at hset
      have hskip := low_skip s.data.toList i hil
      have hwl := wrap_low s.data.toList[i]
      have hln := low_not s.data.toList[i]
      generalize s.data.toList[i] = c at hcell hset hskip hwl hln
      have hset : Hid _ := hset
      clear hll
      by_cases hc : 65 ≤ c.toNat ∧ c.toNat ≤ 90
      · have hw2 := hwl hc
        have h1 : (65 ≤ (c.toNat : Int)) = True := eq_true (by omega)
        have h2 : ((c.toNat : Int) ≤ 90) = True := eq_true (by omega)
        clear hwl hln hskip hc hil
        go_wp2
        go_roundw
        case rel =>
          refine ⟨i + 1, by omega, by go_num, hset, ?_⟩
          exact Below.setCell hb.out (p := ⟨w.heap.size, i, none⟩) (Nat.le_refl _) _
        case measure => simp [intOf]; omega
      · have hl2 := hskip (hln hc)
        have hB2 : Hid _ := (hl2 ▸ hB.out : Bts wr w.heap.size ((s.data.toList.take (i + 1)).map lowB ++ s.data.toList.drop (i + 1)))
        clear hwl hln hskip hil hset hl2 hB
        have key : ((65 ≤ (c.toNat : Int)) = True ∧ ((c.toNat : Int) ≤ 90) = False) ∨ (65 ≤ (c.toNat : Int)) = False := by
          by_cases h : 65 ≤ c.toNat
          · exact .inl ⟨eq_true (by omega), eq_false (by omega)⟩
          · exact .inr (eq_false (by omega))
        clear hc
        rcases key with ⟨h1, h2⟩ | h1
        · go_wp2
          go_roundw
          case rel => exact ⟨i + 1, by omega, by go_num, hB2, hb⟩
          case measure => simp [intOf]; omega
        · go_wp2
          go_roundw
          case rel => exact ⟨i + 1, by omega, by go_num, hB2, hb⟩
          case measure => simp [intOf]; omega
    · have hlt' : ((i : Int) < (s.size : Int)) = False := eq_false (by omega)
      obtain rfl : i = s.size := by omega
      have hB2 : Bts wr w.heap.size (lowL s.data.toList) := by
        have := hB.out
        rw [List.take_of_length_le (Nat.le_of_eq hsl.out), List.drop_of_length_le (Nat.le_of_eq hsl.out), List.append_nil] at this
        exact this
      have hback := low_back w wr w.heap.size cap s.size (lowL s.data.toList) hB2 (by rw [lowL, List.length_map]; exact hsl.out)
      clear hB hB2
      go_wp2
      go_ret
      exact ⟨rfl, hb.out⟩
set_option maxHeartbeats 4000000 in
set_option maxRecDepth 1000000 in
theorem Lower_calls (s : ByteArray) (w : World) (hs : s.size ≤ 1099511627776) :
    Calls Tryd.prog 23 #[.string s] w fun e w' => e = .returned (.string ⟨(lowL s.data.toList).toArray⟩) ∧ Below w.heap.size w w' := by
  have hconv := Lib.run_convert_string_bytes w 9 39 5 s Tryd.underlying9 Tryd.underlying39 Tryd.underlying5
  have hB : Hid (Bts (Lib.bytesWorld w 5 s) w.heap.size s.data.toList) := Bts.of w s
  have hb : Hid (Below w.heap.size w (Lib.bytesWorld w 5 s)) := Bts.below w s
  have hsl : Hid (s.data.toList.length = s.size) := by show _ = _; simp
  generalize Lib.bytesWorld w 5 s = w1 at hconv hB hb
  generalize grownCap w s.size 0 5 = cap at hconv
  go_enter Tryd.func23, Tryd.ntmps23
  go_wp2
  clear hconv
  go_loopw [4] (fun v wr => ∃ i : Nat, i ≤ s.size ∧ v = .int .i64 i ∧ Hid (Bts wr w.heap.size ((s.data.toList.take i).map lowB ++ s.data.toList.drop i)) ∧ Hid (Below w.heap.size w wr)) (fun v wr => s.size - (intOf v).toNat)
  case atStart =>
    refine ⟨0, by omega, rfl, ?_, hb⟩
    have e : (s.data.toList.take 0).map lowB ++ s.data.toList.drop 0 = s.data.toList := by simp
    rw [e]; exact hB
  case round =>
    clear hB hb
    obtain ⟨i, hi, rfl, hB, hb⟩ := hrel
    have hll := low_len s.data.toList i
    by_cases hlt : i < s.size
    · have hlt' : ((i : Int) < (s.size : Int)) = True := eq_true (by omega)
      have hil : i < s.data.toList.length := by rw [hsl.out]; exact hlt
      have hcell := hB.out.cell i (by rw [hll]; exact hil)
      rw [low_at s.data.toList i hil] at hcell
      have hfr := hB.out.frozen i (by rw [hll]; exact hil)
      have hset := hB.out.set i (by rw [hll]; exact hil) (lowB s.data.toList[i])
      rw [low_next s.data.toList i hil] at hset
      have hskip := low_skip s.data.toList i hil
      have hwl := wrap_low s.data.toList[i]
      have hln := low_not s.data.toList[i]
      generalize s.data.toList[i] = c at hcell hset hskip hwl hln
      have hset : Hid _ := hset
      clear hll
      by_cases hc : 65 ≤ c.toNat ∧ c.toNat ≤ 90
      · have hw2 := hwl hc
        have h1 : (65 ≤ (c.toNat : Int)) = True := eq_true (by omega)
        have h2 : ((c.toNat : Int) ≤ 90) = True := eq_true (by omega)
        clear hwl hln hskip hc hil
        go_wp2
        go_roundw
        case rel =>
          refine ⟨i + 1, by omega, by go_num, hset, ?_⟩
          exact Below.setCell hb.out (p := ⟨w.heap.size, i, none⟩) (Nat.le_refl _) _
        case measure => simp [intOf]; omega
      · have hl2 := hskip (hln hc)
        have hB2 : Hid _ := (hl2 ▸ hB.out : Bts wr w.heap.size ((s.data.toList.take (i + 1)).map lowB ++ s.data.toList.drop (i + 1)))
        clear hwl hln hskip hil hset hl2 hB
        have key : ((65 ≤ (c.toNat : Int)) = True ∧ ((c.toNat : Int) ≤ 90) = False) ∨ (65 ≤ (c.toNat : Int)) = False := by
          by_cases h : 65 ≤ c.toNat
          · exact .inl ⟨eq_true (by omega), eq_false (by omega)⟩
          · exact .inr (eq_false (by omega))
        clear hc
        rcases key with ⟨h1, h2⟩ | h1
        · go_wp2
          go_roundw
          case rel => exact ⟨i + 1, by omega, by go_num, hB2, hb⟩
          case measure => simp [intOf]; omega
        · go_wp2
          go_roundw
          case rel => exact ⟨i + 1, by omega, by go_num, hB2, hb⟩
          case measure => simp [intOf]; omega
    · have hlt' : ((i : Int) < (s.size : Int)) = False := eq_false (by omega)
      obtain rfl : i = s.size := by omega
      have hB2 : Bts wr w.heap.size (lowL s.data.toList) := by
        have := hB.out
        rw [List.take_of_length_le (Nat.le_of_eq hsl.out), List.drop_of_length_le (Nat.le_of_eq hsl.out), List.append_nil] at this
        exact this
      have hback := low_back w wr w.heap.size cap s.size (lowL s.data.toList) hB2 (by rw [lowL, List.length_map]; exact hsl.out)
      clear hB hB2
      go_wp2
      go_ret
      exact ⟨rfl, hb.out⟩
end Go.Proofs.YthbmedhejlhclaaDoor.Given
