/- The law on a full table, walked. -/
import Derived.Test.YtihdojloghnmbaaWalkB
import Derived.Lib.ConvBytes
namespace Go.Proofs.Ytihdojloghnmbaa.Given
open Go.RowKit Go.Maps Go.WideMaps
set_option linter.unusedVariables false

def nameOf (i : Nat) : ByteArray := ⟨#[110, 97, 109, 101, 32, UInt8.ofNat i]⟩
def namesTo (k : Nat) : List ByteArray := (List.range k).map nameOf
theorem namesTo_length (k : Nat) : (namesTo k).length = k := by simp [namesTo]
theorem namesTo_succ (k : Nat) : namesTo (k + 1) = namesTo k ++ [nameOf k] := by simp [namesTo, List.range_succ]
theorem nameOf_inj {i j : Nat} (hi : i < 256) (hj : j < 256) (h : nameOf i = nameOf j) : i = j := by
  simp only [nameOf] at h
  injection h with h
  have h5 := congrArg (fun a => a[5]!) h
  simp at h5
  have := congrArg UInt8.toNat h5
  simp at this
  omega
theorem nameOf_new (k : Nat) (hk : k < 256) : nameOf k ∉ namesTo k := by
  intro h
  obtain ⟨j, hj, e⟩ := List.mem_map.mp h
  have hj' := List.mem_range.mp hj
  have := nameOf_inj (by omega) hk e
  omega
theorem namesTo_at (k j : Nat) (h : j < k) : (namesTo k)[j]? = some (nameOf j) := by simp [namesTo, h]
/-- 'other ..' is none of them. -/
theorem other_new (s : ByteArray) (k : Nat) : (⟨#[111, 116, 104, 101, 114, 32]⟩ : ByteArray) ++ s ∉ namesTo k := by
  intro h
  obtain ⟨j, hj, e⟩ := List.mem_map.mp h
  have h0 := congrArg (fun b : ByteArray => b.data.toList[0]?) e
  simp [nameOf] at h0

theorem conv_one (W : World) (j : Nat) : (convert 37 9 (.slice (some ⟨W.heap.size, 0, none⟩) 1 1)).run Try.prog (W.alloc (.cells #[.int .u8 (j : Int)] 5)) = .ok (.string ⟨#[UInt8.ofNat j]⟩) (W.alloc (.cells #[.int .u8 (j : Int)] 5)) := by
  have h := run_convert_bytes_arg (P := Try.prog) (W.alloc (.cells #[.int .u8 (j : Int)] 5)) 37 5 Try.underlying37 Try.underlying5 W.heap.size 0 1 1 [(j : Int)] rfl (by
    intro i hi
    obtain rfl : i = 0 := by omega
    have hh := heap_alloc_new W (.cells #[.int .u8 (j : Int)] 5)
    simp only [World.cell?, hh]
    rfl) 9 Try.underlying9
  rw [h]
  simp [strOfNums]
theorem name_app (j : Nat) : (⟨#[110, 97, 109, 101, 32]⟩ : ByteArray) ++ (⟨#[UInt8.ofNat j]⟩ : ByteArray) = nameOf j := by
  apply ByteArray.ext
  simp [nameOf]
theorem IsTab.below {B : Nat} {W W' : World} {g m : Nat} {v : Value} {most : Int} {names : List ByteArray} (h : IsTab B W g m v most names) (hb : Below W.heap.size W W') : IsTab B W' g m v most names := by
  obtain ⟨h1, h2, h3, h4, h5, h6⟩ := h
  have hgr : W.grownBy W' none := ⟨hb.os, hb.tape, hb.output, hb.size, fun k hk _ => hb.block k hk⟩
  exact ⟨h1, h2, (hb.block g (Array.getElem?_eq_some_iff.1 h3).1).trans h3, h4.kept hgr (by simp), h5.kept hgr (Classical.em _), h6⟩

theorem add_at (B : Nat) (W : World) (g m : Nat) (v : Value) (most : Int) (names : List ByteArray) (h : IsTab B W g m v most names) (n : Nat) (s : ByteArray) (hs : names[n]? = some s) (hl : s.size ≤ maxLen) :
    Calls Try.prog 9 #[.pointer (some ⟨g, 0, none⟩), .string s] W fun e w' => e = .returned (.tuple #[.int .i64 (n : Int), .int .i64 0]) ∧ w' = W := by
  obtain ⟨hn, rfl⟩ := List.getElem?_eq_some_iff.mp hs
  exact add_old B W g m v most names h n hn hl

set_option maxHeartbeats 8000000 in
set_option maxRecDepth 100000 in
theorem full_calls (n : Int) (s : ByteArray) (W : World) (hn : 0 ≤ n ∧ n ≤ 255) (hs : s.size ≤ 140737488351232) :
    Calls Try.prog 6 #[.int .u8 n, .string s] W fun e w' => e = .returned (.bool true) ∧ Below W.heap.size W w' := by
  obtain ⟨n, rfl⟩ := Int.eq_ofNat_of_zero_le hn.1
  obtain ⟨k, hk⟩ : ∃ k, k = n % 40 := ⟨_, rfl⟩
  have hk40 : k < 40 := by omega
  have hmod : (n : Int) % 40 = (k : Int) := by omega
  clear hk
  go_enter Try.func6, Try.ntmps6
  go_upto_region 3 with (go_at_call 7; refine (new_calls (k : Int) (by omega) _).mono ?_; rintro e w1 ⟨g, m, rfl, h1, b1⟩)
  rw [show max (k : Int) 0 = k by omega] at h1
  have hz1 := b1.size
  go_wp2
  go_loopw [7] (fun i wr => ∃ (j : Nat) (v : Value), i = .int .i64 j ∧ j ≤ k ∧ IsTab W.heap.size wr g m v (k : Int) (namesTo j) ∧ Below W.heap.size W wr) (fun i wr => k - (intOf i).toNat)
  case atStart =>
    exact ⟨0, _, rfl, by omega, h1, b1⟩
  case round =>
    obtain ⟨j, v, rfl, hj, ht, hb⟩ := hrel
    have hz := hb.size
    by_cases hjk : j < k
    · have q1 : ((j : Int) < (k : Int)) = True := eq_true (by omega)
      have hcv := conv_one wr j
      have hna := name_app j
      have bA : Below wr.heap.size wr (wr.alloc (.cells #[.int .u8 (j : Int)] 5)) := (Below.refl _ wr).alloc (Nat.le_refl _) _
      have htA := ht.below bA
      have hzA : W.heap.size ≤ (wr.alloc (.cells #[.int .u8 (j : Int)] 5)).heap.size := Nat.le_trans hz bA.size
      go_wp2_with (go_at_call 9; go_loud (refine (add_new W.heap.size _ g m v (k : Int) (namesTo j) htA (nameOf j) (by unfold maxLen; simp [nameOf, ByteArray.size]) (nameOf_new j (by omega)) (by rw [namesTo_length]; omega) (by rw [namesTo_length]; omega) hzA).mono ?_; rw [namesTo_length]; rintro e w2 ⟨rfl, v2, h2, k2, -⟩))
      rw [← namesTo_succ] at h2
      go_roundw
      case rel => exact ⟨j + 1, v2, by go_num, by omega, h2, hb.trans ((bA.mono hz).trans (k2.below htA))⟩
      case measure => simp [intOf]; omega
    · obtain rfl : j = k := by omega
      have q1 : ((j : Int) < (j : Int)) = False := eq_false (by omega)
      have hlen := namesTo_length j
      have hso : ((⟨#[111, 116, 104, 101, 114, 32]⟩ : ByteArray) ++ s).size ≤ maxLen := by
        unfold maxLen
        rw [ByteArray.size_append]
        show 6 + s.size ≤ _
        omega
      go_upto_region 10 with (go_at_call 9; go_loud (refine (add_full W.heap.size wr g m v (j : Int) (namesTo j) ht ((⟨#[111, 116, 104, 101, 114, 32]⟩ : ByteArray) ++ s) hso (other_new s j) (by rw [hlen]; omega)).mono ?_; rintro e w4 ⟨rfl, n4, rfl⟩))
      have h4 := ht.of_heap (drewN_same wr n4).1
      have b4 := drewN_below wr W.heap.size n4
      generalize wr.drewN n4 = w4 at *
      have hz4 : W.heap.size ≤ w4.heap.size := Nat.le_trans hz b4.size
      have hb4 := hb.trans b4
      clear b4 ht hb hz q1 h1 b1 hz1
      go_wp2_with (go_at_call 10; refine (len_calls W.heap.size w4 g m v (j : Int) (namesTo j) h4).mono ?_; rw [hlen]; rintro e w5 ⟨rfl, e5⟩; obtain rfl := e5.symm)
      go_loopw [12] (fun i wr => ∃ (q : Nat), i = .int .i64 q ∧ q ≤ j ∧ IsTab W.heap.size wr g m v (j : Int) (namesTo j) ∧ Below W.heap.size W wr) (fun i wr => j - (intOf i).toNat)
      case atStart => exact ⟨0, rfl, by omega, h4, hb4⟩
      case round =>
        clear h4 hz4 hb4
        obtain ⟨q, rfl, hq, ht, hb⟩ := hrel
        have hz := hb.size
        by_cases hqj : q < j
        · have q1 : ((q : Int) < (j : Int)) = True := eq_true (by omega)
          have hcv := conv_one wr q
          have hna := name_app q
          have bA : Below wr.heap.size wr (wr.alloc (.cells #[.int .u8 (q : Int)] 5)) := (Below.refl _ wr).alloc (Nat.le_refl _) _
          have htA := ht.below bA
          have hqs := namesTo_at j q hqj
          go_wp2_with (go_at_call 9; go_loud (refine (add_at W.heap.size _ g m v (j : Int) (namesTo j) htA q (nameOf q) hqs (by unfold maxLen; simp [nameOf, ByteArray.size])).mono ?_; rintro e w5 ⟨rfl, e5⟩; obtain rfl := e5.symm))
          go_roundw
          case rel => exact ⟨q + 1, by go_num, by omega, htA, hb.trans (bA.mono hz)⟩
          case measure => simp [intOf]; omega
        · obtain rfl : q = j := by omega
          have q1 : ((q : Int) < (q : Int)) = False := eq_false (by omega)
          go_wp2_with (go_at_call 12; refine (awake_calls _).mono ?_; rintro e w3 ⟨rfl, b3⟩)
          go_ret
          exact ⟨rfl, hb.trans (b3.mono hz)⟩

end Go.Proofs.Ytihdojloghnmbaa.Given
