/- The law on names and numbers, walked. -/
import Derived.Test.YtihdojloghnmbaaWalkA
namespace Go.Proofs.Ytihdojloghnmbaa.Given
open Go.RowKit Go.Maps Go.WideMaps
set_option linter.unusedVariables false

/-- A list of strings that came in. -/
def Came (W : World) (A : Option Addr) (x : List ByteArray) : Prop :=
  ∀ i (h : i < x.length), ∃ ad, A = some ad ∧ W.cell? (ad.add i) = some (.string x[i])

theorem KeepS.refl (W : World) (S : Nat → Prop) : KeepS W W S := ⟨rfl, rfl, rfl, Nat.le_refl _, fun _ _ _ => rfl⟩
/-- Add where there is room: the name has its number behind it. -/
theorem add_any (B : Nat) (W : World) (g m : Nat) (v : Value) (most : Int) (names : List ByteArray) (h : IsTab B W g m v most names) (s : ByteArray) (hs : s.size ≤ maxLen) (hf : (names.length : Int) < most) (hl : names.length ≤ 100000) (hB : B ≤ W.heap.size) :
    Calls Try.prog 9 #[.pointer (some ⟨g, 0, none⟩), .string s] W fun e w' => ∃ v' names' , ∃ j : Nat, j < names'.length ∧ names'[j]? = some s ∧ e = .returned (.tuple #[.int .i64 (j : Int), .int .i64 0]) ∧ IsTab B w' g m v' most names' ∧ names'.length ≤ names.length + 1 ∧ Below B W w' := by
  by_cases hm : s ∈ names
  · obtain ⟨j, hj, rfl⟩ := List.mem_iff_getElem.mp hm
    refine (add_old B W g m v most names h j hj hs).mono ?_
    rintro e w' ⟨rfl, e5⟩
    obtain rfl := e5.symm
    exact ⟨v, names, j, hj, by simp [hj], rfl, h, by omega, Below.refl _ _⟩
  · refine (add_new B W g m v most names h s hs hm hf hl hB).mono ?_
    rintro e w' ⟨rfl, v', h', k', -⟩
    exact ⟨v', names ++ [s], names.length, by simp, by simp, rfl, h', by simp, k'.below h⟩
theorem name_at (B : Nat) (W : World) (g m : Nat) (v : Value) (most : Int) (names : List ByteArray) (h : IsTab B W g m v most names) (n : Nat) (s : ByteArray) (hs : names[n]? = some s) :
    Calls Try.prog 11 #[.pointer (some ⟨g, 0, none⟩), .int .i64 (n : Int)] W fun e w' => e = .returned (.tuple #[.string s, .bool true]) ∧ w' = W := by
  obtain ⟨hn, rfl⟩ := List.getElem?_eq_some_iff.mp hs
  exact name_calls B W g m v most names h n hn
theorem find_at (B : Nat) (W : World) (g m : Nat) (v : Value) (most : Int) (names : List ByteArray) (h : IsTab B W g m v most names) (n : Nat) (s : ByteArray) (hs : names[n]? = some s) (hl : s.size ≤ maxLen) :
    Calls Try.prog 8 #[.pointer (some ⟨g, 0, none⟩), .string s] W fun e w' => e = .returned (.tuple #[.int .i64 (n : Int), .bool true]) ∧ w' = W := by
  obtain ⟨hn, rfl⟩ := List.getElem?_eq_some_iff.mp hs
  exact find_in B W g m v most names h n hn hl

set_option maxHeartbeats 8000000 in
set_option maxRecDepth 100000 in
theorem back_calls (A : Option Addr) (c : Nat) (x : List ByteArray) (W : World) (hx : Came W A x) (hs : ∀ s ∈ x, s.size ≤ 140737488351232) :
    Calls Try.prog 5 #[.slice A x.length c] W fun e w' => e = .returned (.bool true) ∧ Below W.heap.size W w' := by
  go_enter Try.func5, Try.ntmps5
  go_upto_region 2 with (go_at_call 7; refine (new_calls 200 (by omega) _).mono ?_; rintro e w1 ⟨g, m, rfl, h1, b1⟩)
  rw [show max (200 : Int) 0 = 200 from rfl] at h1
  have hz1 := b1.size
  go_wp2
  go_loopw [4] (fun i wr => ∃ (k : Nat) (names : List ByteArray) (v : Value), i = .int .i64 k ∧ k ≤ 100 ∧ IsTab W.heap.size wr g m v 200 names ∧ names.length ≤ k ∧ Below W.heap.size W wr) (fun i wr => 100 - (intOf i).toNat)
  case atStart =>
    exact ⟨0, [], _, rfl, by omega, h1, by simp, b1⟩
  case round =>
    obtain ⟨k, names, v, rfl, hk, ht, hn, hb⟩ := hrel
    have hz := hb.size
    by_cases hkx : k < x.length ∧ k < 100
    · obtain ⟨hk1, hk2⟩ := hkx
      obtain ⟨ad, rfl, hc⟩ := hx k hk1
      have hsz : x[k].size ≤ maxLen := by
        have := hs x[k] (List.getElem_mem hk1)
        unfold maxLen; omega
      generalize x[k] = s at *
      have hlt2 : (ad.add k).block < W.heap.size := World.block_lt_of_cell? _ _ hc
      have c0 : wr.cell? (ad.add k) = some (.string s) := (hb.cell (p := ad.add k) hlt2).trans hc
      have q1 : ((k : Int) < (x.length : Int)) = True := eq_true (by omega)
      have q2 : ((k : Int) < 100) = True := eq_true (by omega)
      go_upto_region 6 with (go_at_call 9; refine (add_any W.heap.size wr g m v 200 names ht s hsz (by omega) (by omega) hz).mono ?_; rintro e w2 ⟨v2, names2, j, hj, hjs, rfl, h2, hn2, b2⟩)
      have hz2 := b2.size
      have c2 : w2.cell? (ad.add k) = some (.string s) := ((hb.trans b2).cell (p := ad.add k) hlt2).trans hc
      go_upto_region 7 with (go_at_call 11; refine (name_at W.heap.size w2 g m v2 200 names2 h2 j s hjs).mono ?_; rintro e w5 ⟨rfl, e5⟩; obtain rfl := e5.symm)
      go_upto_region 8 with (go_at_call 8; refine (find_at W.heap.size w2 g m v2 200 names2 h2 j s hjs hsz).mono ?_; rintro e w5 ⟨rfl, e5⟩; obtain rfl := e5.symm)
      have q3 : ((j : Int) < (names2.length : Int)) = True := eq_true (by omega)
      have q4 : ((names2.length : Int) ≤ (j : Int)) = False := eq_false (by omega)
      go_wp2_with (go_at_call 10; refine (len_calls W.heap.size w2 g m v2 200 names2 h2).mono ?_; rintro e w5 ⟨rfl, e5⟩; obtain rfl := e5.symm)
      go_roundw
      case rel => exact ⟨k + 1, names2, v2, by go_num, by omega, h2, by omega, hb.trans b2⟩
      case measure => simp [intOf]; omega
    · have out : ∀ P : Prop, P → P := fun _ h => h
      by_cases hk1 : k < x.length
      · have q1 : ((k : Int) < (x.length : Int)) = True := eq_true (by omega)
        have q2 : ((k : Int) < 100) = False := eq_false (by omega)
        go_wp2_with (go_at_call 12; refine (awake_calls _).mono ?_; rintro e w3 ⟨rfl, b3⟩)
        go_ret
        exact ⟨rfl, hb.trans (b3.mono hz)⟩
      · have q1 : ((k : Int) < (x.length : Int)) = False := eq_false (by omega)
        go_wp2_with (go_at_call 12; refine (awake_calls _).mono ?_; rintro e w3 ⟨rfl, b3⟩)
        go_ret
        exact ⟨rfl, hb.trans (b3.mono hz)⟩

end Go.Proofs.Ytihdojloghnmbaa.Given
