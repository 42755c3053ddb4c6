/- The fixed fact of layer 6, and the law on no table, walked. -/
import Derived.Test.YtihdojloghnmbaaTab
namespace Go.Proofs.Ytihdojloghnmbaa.Given
open Go.RowKit Go.Maps Go.WideMaps
set_option linter.unusedVariables false

theorem KeepS.below {W W' : World} {g m B : Nat} {v : Value} {most : Int} {names : List ByteArray} (h : KeepS W W' (Mine g m v)) (ht : IsTab B W g m v most names) : Below B W W' := by
  obtain ⟨a, b, c, d, e⟩ := h
  refine ⟨a, b, c, d, fun k hk => e k ?_ ?_⟩
  · have := (Array.getElem?_eq_some_iff.1 ht.2.2.1).1
    have := ht.1
    omega
  · rintro (h | h | h)
    · have := ht.1; omega
    · have := ht.2.1; omega
    · have := (ht.2.2.2.2.1.lt k h).1
      omega
theorem drewN_below (W : World) (B n : Nat) : Below B W (W.drewN n) := by
  obtain ⟨a, b, c, d⟩ := drewN_same W n
  exact ⟨b, c, d, by rw [a]; exact Nat.le_refl _, fun k _ => by rw [a]⟩

abbrev bX : ByteArray := ⟨#[120]⟩
abbrev bY : ByteArray := ⟨#[121]⟩
abbrev bZ : ByteArray := ⟨#[122]⟩
theorem y_x : bY ∉ [bX] := by
  intro h
  rw [List.mem_singleton] at h
  injection h with h
  exact absurd h (by decide)
theorem z_xy : bZ ∉ [bX, bY] := by
  intro h
  rcases List.mem_cons.mp h with h | h
  · injection h with h
    exact absurd h (by decide)
  · rw [List.mem_singleton] at h
    injection h with h
    exact absurd h (by decide)
theorem find_in (B : Nat) (W : World) (g m : Nat) (v : Value) (most : Int) (names : List ByteArray) (h : IsTab B W g m v most names) (i : Nat) (hi : i < names.length) (hs : names[i].size ≤ maxLen) :
    Calls Try.prog 8 #[.pointer (some ⟨g, 0, none⟩), .string names[i]] W fun e w' => e = .returned (.tuple #[.int .i64 (i : Int), .bool true]) ∧ w' = W := by
  refine (find_calls B W g m v most names h names[i] hs).mono ?_
  rintro e w' ⟨c, rfl, hat, rfl⟩
  rw [tabD_at names h.2.2.2.2.2 i hi] at hat
  simp only [num, DataW.lit.injEq, Lit.int.injEq] at hat
  rw [(tabD_has names _).mpr (List.getElem_mem hi), ← hat.2]
  exact ⟨rfl, rfl⟩
theorem find_out (B : Nat) (W : World) (g m : Nat) (v : Value) (most : Int) (names : List ByteArray) (h : IsTab B W g m v most names) (s : ByteArray) (hn : s ∉ names) (hs : s.size ≤ maxLen) :
    Calls Try.prog 8 #[.pointer (some ⟨g, 0, none⟩), .string s] W fun e w' => e = .returned (.tuple #[.int .i64 0, .bool false]) ∧ w' = W := by
  refine (find_calls B W g m v most names h s hs).mono ?_
  rintro e w' ⟨c, rfl, hat, rfl⟩
  have hh : Maps.has (tabD names) (key s) = false := by
    cases hh : Maps.has (tabD names) (key s)
    · rfl
    · exact absurd ((tabD_has names s).mp hh) hn
  rw [atKey_of_not_has hh] at hat
  simp only [DataW.lit.injEq, Lit.int.injEq] at hat
  rw [hh, ← hat.2]
  exact ⟨rfl, rfl⟩

set_option maxHeartbeats 4000000 in
theorem awake_calls (W : World) : Calls Try.prog 12 #[] W fun e w' => e = .returned (.bool true) ∧ Below W.heap.size W w' := by
  go_enter Try.func12, Try.ntmps12
  go_upto_region 2 with (go_at_call 7; refine (new_calls 2 (by omega) _).mono ?_; rintro e w1 ⟨g, m, rfl, h1, b1⟩)
  rw [show max (2 : Int) 0 = 2 from rfl] at h1
  have hz1 := b1.size
  go_upto_region 3 with (go_at_call 9; refine (add_new W.heap.size w1 g m (.slice none 0 0) 2 [] h1 ⟨#[120]⟩ (by unfold maxLen; decide) (by simp) (by simp) (by simp) hz1).mono ?_; rintro e w2 ⟨rfl, v2, h2, k2, -⟩)
  have b2 := k2.below h1
  have hz2 := Nat.le_trans hz1 b2.size
  rw [List.nil_append] at h2
  go_upto_region 4 with (go_at_call 9; refine (add_new W.heap.size w2 g m v2 2 [bX] h2 bY (by unfold maxLen; decide) y_x (by simp) (by simp) hz2).mono ?_; rintro e w3 ⟨rfl, v3, h3, k3, -⟩)
  have b3 := k3.below h2
  have hz3 := Nat.le_trans hz2 b3.size
  rw [List.singleton_append] at h3
  go_upto_region 5 with (go_at_call 9; refine (add_full W.heap.size w3 g m v3 2 [bX, bY] h3 bZ (by unfold maxLen; decide) z_xy (by simp)).mono ?_; rintro e w4 ⟨rfl, n4, rfl⟩)
  have h4 := h3.of_heap (drewN_same w3 n4).1
  have b4 := drewN_below w3 W.heap.size n4
  generalize w3.drewN n4 = w4 at *
  go_upto_region 6 with (go_at_call 8; refine (find_in W.heap.size w4 g m v3 2 [bX, bY] h4 1 (by simp) (by unfold maxLen; decide)).mono ?_; rintro e w5 ⟨rfl, e5⟩; obtain rfl := e5.symm)
  go_upto_region 7 with (go_at_call 11; refine (name_calls W.heap.size w4 g m v3 2 [bX, bY] h4 0 (by simp)).mono ?_; rintro e w5 ⟨rfl, e5⟩; obtain rfl := e5.symm)
  go_wp2_with (go_at_call 10; refine (len_calls W.heap.size w4 g m v3 2 [bX, bY] h4).mono ?_; rintro e w5 ⟨rfl, e5⟩; obtain rfl := e5.symm)
  go_ret
  exact ⟨rfl, b1.trans (b2.trans (b3.trans b4))⟩

set_option maxHeartbeats 4000000 in
theorem none_calls (s : ByteArray) (n : Int) (W : World) (hs : s.size ≤ 140737488351232) : Calls Try.prog 4 #[.string s, .int .i64 n] W fun e w' => e = .returned (.bool true) ∧ Below W.heap.size W w' := by
  have hs' : s.size ≤ maxLen := by unfold maxLen; omega
  go_enter Try.func4, Try.ntmps4
  go_upto_region 3 with (go_at_call 9; refine (add_nil s _).mono ?_; rintro e w5 ⟨rfl, e5⟩; obtain rfl := e5.symm)
  go_upto_region 4 with (go_at_call 8; refine (find_nil s _).mono ?_; rintro e w5 ⟨rfl, e5⟩; obtain rfl := e5.symm)
  go_upto_region 5 with (go_at_call 11; refine (name_nil n _).mono ?_; rintro e w5 ⟨rfl, e5⟩; obtain rfl := e5.symm)
  go_upto_region 6 with (go_at_call 7; refine (new_calls 5 (by omega) _).mono ?_; rintro e w1 ⟨g, m, rfl, h1, b1⟩)
  rw [show max (5 : Int) 0 = 5 from rfl] at h1
  have hz1 := b1.size
  go_upto_region 7 with (go_at_call 9; refine (add_new W.heap.size w1 g m (.slice none 0 0) 5 [] h1 s hs' (by simp) (by simp) (by simp) hz1).mono ?_; rintro e w2 ⟨rfl, v2, h2, k2, -⟩)
  have b2 := k2.below h1
  have hz2 := Nat.le_trans hz1 b2.size
  rw [List.nil_append] at h2
  go_upto_region 8 with (go_at_call 11; refine (name_out W.heap.size w2 g m v2 5 [s] h2 (-1) (by omega)).mono ?_; rintro e w5 ⟨rfl, e5⟩; obtain rfl := e5.symm)
  go_wp2_with (first
    | (go_at_call 12; refine (awake_calls _).mono ?_; rintro e w3 ⟨rfl, b3⟩)
    | (go_at_call 10; refine (len_nil _).mono ?_; rintro e w5 ⟨rfl, e5⟩; obtain rfl := e5.symm))
  go_ret
  exact ⟨rfl, b1.trans (b2.trans (b3.mono hz2))⟩

end Go.Proofs.Ytihdojloghnmbaa.Given
