/- What an intern table is, in memory and in plain words, and what its methods do. -/
import Derived.Test.YtihdojloghnmbaaProg
import Derived.Maps.OwnSet
import Derived.Maps.AppendAt
import Derived.WalkKit
import Derived.StillTailTactics
import Derived.StillTactics
import Derived.BigCall
import Derived.Below
import Derived.Deep.Draws
import Derived.Deep.AppendLies
import Derived.Maps.AppendAt
import Derived.OwnWalk
import Derived.Laws.BytesArg
import Derived.Laws.MakeOwn
import Derived.Laws.OwnMore
import Derived.Deep.OwnRows
import Derived.Tactics
import Derived.Lib.ConvBytes
import Derived.Laws.Slices
import Derived.WalkKit
import Derived.KernelRfl
import Derived.RowKit3
import Derived.Deep.LoopGhost
import Derived.Deep.QuietTactic
import Derived.BigQuiet
import Derived.WideLaws
import Derived.Deep.DeepCutAuto
import Derived.Deep.CutBlock
import Derived.Deep.RegionHeld3
import Derived.Laws.Rows
import Derived.Lib.AppendStr
import Derived.ArgAppend
import Derived.Laws.IdiomCopy
import Derived.OrdersHeld
import Derived.Laws.BitsLemmas
import Derived.RowKit
namespace Go.Proofs.Ytihdojloghnmbaa.Given
open Go.RowKit Go.Maps Go.WideMaps
set_option linter.unusedVariables false

theorem law9 : Keyed Try.prog 9 := string_keyed Try.underlying9
theorem zero3 (w : World) : (zeroValue 3).run Try.prog w = .ok (.int .i64 0) w := by kernel_rfl

def key (s : ByteArray) : Lit := .string s.data.toList
def num (n : Nat) : DataW Unit := .lit (.int .i64 (n : Int))
theorem key_ne {a b : ByteArray} (h : a ≠ b) : key a ≠ key b := by
  intro e
  apply h
  simp only [key, Lit.string.injEq] at e
  apply ByteArray.ext
  exact Array.ext' e
/-- The datum of the names' map, the last name first. -/
def tabR : List ByteArray → DataW Unit
  | [] => .map []
  | s :: r => (tabR r).put (key s) (num r.length)
theorem tabR_map (r : List ByteArray) : IsMap (tabR r) := by
  cases r with
  | nil => exact isMap_empty
  | cons s r => exact (show IsMap ((tabR r).put _ _) from by
      obtain ⟨es, h⟩ := tabR_map r
      exact IsMap.put ⟨es, h⟩ _ _)
theorem isKey (s : ByteArray) : WideAt.IsKeyLit (key s) := by
  simp [key, WideAt.IsKeyLit]
theorem tabR_has (r : List ByteArray) (s : ByteArray) : Maps.has (tabR r) (key s) = true ↔ s ∈ r := by
  induction r with
  | nil => simp [tabR, Maps.has]
  | cons x r ih =>
    rw [tabR]
    by_cases h : s = x
    · subst h
      rw [has_put_same (tabR_map r) (isKey s)]
      simp
    · rw [has_put_other (key_ne h), ih]
      simp [h]

def tabD (names : List ByteArray) : DataW Unit := tabR names.reverse
theorem tabD_snoc (names : List ByteArray) (s : ByteArray) : tabD (names ++ [s]) = (tabD names).put (key s) (num names.length) := by
  simp [tabD, tabR]
theorem tabD_has (names : List ByteArray) (s : ByteArray) : Maps.has (tabD names) (key s) = true ↔ s ∈ names := by
  simp [tabD, tabR_has]
/-- Names that are all different: each one's number is its place. -/
theorem tabD_at (names : List ByteArray) (hn : names.Nodup) (i : Nat) (h : i < names.length) (z : DataW Unit) : (tabD names).atKey (key names[i]) z = num i := by
  have main : ∀ r : List ByteArray, r.Nodup → ∀ i (h : i < r.length), (tabR r).atKey (key r[i]) z = num (r.length - 1 - i) := by
    intro r
    induction r with
    | nil => intro _ i h; simp at h
    | cons x r ih =>
      intro hn i h
      rw [List.nodup_cons] at hn
      cases i with
      | zero =>
        rw [tabR]
        simp only [List.getElem_cons_zero]
        rw [atKey_put_same (tabR_map r) (isKey x)]
        simp
      | succ i =>
        simp only [List.length_cons] at h
        have hi : i < r.length := by omega
        have hne : key (r[i]) ≠ key x := key_ne (by rintro e; exact hn.1 (e ▸ List.getElem_mem hi))
        rw [tabR]
        simp only [List.getElem_cons_succ]
        rw [atKey_put_other hne, ih hn.2 i hi]
        simp
        congr 1
        omega
  have hr : names.length - 1 - i < names.reverse.length := by simp; omega
  have := main names.reverse (by rw [List.Nodup, List.pairwise_reverse]; exact hn.imp fun h => h.symm) (names.length - 1 - i) hr
  rw [tabD]
  simp only [List.getElem_reverse, List.length_reverse] at this
  have e : names.length - 1 - (names.length - 1 - i) = i := by omega
  simp only [e] at this
  exact this

/-- A table at block g: its map in block m, its list v. -/
def IsTab (B : Nat) (W : World) (g m : Nat) (v : Value) (most : Int) (names : List ByteArray) : Prop :=
  B ≤ g ∧ B ≤ m ∧ W.heap[g]? = some (.cells #[.int .i64 most, .map (some m), v] 41 (0, 0)) ∧
  W.ownsMap Try.prog 9 (plainElem Try.prog 3) m names.length (tabD names) ∧ W.ownsRow B 9 1 v names.length (names.map Value.string) ∧ names.Nodup

theorem IsTab.cell {B : Nat} {W : World} {g m : Nat} {v : Value} {most : Int} {names : List ByteArray} (h : IsTab B W g m v most names) :
    W.cell? ⟨g, 0, none⟩ = some (.int .i64 most) ∧ W.cell? ⟨g, 1, none⟩ = some (.map (some m)) ∧ W.cell? ⟨g, 2, none⟩ = some v := by
  obtain ⟨_, _, hb, _⟩ := h
  refine ⟨?_, ?_, ?_⟩ <;> simp [World.cell?, hb]
theorem IsTab.slice {B : Nat} {W : World} {g m : Nat} {v : Value} {most : Int} {names : List ByteArray} (h : IsTab B W g m v most names) : ∃ a c, v = .slice a names.length c := by
  obtain ⟨_, _, _, _, hr, _⟩ := h
  rcases hr.2 with ⟨h1, h2⟩ | ⟨b, cap, cur, h1, _⟩
  · exact ⟨none, 0, by rw [h1, h2]⟩
  · exact ⟨_, _, h1⟩

theorem len_calls (B : Nat) (W : World) (g m : Nat) (v : Value) (most : Int) (names : List ByteArray) (h : IsTab B W g m v most names) :
    Calls Try.prog 10 #[.pointer (some ⟨g, 0, none⟩)] W fun e w' => e = .returned (.int .i64 names.length) ∧ w' = W := by
  obtain ⟨c0, c1, c2⟩ := h.cell
  obtain ⟨a, c, rfl⟩ := h.slice
  go_enter Try.func10, Try.ntmps10
  go_wp2
  go_ret
  exact ⟨rfl, rfl⟩

theorem find_calls (B : Nat) (W : World) (g m : Nat) (v : Value) (most : Int) (names : List ByteArray) (h : IsTab B W g m v most names) (s : ByteArray) (hs : s.size ≤ maxLen) :
    Calls Try.prog 8 #[.pointer (some ⟨g, 0, none⟩), .string s] W fun e w' => ∃ c : Int, e = .returned (.tuple #[.int .i64 c, .bool (Maps.has (tabD names) (key s))]) ∧ (tabD names).atKey (key s) (.lit (.int .i64 0)) = .lit (.int .i64 c) ∧ w' = W := by
  obtain ⟨c0, c1, c2⟩ := h.cell
  have hown := h.2.2.2.1
  have hkey : keyOf Try.prog 9 (.string s) = some (key s) := keyOf_string_mk Try.underlying9 hs
  go_enter Try.func8, Try.ntmps8
  go_wp2_with (first
    | (at_lookup; refine wpList_lookup_own_ok_int _ rfl _ _ 39 rfl 9 3 .i64 law9 Try.underlying39 Try.underlying3 (zero3 _) m names.length (tabD names) rfl hown _ _ rfl hkey ?_; intro c hat hwc)
    | go_in)
  go_ret2
  exact ⟨c, rfl, hat, rfl⟩

theorem len_nil : ∀ W : World, Calls Try.prog 10 #[.pointer none] W fun e w' => e = .returned (.int .i64 0) ∧ w' = W := by
  intro W
  go_enter Try.func10, Try.ntmps10
  go_wp2
  go_ret
  exact ⟨rfl, rfl⟩
theorem find_nil (s : ByteArray) (W : World) : Calls Try.prog 8 #[.pointer none, .string s] W fun e w' => e = .returned (.tuple #[.int .i64 0, .bool false]) ∧ w' = W := by
  go_enter Try.func8, Try.ntmps8
  go_wp2
  go_ret2
  exact ⟨rfl, rfl⟩
theorem add_nil (s : ByteArray) (W : World) : Calls Try.prog 9 #[.pointer none, .string s] W fun e w' => e = .returned (.tuple #[.int .i64 0, .int .i64 1]) ∧ w' = W := by
  go_enter Try.func9, Try.ntmps9
  go_wp2
  go_ret2
  exact ⟨rfl, rfl⟩
theorem name_nil (n : Int) (W : World) : Calls Try.prog 11 #[.pointer none, .int .i64 n] W fun e w' => e = .returned (.tuple #[.string ⟨#[]⟩, .bool false]) ∧ w' = W := by
  go_enter Try.func11, Try.ntmps11
  go_wp2
  go_ret2
  exact ⟨rfl, rfl⟩

theorem name_calls (B : Nat) (W : World) (g m : Nat) (v : Value) (most : Int) (names : List ByteArray) (h : IsTab B W g m v most names) (n : Nat) (hn : n < names.length) :
    Calls Try.prog 11 #[.pointer (some ⟨g, 0, none⟩), .int .i64 (n : Int)] W fun e w' => e = .returned (.tuple #[.string names[n], .bool true]) ∧ w' = W := by
  obtain ⟨c0, c1, c2⟩ := h.cell
  obtain ⟨a, c, rfl⟩ := h.slice
  have hr := h.2.2.2.2.1
  obtain ⟨b, cap, hv⟩ : ∃ b cap, Value.slice a names.length c = .slice (some ⟨b, 0, none⟩) names.length cap := by
    rcases hr.2 with ⟨h1, h2⟩ | ⟨b, cap, cur, h1, _⟩
    · omega
    · exact ⟨_, _, h1⟩
  rw [hv] at hr c2
  have hc := hr.cellAt n (by omega)
  have hg : (names.map Value.string)[n]? = some (.string names[n]) := by simp [hn]
  rw [hg] at hc
  have h1 : ((n : Int) < 0) = False := eq_false (by omega)
  have h2 : ((n : Int) < (names.length : Int)) = True := eq_true (by omega)
  go_enter Try.func11, Try.ntmps11
  go_wp2
  go_ret2
  exact ⟨rfl, rfl⟩
theorem name_out (B : Nat) (W : World) (g m : Nat) (v : Value) (most : Int) (names : List ByteArray) (h : IsTab B W g m v most names) (n : Int) (hn : n < 0 ∨ (names.length : Int) ≤ n) :
    Calls Try.prog 11 #[.pointer (some ⟨g, 0, none⟩), .int .i64 n] W fun e w' => e = .returned (.tuple #[.string ⟨#[]⟩, .bool false]) ∧ w' = W := by
  obtain ⟨c0, c1, c2⟩ := h.cell
  obtain ⟨a, c, rfl⟩ := h.slice
  go_enter Try.func11, Try.ntmps11
  by_cases h0 : n < 0
  · go_wp2
    go_ret2
    exact ⟨rfl, rfl⟩
  · have h1 : (names.length : Int) ≤ n := by omega
    go_wp2
    go_ret2
    exact ⟨rfl, rfl⟩

theorem new_is (W : World) (most : Int) : IsTab W.heap.size ((W.alloc (Obj.map #[] 0)).alloc (Obj.cells #[Value.int IntKind.i64 most, Value.map (some W.heap.size), Value.slice none 0 0] 41)) (W.heap.size + 1) W.heap.size (.slice none 0 0) most [] := by
  refine ⟨by omega, Nat.le_refl _, ?_, ?_, ?_, List.nodup_nil⟩
  · have := heap_alloc_new (W.alloc (Obj.map #[] 0)) (Obj.cells #[Value.int IntKind.i64 most, Value.map (some W.heap.size), Value.slice none 0 0] 41)
    simpa using this
  · exact (World.ownsMap_made W Try.prog 9 (plainElem Try.prog 3)).alloc _
  · exact World.ownsRow_nil _ _ _ _
theorem new_calls (most : Int) (hm : -9223372036854775808 ≤ most ∧ most ≤ 9223372036854775807) (W : World) :
    Calls Try.prog 7 #[.int .i64 most] W fun e w' => ∃ g m, e = .returned (.pointer (some ⟨g, 0, none⟩)) ∧ IsTab W.heap.size w' g m (.slice none 0 0) (max most 0) [] ∧ Below W.heap.size W w' := by
  have hmm := @run_makeMap Try.prog
  go_enter Try.func7, Try.ntmps7
  go_wp2
  all_goals go_ret
  all_goals
    refine ⟨W.heap.size + 1, rfl, ⟨W.heap.size, ?_⟩, ((Below.refl _ W).alloc (Nat.le_refl _) _).alloc (by simp) _⟩
  · have e : max most 0 = 0 := by omega
    rw [e]
    exact new_is W 0
  · have e : max most 0 = most := by omega
    rw [e]
    exact new_is W most

def KeepS (W W' : World) (S : Nat → Prop) : Prop :=
  W'.os = W.os ∧ W'.tape = W.tape ∧ W'.output = W.output ∧ W.heap.size ≤ W'.heap.size ∧ ∀ k, k < W.heap.size → ¬ S k → W'.heap[k]? = W.heap[k]?
/-- What a table's methods may turn. -/
def Mine (g m : Nat) (v : Value) (k : Nat) : Prop := k = g ∨ k = m ∨ v.ownBlock = some k

set_option maxHeartbeats 2000000 in
theorem add_old (B : Nat) (W : World) (g m : Nat) (v : Value) (most : Int) (names : List ByteArray) (h : IsTab B W g m v most names) (i : Nat) (hi : i < names.length) (hs : names[i].size ≤ maxLen) :
    Calls Try.prog 9 #[.pointer (some ⟨g, 0, none⟩), .string names[i]] W fun e w' => e = .returned (.tuple #[.int .i64 (i : Int), .int .i64 0]) ∧ w' = W := by
  obtain ⟨c0, c1, c2⟩ := h.cell
  have hown := h.2.2.2.1
  have hkey : keyOf Try.prog 9 (.string names[i]) = some (key names[i]) := keyOf_string_mk Try.underlying9 hs
  have hat0 := tabD_at names h.2.2.2.2.2 i hi (.lit (.int .i64 0))
  have hhas : Maps.has (tabD names) (key names[i]) = true := (tabD_has names _).mpr (List.getElem_mem hi)
  generalize names[i] = s at *
  go_enter Try.func9, Try.ntmps9
  go_wp2_with (first
    | (at_lookup; refine wpList_lookup_own_ok_int _ rfl _ _ 39 rfl 9 3 .i64 law9 Try.underlying39 Try.underlying3 (zero3 _) m names.length (tabD names) rfl hown _ _ rfl hkey ?_; intro c hat hwc; rw [hhas])
    | go_in)
  go_ret2
  rw [hat0] at hat
  simp only [num, DataW.lit.injEq, Lit.int.injEq] at hat
  exact ⟨by rw [hat.2]; rfl, rfl⟩

set_option maxHeartbeats 2000000 in
theorem add_full (B : Nat) (W : World) (g m : Nat) (v : Value) (most : Int) (names : List ByteArray) (h : IsTab B W g m v most names) (s : ByteArray) (hs : s.size ≤ maxLen) (hn : s ∉ names) (hf : most ≤ (names.length : Int)) :
    Calls Try.prog 9 #[.pointer (some ⟨g, 0, none⟩), .string s] W fun e w' => e = .returned (.tuple #[.int .i64 0, .int .i64 5]) ∧ ∃ n, w' = W.drewN n := by
  obtain ⟨c0, c1, c2⟩ := h.cell
  have hown := h.2.2.2.1
  have hkey : keyOf Try.prog 9 (.string s) = some (key s) := keyOf_string_mk Try.underlying9 hs
  have hhas : Maps.has (tabD names) (key s) = false := by
    cases hh : Maps.has (tabD names) (key s)
    · rfl
    · exact absurd ((tabD_has names s).mp hh) hn
  obtain ⟨a, c, rfl⟩ := h.slice
  have hf2 : (most ≤ (names.length : Int)) = True := eq_true hf
  go_enter Try.func9, Try.ntmps9
  go_wp2_with (first
    | (at_lookup; refine wpList_lookup_own_ok_int _ rfl _ _ 39 rfl 9 3 .i64 law9 Try.underlying39 Try.underlying3 (zero3 _) m names.length (tabD names) rfl hown _ _ rfl hkey ?_; intro c hat hwc; rw [hhas])
    | go_in)
  go_quiet (fail)
  go_wp2
  go_ret2
  exact ⟨rfl, _, rfl⟩

theorem infoS : (Try.prog.info? 9).map (fun i => (i.zero, i.size, i.bytes)) = some (some (.string ⟨#[]⟩), 1, 16) := by kernel_rfl

theorem drewN_same (W : World) : ∀ n, (W.drewN n).heap = W.heap ∧ (W.drewN n).os = W.os ∧ (W.drewN n).tape = W.tape ∧ (W.drewN n).output = W.output
  | 0 => ⟨rfl, rfl, rfl, rfl⟩
  | n + 1 => drewN_same W n
theorem KeepS.of_same {W W' : World} {S : Nat → Prop} (h : W'.heap = W.heap ∧ W'.os = W.os ∧ W'.tape = W.tape ∧ W'.output = W.output) : KeepS W W' S :=
  ⟨h.2.1, h.2.2.1, h.2.2.2, by rw [h.1]; exact Nat.le_refl _, fun k _ _ => by rw [h.1]⟩
theorem KeepS.trans {a b c : World} {S : Nat → Prop} (h : KeepS a b S) (k : KeepS b c S) : KeepS a c S :=
  ⟨k.1.trans h.1, k.2.1.trans h.2.1, k.2.2.1.trans h.2.2.1, Nat.le_trans h.2.2.2.1 k.2.2.2.1, fun i hi hs => (k.2.2.2.2 i (Nat.lt_of_lt_of_le hi h.2.2.2.1) hs).trans (h.2.2.2.2 i hi hs)⟩
theorem KeepS.of_grown {W W' : World} {S : Nat → Prop} {row : Option Nat} (h : W.grownBy W' row) (hs : ∀ k, row = some k → S k) : KeepS W W' S :=
  ⟨h.os, h.tape, h.output, h.size, fun k hk hn => h.block k hk (fun e => hn (hs k e.symm))⟩
theorem IsTab.of_heap {B : Nat} {W W' : World} {g m : Nat} {v : Value} {most : Int} {names : List ByteArray} (h : IsTab B W g m v most names) (e : W'.heap = W.heap) : IsTab B W' g m v most names := by
  obtain ⟨h1, h2, h3, h4, h5, h6⟩ := h
  refine ⟨h1, h2, by rw [e]; exact h3, ?_, ?_, h6⟩
  · obtain ⟨es, cl, a, b⟩ := h4
    exact ⟨es, cl, by rw [e]; exact a, b⟩
  · refine ⟨h5.1, ?_⟩
    rcases h5.2 with a | ⟨g', cap, cur, a, b, c, d⟩
    · exact .inl a
    · exact .inr ⟨g', cap, cur, a, b, by rw [e]; exact c, d⟩
/-- A table's three blocks are three. -/
theorem IsTab.apart {B : Nat} {W : World} {g m : Nat} {v : Value} {most : Int} {names : List ByteArray} (h : IsTab B W g m v most names) : g ≠ m ∧ v.ownBlock ≠ some g ∧ v.ownBlock ≠ some m := by
  obtain ⟨h1, h2, h3, ⟨es, cl, h4, _⟩, h5, h6⟩ := h
  refine ⟨?_, ?_, ?_⟩
  · rintro rfl
    rw [h3] at h4; cases h4
  · rcases h5.2 with ⟨rfl, _⟩ | ⟨b, cap, cur, rfl, _, hb, _⟩
    · simp [Value.ownBlock]
    · intro e
      simp only [Value.ownBlock, Option.some.injEq] at e
      rw [e, h3] at hb
      cases hb
  · rcases h5.2 with ⟨rfl, _⟩ | ⟨b, cap, cur, rfl, _, hb, _⟩
    · simp [Value.ownBlock]
    · intro e
      simp only [Value.ownBlock, Option.some.injEq] at e
      rw [e, h4] at hb
      cases hb

theorem upd_facts {B : Nat} {w2 w3 : World} {g m : Nat} {v : Value} {most : Int} {names : List ByteArray} (h : IsTab B w2 g m v most names) (hg : w2.grownBy w3 (some m)) :
    w3.heap[g]? = some (.cells #[.int .i64 most, .map (some m), v] 41 (0, 0)) ∧ w3.cell? ⟨g, 0, none⟩ = some (.int .i64 most) ∧ w3.cell? ⟨g, 2, none⟩ = some v ∧ w3.ownsRow B 9 1 v names.length (names.map Value.string) := by
  obtain ⟨hgm, hvg, hvm⟩ := h.apart
  have hb2 := h.2.2.1
  have hb3 : w3.heap[g]? = some (.cells #[.int .i64 most, .map (some m), v] 41 (0, 0)) := (hg.block g (Array.getElem?_eq_some_iff.1 hb2).1 (by simpa using hgm)).trans hb2
  refine ⟨hb3, ?_, ?_, h.2.2.2.2.1.kept hg (.inr hvm)⟩ <;> simp [World.cell?, hb3]

theorem own_slice {W : World} {B : Nat} {e : TypeId} {v : Value} {n : Nat} {xs : List Value} (h : W.ownsRow B e 1 v n xs) : ∃ a c, v = .slice a n c := by
  rcases h.2 with ⟨h1, h2⟩ | ⟨b, cap, cur, h1, _⟩
  · exact ⟨none, 0, by rw [h1, h2]⟩
  · exact ⟨_, _, h1⟩
theorem app_facts {w3 w4 : World} {g m : Nat} {v : Value} {most : Int} {o : Obj} (hb3 : w3.heap[g]? = some (.cells #[.int .i64 most, .map (some m), v] 41 (0, 0))) (hvg : v.ownBlock ≠ some g) (hg : (w3.alloc o).grownBy w4 v.ownBlock) :
    w4.heap[g]? = some (.cells #[.int .i64 most, .map (some m), v] 41 (0, 0)) ∧ w4.cell? ⟨g, 2, none⟩ = some v ∧ w4.frozen? ⟨g, 2, none⟩ = false := by
  have hlt := (Array.getElem?_eq_some_iff.1 hb3).1
  have hb4 : w4.heap[g]? = some (.cells #[.int .i64 most, .map (some m), v] 41 (0, 0)) :=
    (hg.block g (by simp; omega) (fun e => hvg e.symm)).trans ((Below.heap_alloc w3 o g hlt).trans hb3)
  refine ⟨hb4, ?_, ?_⟩
  · simp [World.cell?, hb4]
  · simp [World.frozen?, hb4]

theorem add_done {B : Nat} {w2 w3 w4 : World} {g m : Nat} {v v4 : Value} {most : Int} {names : List ByteArray} {s : ByteArray} {o : Obj} (h : IsTab B w2 g m v most names) (hB : B ≤ w2.heap.size) (hn : s ∉ names)
    (hown3 : w3.ownsMap Try.prog 9 (plainElem Try.prog 3) m (names.length + 1) ((tabD names).put (key s) (num names.length))) (hg3 : w2.grownBy w3 (some m))
    (hown4 : w4.ownsRow B 9 1 v4 (names.length + 1) (names.map Value.string ++ [Value.string s])) (hg4 : (w3.alloc o).grownBy w4 v.ownBlock)
    (hloc : v4.ownBlock = v.ownBlock ∨ v4.ownBlock = some (w3.alloc o).heap.size) (hb4 : w4.heap[g]? = some (.cells #[.int .i64 most, .map (some m), v] 41 (0, 0))) :
    IsTab B (w4.setCell ⟨g, 2, none⟩ v4) g m v4 most (names ++ [s]) ∧ KeepS w2 (w4.setCell ⟨g, 2, none⟩ v4) (Mine g m v) ∧ (v4.ownBlock = v.ownBlock ∨ ∃ k, v4.ownBlock = some k ∧ w2.heap.size ≤ k) := by
  obtain ⟨hgm, hvg, hvm⟩ := h.apart
  have hgl : g < w2.heap.size := (Array.getElem?_eq_some_iff.1 h.2.2.1).1
  have hml : m < w2.heap.size := h.2.2.2.1.lt
  have hs3 := hg3.size
  have hs4 := hg4.size
  have hsz : (w3.alloc o).heap.size = w3.heap.size + 1 := by simp
  have hvg4 : v4.ownBlock ≠ some g := by
    rcases hloc with e | e <;> rw [e]
    · exact hvg
    · intro e2
      have := Option.some.inj e2
      omega
  refine ⟨⟨h.1, h.2.1, ?_, ?_, ?_, ?_⟩, ?_, ?_⟩
  · simp [World.setCell, Array.getElem?_modify, hb4]
  · have h5 := ((hown3.alloc o).kept hg4 (fun e => hvm e.symm))
    rw [tabD_snoc]
    obtain ⟨es, cl, a, b⟩ := h5
    refine ⟨es, cl, ?_, ?_⟩
    · rw [Below.heap_setCell w4 ⟨g, 2, none⟩ v4 m (fun e => hgm e.symm)]
      exact a
    · simpa using b
  · have := ownsRow_setCell_other hown4 (a := ⟨g, 2, none⟩) hvg4 v4
    simpa using this
  · rw [List.nodup_append]
    refine ⟨h.2.2.2.2.2, by simp, ?_⟩
    intro x hx y hy
    simp at hy
    subst hy
    rintro rfl
    exact hn hx
  · refine ⟨?_, ?_, ?_, ?_, ?_⟩
    · exact hg4.os.trans hg3.os
    · exact hg4.tape.trans hg3.tape
    · exact hg4.output.trans hg3.output
    · simp; omega
    · intro k hk hs
      simp only [Mine, not_or] at hs
      rw [Below.heap_setCell w4 ⟨g, 2, none⟩ v4 k hs.1, hg4.block k (by omega) (fun e => hs.2.2 e.symm), Below.heap_alloc w3 o k (by omega)]
      exact hg3.block k hk (by simpa using hs.2.1)
  · rcases hloc with e | e
    · exact .inl e
    · exact .inr ⟨_, e, by omega⟩

set_option maxHeartbeats 4000000 in
theorem add_new (B : Nat) (W : World) (g m : Nat) (v : Value) (most : Int) (names : List ByteArray) (h : IsTab B W g m v most names) (s : ByteArray) (hs : s.size ≤ maxLen) (hn : s ∉ names) (hf : (names.length : Int) < most) (hl : names.length ≤ 100000) (hB : B ≤ W.heap.size) :
    Calls Try.prog 9 #[.pointer (some ⟨g, 0, none⟩), .string s] W fun e w' => e = .returned (.tuple #[.int .i64 (names.length : Int), .int .i64 0]) ∧ ∃ v', IsTab B w' g m v' most (names ++ [s]) ∧ KeepS W w' (Mine g m v) ∧ (v'.ownBlock = v.ownBlock ∨ ∃ k, v'.ownBlock = some k ∧ W.heap.size ≤ k) := by
  obtain ⟨c0, c1, c2⟩ := h.cell
  have hown := h.2.2.2.1
  have hkey : keyOf Try.prog 9 (.string s) = some (key s) := keyOf_string_mk Try.underlying9 hs
  have hhas : Maps.has (tabD names) (key s) = false := by
    cases hh : Maps.has (tabD names) (key s)
    · rfl
    · exact absurd ((tabD_has names s).mp hh) hn
  have hrow := h.2.2.2.2.1
  obtain ⟨a, cp, rfl⟩ := h.slice
  obtain ⟨i0, hi, hzz⟩ := Option.map_eq_some_iff.1 infoS
  simp only [Prod.mk.injEq] at hzz
  obtain ⟨hz0, hz1, hz2⟩ := hzz
  have hf2 : (most ≤ (names.length : Int)) = False := eq_false (by omega)
  go_enter Try.func9, Try.ntmps9
  go_wp2_with (first
    | (at_lookup; refine wpList_lookup_own_ok_int _ rfl _ _ 39 rfl 9 3 .i64 law9 Try.underlying39 Try.underlying3 (zero3 _) m names.length (tabD names) rfl hown _ _ rfl hkey ?_; intro c hat hwc; rw [hhas])
    | go_in)
  go_quiet (fail)
  go_wp2
  have hsame := drewN_same W nq
  have h' := h.of_heap hsame.1
  have hB' : B ≤ (W.drewN nq).heap.size := by rw [hsame.1]; exact hB
  have hk0 : KeepS W (W.drewN nq) (Mine g m (.slice a names.length cp)) := KeepS.of_same hsame
  clear hown hrow hsame c0 c1 c2
  generalize W.drewN nq = w1 at *
  obtain ⟨c0, c1, c2⟩ := h'.cell
  go_still_tail 10, (by kernel_rfl)
  have h2 : IsTab B w1.drew g m (.slice a names.length cp) most names := h'.of_heap rfl
  have hB2 : B ≤ w1.drew.heap.size := hB'
  have hk1 : KeepS W w1.drew (Mine g m (.slice a names.length cp)) := hk0
  clear h' hB' hk0 c0 c1 c2
  change wpList _ _ _ _ _ w1.drew
  generalize w1.drew = w2 at *
  obtain ⟨c0, c1, c2⟩ := h2.cell
  have hown := h2.2.2.2.1
  have hrow := h2.2.2.2.2.1
  have hwf : (Lit.int .i64 (names.length : Int)).wf = true := by
    simp [Lit.wf, IntKind.min, IntKind.max, IntKind.signed, IntKind.bits]
    omega
  obtain ⟨hgm, hvg, hvm⟩ := h2.apart
  have hb2 := h2.2.2.1
  go_wp2_with (first
    | (at_mapUpdate; refine wpList_mapUpdate_own _ rfl _ _ _ 39 rfl 9 3 law9 Try.underlying39 _ m names.length (tabD names) rfl hown (by unfold maxLen; omega) _ _ _ rfl rfl hkey (num names.length) [] (plainElem_int Try.underlying3 hwf) ?_; intro w3 hown3 hgrow3; obtain ⟨hb3, d0, d2, hrow3⟩ := upd_facts h2 hgrow3)
    | (at_builtin; refine wpList_append_own_at _ rfl _ _ 22 rfl B 9 i0 (.string ⟨#[]⟩) 1 16 Try.underlying22 hi hz0 hz1 hz2 rfl (by decide) _ _ _ rfl (hrow3.alloc _) ⟨w3.heap.size, 0, none⟩ 1 1 [.string s] rfl rfl (cell_one_new _ _ _) (by intro u hu; simp at hu; subst hu; rfl) (by unfold maxLen; omega) (by omega) (by have := hgrow3.size; simp; omega) ?_; intro v4 w4 hown4 hgrow4 hnil4 hloc4; obtain ⟨a4, c4, rfl⟩ := own_slice hown4; obtain ⟨hb4, e2, e3⟩ := app_facts (v := .slice a names.length cp) hb3 hvg hgrow4)
    | go_in)
  go_ret2
  have hd := add_done (o := .cells #[.string s] 9) (v4 := .slice a4 (names.length + 1) c4) h2 hB2 hn hown3 hgrow3 hown4 hgrow4 hloc4 hb4
  exact ⟨rfl, _, hd.1, hk1.trans hd.2.1, hd.2.2.imp id fun ⟨k, e, hk⟩ => ⟨k, e, Nat.le_trans hk1.2.2.2.1 hk⟩⟩

end Go.Proofs.Ytihdojloghnmbaa.Given
