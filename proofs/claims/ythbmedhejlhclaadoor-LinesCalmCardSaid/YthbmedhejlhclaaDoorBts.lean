/- A row of bytes that a conversion of a text made: read, written, turned back. -/
import Derived.WalkKit
import Derived.Below
import Derived.Lib.ConvBytes
import Derived.Laws.IdiomStrings
namespace Go.Proofs.YthbmedhejlhclaaDoor.Given
open Go.RowKit
set_option linter.unusedVariables false

/-- Block b's cells begin with the bytes l; the mark stands behind them. -/
def Bts (w : World) (b : Nat) (l : List UInt8) : Prop :=
  ∃ cs : Array Value, w.heap[b]? = some (.cells cs 5 (cs.size, cs.size + 1)) ∧ l.length ≤ cs.size ∧ ∀ j (h : j < l.length), cs[j]? = some (.int .u8 ((l[j]).toNat : Int))
theorem Bts.of (w : World) (s : ByteArray) : Bts (Lib.bytesWorld w 5 s) w.heap.size s.data.toList := by
  refine ⟨_, Lib.bytesWorld_at_new w 5 s, by simp [Lib.bytesCells], ?_⟩
  intro j h
  have h' : j < s.size := by simpa using h
  simp [Lib.bytesCells, Array.getElem?_append, h']
theorem Bts.cell {w : World} {b : Nat} {l : List UInt8} (h : Bts w b l) (j : Nat) (hj : j < l.length) : w.cell? ⟨b, j, none⟩ = some (.int .u8 ((l[j]).toNat : Int)) := by
  obtain ⟨cs, h1, h2, h3⟩ := h
  simp only [World.cell?, h1]
  simpa using h3 j hj
theorem Bts.frozen {w : World} {b : Nat} {l : List UInt8} (h : Bts w b l) (j : Nat) (hj : j < l.length) : w.frozen? ⟨b, j, none⟩ = false := by
  obtain ⟨cs, h1, h2, h3⟩ := h
  simp only [World.frozen?, h1]
  rw [Bool.and_eq_false_iff]
  left
  simp
  omega
theorem Bts.set {w : World} {b : Nat} {l : List UInt8} (h : Bts w b l) (j : Nat) (hj : j < l.length) (c : UInt8) : Bts (w.setCell ⟨b, j, none⟩ (.int .u8 (c.toNat : Int))) b (l.set j c) := by
  obtain ⟨cs, h1, h2, h3⟩ := h
  refine ⟨cs.setIfInBounds j (.int .u8 (c.toNat : Int)), ?_, by simpa using h2, ?_⟩
  · simp [World.setCell, Array.getElem?_modify, h1]
  · intro i hi
    have hi' : i < l.length := by simpa using hi
    rw [Array.getElem?_setIfInBounds]
    by_cases e : j = i
    · subst e
      rw [if_pos rfl, if_pos (by omega)]
      simp
    · rw [if_neg e, h3 i hi']
      simp [e]
theorem Bts.below (w : World) (s : ByteArray) : Below w.heap.size w (Lib.bytesWorld w 5 s) :=
  ⟨by simp [Lib.bytesWorld, World.freeze, World.alloc, World.drew, -World.alloc_eq, -World.drew_eq], by simp [Lib.bytesWorld, World.freeze, World.alloc, World.drew, -World.alloc_eq, -World.drew_eq], by simp [Lib.bytesWorld, World.freeze, World.alloc, World.drew, -World.alloc_eq, -World.drew_eq],
    by rw [Lib.bytesWorld_size]; omega, fun k hk => Lib.bytesWorld_at_old w 5 s k hk⟩
/-- A byte in small letters. -/
def lowB (c : UInt8) : UInt8 := if 65 ≤ c.toNat ∧ c.toNat ≤ 90 then UInt8.ofNat (c.toNat + 32) else c
def lowL (l : List UInt8) : List UInt8 := l.map lowB
theorem low_next (s : List UInt8) (i : Nat) (h : i < s.length) : ((s.take i).map lowB ++ s.drop i).set i (lowB s[i]) = (s.take (i + 1)).map lowB ++ s.drop (i + 1) := by
  rw [List.set_append_right _ _ (by simp; omega)]
  rw [List.drop_eq_getElem_cons h, List.take_add_one, List.getElem?_eq_getElem h]
  have e : i - (List.map lowB (List.take i s)).length = 0 := by simp; omega
  rw [e, List.set_cons_zero]
  simp only [Option.toList_some, List.map_append, List.map_cons, List.map_nil, List.append_assoc, List.singleton_append]
theorem low_at (s : List UInt8) (i : Nat) (h : i < s.length) (h2 : i < ((s.take i).map lowB ++ s.drop i).length) : ((s.take i).map lowB ++ s.drop i)[i]'h2 = s[i] := by
  rw [List.getElem_append_right (by simp; omega)]
  have e : i - (List.map lowB (List.take i s)).length = 0 := by simp; omega
  simp only [e]
  rw [List.getElem_drop]
  rfl
theorem low_skip (s : List UInt8) (i : Nat) (h : i < s.length) (hl : lowB s[i] = s[i]) : (s.take i).map lowB ++ s.drop i = (s.take (i + 1)).map lowB ++ s.drop (i + 1) := by
  rw [← low_next s i h, hl]
  have := low_at s i h (by simp; omega)
  conv => rhs; rw [← this]
  rw [List.set_getElem_self]
theorem low_len (s : List UInt8) (i : Nat) : ((s.take i).map lowB ++ s.drop i).length = s.length := by simp; omega
end Go.Proofs.YthbmedhejlhclaaDoor.Given
