/- strings.Cut, Trim, TrimPrefix, and the functions that write a text in small letters: their contracts in the printed form. -/
import Derived.Test.YthbmedhejlhclaaDoorPlain
import Derived.Test.YthbmedhejlhclaaDoorGivA
import Derived.Test.YthbmedhejlhclaaDoorWWords
import Derived.Shelf.Strings.SlTrimAscii
namespace Go.Proofs.YthbmedhejlhclaaDoor.Given
open Go.RowKit Go.Proofs.YthbmedhejlhclaaDoorW.PrintWords
set_option linter.unusedVariables false

/-- The package variable that Index reads. -/
def Shp (w : World) : Prop := ∃ m : Int, w.cell? ⟨0, 0, none⟩ = some (.int .i64 m)
theorem Shp.lt {w : World} (h : Shp w) : 0 < w.heap.size := by
  obtain ⟨m, hm⟩ := h
  apply Decidable.byContradiction
  intro hh
  simp only [World.cell?] at hm
  rw [Array.getElem?_eq_none (by omega)] at hm
  cases hm
theorem Shp.below {w w' : World} (h : Shp w) (hb : Below w.heap.size w w') : Shp w' := by
  have h0 := h.lt
  obtain ⟨m, hm⟩ := h
  exact ⟨m, (hb.cell (p := ⟨0, 0, none⟩) h0).trans hm⟩

theorem empty_bne (l : List UInt8) : l.isEmpty = !(l != []) := by cases l <;> rfl
def strings_Cut.f (a0 a1 : ByteArray) : Option (ByteArray × ByteArray × Bool) :=
  if a0.size < 4294967281 then some (⟨(Lib.cut a0.data.toList a1.data.toList).1.toArray⟩, ⟨(Lib.cut a0.data.toList a1.data.toList).2.1.toArray⟩, (Lib.cut a0.data.toList a1.data.toList).2.2) else none
theorem strings_Cut.calls (a0 a1 : ByteArray) (r1 r2 : ByteArray) (r3 : Bool) (w : World) (h : strings_Cut.f a0 a1 = some (r1, r2, r3)) (hS_ : Shp w) :
    Calls Tryd.prog 24 #[.string a0, .string a1] w fun e w' => e = .returned (.tuple #[.string r1, .string r2, .bool r3]) ∧ Drawn0 w w' := by
  obtain ⟨m, hm⟩ := hS_
  unfold strings_Cut.f at h
  split at h
  · rename_i hc
    obtain ⟨rfl, h2⟩ := Prod.mk.inj (Option.some.inj h)
    obtain ⟨rfl, rfl⟩ := Prod.mk.inj h2
    exact (Tryd.strings_Cut a0 a1 m w hc hm).mono fun e w' ⟨h1, h2⟩ => ⟨h1, ⟨h2⟩⟩
  · cases h

def strings_Trim.f (a0 a1 : ByteArray) : Option ByteArray :=
  if a0.size ≤ 1099511627776 ∧ a1.size < 1000 ∧ (a1.data.toList.all fun b => decide (b.toNat < 128)) = true then some ⟨(Lib.trimS a0.data.toList a1.data.toList).toArray⟩ else none
theorem strings_Trim.calls (a0 a1 : ByteArray) (r : ByteArray) (w : World) (h : strings_Trim.f a0 a1 = some r) :
    Calls Tryd.prog 29 #[.string a0, .string a1] w fun e w' => e = .returned (.string r) ∧ Below w.heap.size w w' := by
  unfold strings_Trim.f at h
  split at h
  · rename_i hc
    obtain rfl := Option.some.inj h
    refine Any.strings_Trim_laid Tryd.lays160 (by kernel_rfl) a0 a1 w (by omega) (by omega) ?_
    intro j b hj
    have := List.all_eq_true.mp hc.2.2 b (List.mem_of_getElem? hj)
    simpa using this
  · cases h

def strings_TrimPrefix.f (a0 a1 : ByteArray) : Option ByteArray := some ⟨(Lib.trimPrefix a0.data.toList a1.data.toList).toArray⟩
theorem strings_TrimPrefix.calls (a0 a1 : ByteArray) (r : ByteArray) (w : World) (h : strings_TrimPrefix.f a0 a1 = some r) :
    Calls Tryd.prog 18 #[.string a0, .string a1] w fun e w' => e = .returned (.string r) ∧ Drawn0 w w' := by
  obtain rfl := Option.some.inj h
  exact (Tryd.strings_TrimPrefix a0 a1 w).mono fun e w' ⟨h1, h2⟩ => ⟨h1, h2 ▸ Drawn0.refl w⟩

def lines_lower.f (a0 : ByteArray) : Option ByteArray := if a0.size ≤ 1099511627776 then some ⟨(lowL a0.data.toList).toArray⟩ else none
theorem lines_lower.calls (a0 : ByteArray) (r : ByteArray) (w : World) (h : lines_lower.f a0 = some r) :
    Calls Tryd.prog 28 #[.string a0] w fun e w' => e = .returned (.string r) ∧ Below w.heap.size w w' := by
  unfold lines_lower.f at h
  split at h
  · rename_i hc
    obtain rfl := Option.some.inj h
    exact lower_calls a0 w hc
  · cases h
def decorumref09_Lower.f (a0 : ByteArray) : Option ByteArray := if a0.size ≤ 1099511627776 then some ⟨(lowL a0.data.toList).toArray⟩ else none
theorem decorumref09_Lower.calls (a0 : ByteArray) (r : ByteArray) (w : World) (h : decorumref09_Lower.f a0 = some r) :
    Calls Tryd.prog 23 #[.string a0] w fun e w' => e = .returned (.string r) ∧ Below w.heap.size w w' := by
  unfold decorumref09_Lower.f at h
  split at h
  · rename_i hc
    obtain rfl := Option.some.inj h
    exact Lower_calls a0 w hc
  · cases h
end Go.Proofs.YthbmedhejlhclaaDoor.Given
