/- strings.ContainsRune at a rune below 128: the shelf's contract in the printed form. -/
import Derived.Test.YtioafmnobmgdkaaDoorPlain
import Derived.Test.YtioafmnobmgdkaaDoorWWords
namespace Go.Proofs.YtioafmnobmgdkaaDoor.Given
open Go.RowKit Go.Proofs.YtioafmnobmgdkaaDoorW.PrintWords
def strings_ContainsRune.f (a0 : ByteArray) (a1 : Int) : Option Bool :=
  if 0 ≤ a1 ∧ a1 < 128 then some (decide (0 ≤ Lib.indexByte a0.data.toList a1.toNat.toUInt8)) else none
theorem strings_ContainsRune.calls (a0 : ByteArray) (a1 : Int) (r : Bool) (w : World) (h : strings_ContainsRune.f a0 a1 = some r) :
    Calls Tryd.prog 32 #[.string a0, .int .i32 a1] w fun e w' => e = .returned (.bool r) ∧ Drawn0 w w' := by
  unfold strings_ContainsRune.f at h
  split at h
  · rename_i hc
    obtain rfl := Option.some.inj h
    exact (Tryd.strings_ContainsRune_ascii a0 a1 w hc.1 hc.2).mono fun e w' ⟨h1, h2⟩ => ⟨h1, h2 ▸ Drawn0.refl w⟩
  · cases h
end Go.Proofs.YtioafmnobmgdkaaDoor.Given
