/-
  No cell of these rows narrows 'for every input' (looked for: loops, veiled, ifaces, maps, wideKeys, modest, calm, conditions, laid).
  DERIVED. THE GIVEN ROWS OF THIS SEAT. 6 by the template 'for every input the law returns true; each argument reads behind the call as it read before'; 0 by the template 'total and deterministic' (their statements: YtnbahmjpgjnoaaaTotals.lean).
  GIVEN WITH THE SEED: the statements are not yours to turn. If you find one false, say at which input.
  Laid BY PROGRAM, IN A SANDBOX (cutbox-rows.mjs): the forced cells as the released guide's own fill.sh prints them over the translation 43f8b3ce205c65a0… (all of the seat's roots in one cut). By AI agents, Wed Nov 11 2026. No macro, syntax, notation, axiom, sorry.
-/
import Derived.Test.YtnbahmjpgjnoaaaChecked
import GoSem.Claim
import GoSem.ClaimJoined
import GoSem.ClaimMapViews
import Derived.JoinedTies
import Derived.KernelRfl
namespace Go.Proofs.Ytnbahmjpgjnoaaa
/- THE CELL 'sum', in the pinned program and in every row, IS THE sha256 OF THE DUMP (.gsa) THAT YtnbahmjpgjnoaaaProg.lean LOADS. Nothing in Lean hashes anything: it is a label: what it is worth is what the hold of that sum in a sandbox is worth. -/
noncomputable def Try.pinned : Pinned := { name := "ytnbahmjpgjnoaaa", sum := "43f8b3ce205c65a003b65a2cd57c7c83d8e118d141b9ea8a3ff28a87b7722f07", checked := Try.checked }
namespace Rows
def none {H : Type} : Left H := { results := [], args := [] }

/-- 'decorumlaw04.PctNorms': WHATEVER THE INPUT: true; the input reads as it did. -/
def pctNormsSpec : ChangeSpec := { name := "pctNorms", fn := fun _ => fun
  | [d] => { results := [.lit (.bool true)], args := [d] }
  | _ => none }
def pctNormsRow : OpenClaim := { program := "ytnbahmjpgjnoaaa", sum := "43f8b3ce205c65a003b65a2cd57c7c83d8e118d141b9ea8a3ff28a87b7722f07", func := "decorum/decorumlaw04.PctNorms", spec := "pctNorms", inPlace := ["internal/bytealg.IndexByteString", "internal/bytealg.IndexString", "internal/abi.NoEscape"], named := ["internal/bytealg.MaxLen"], apart := false }
def PctNormsSaid : Prop := pctNormsRow.holds Try.pinned (OpenSpec.ofChange pctNormsSpec)

/-- ITS FALSE NEIGHBOUR: 'it returns false'. Refute it at one input. -/
def pctNormsWrong : ChangeSpec := { name := "pctNorms", fn := fun _ => fun
  | [d] => { results := [.lit (.bool false)], args := [d] }
  | _ => none }
def PctNormsWrongFalsely : Prop := pctNormsRow.holds Try.pinned (OpenSpec.ofChange pctNormsWrong)

/-- 'decorumlaw04.PctDecodes': WHATEVER THE INPUT: true; the input reads as it did. -/
def pctDecodesSpec : ChangeSpec := { name := "pctDecodes", fn := fun _ => fun
  | [d] => { results := [.lit (.bool true)], args := [d] }
  | _ => none }
def pctDecodesRow : OpenClaim := { program := "ytnbahmjpgjnoaaa", sum := "43f8b3ce205c65a003b65a2cd57c7c83d8e118d141b9ea8a3ff28a87b7722f07", func := "decorum/decorumlaw04.PctDecodes", spec := "pctDecodes", inPlace := ["internal/bytealg.IndexByteString", "internal/bytealg.IndexString", "internal/abi.NoEscape"], named := ["internal/bytealg.MaxLen"], apart := false }
def PctDecodesSaid : Prop := pctDecodesRow.holds Try.pinned (OpenSpec.ofChange pctDecodesSpec)

/-- ITS FALSE NEIGHBOUR: 'it returns false'. Refute it at one input. -/
def pctDecodesWrong : ChangeSpec := { name := "pctDecodes", fn := fun _ => fun
  | [d] => { results := [.lit (.bool false)], args := [d] }
  | _ => none }
def PctDecodesWrongFalsely : Prop := pctDecodesRow.holds Try.pinned (OpenSpec.ofChange pctDecodesWrong)

/-- 'decorumlaw04.PctAgain': WHATEVER THE INPUT: true; the input reads as it did. -/
def pctAgainSpec : ChangeSpec := { name := "pctAgain", fn := fun _ => fun
  | [d] => { results := [.lit (.bool true)], args := [d] }
  | _ => none }
def pctAgainRow : OpenClaim := { program := "ytnbahmjpgjnoaaa", sum := "43f8b3ce205c65a003b65a2cd57c7c83d8e118d141b9ea8a3ff28a87b7722f07", func := "decorum/decorumlaw04.PctAgain", spec := "pctAgain", inPlace := ["internal/bytealg.IndexByteString", "internal/bytealg.IndexString", "internal/abi.NoEscape"], named := ["internal/bytealg.MaxLen"], apart := false }
def PctAgainSaid : Prop := pctAgainRow.holds Try.pinned (OpenSpec.ofChange pctAgainSpec)

/-- ITS FALSE NEIGHBOUR: 'it returns false'. Refute it at one input. -/
def pctAgainWrong : ChangeSpec := { name := "pctAgain", fn := fun _ => fun
  | [d] => { results := [.lit (.bool false)], args := [d] }
  | _ => none }
def PctAgainWrongFalsely : Prop := pctAgainRow.holds Try.pinned (OpenSpec.ofChange pctAgainWrong)

/-- 'decorumlaw04.PctParts': WHATEVER THE INPUT: true; the input reads as it did. -/
def pctPartsSpec : ChangeSpec := { name := "pctParts", fn := fun _ => fun
  | [d1, d2] => { results := [.lit (.bool true)], args := [d1, d2] }
  | _ => none }
def pctPartsRow : OpenClaim := { program := "ytnbahmjpgjnoaaa", sum := "43f8b3ce205c65a003b65a2cd57c7c83d8e118d141b9ea8a3ff28a87b7722f07", func := "decorum/decorumlaw04.PctParts", spec := "pctParts", inPlace := ["internal/bytealg.IndexByteString", "internal/bytealg.IndexString", "internal/abi.NoEscape"], named := ["internal/bytealg.MaxLen"], apart := false }
def PctPartsSaid : Prop := pctPartsRow.holds Try.pinned (OpenSpec.ofChange pctPartsSpec)

/-- ITS FALSE NEIGHBOUR: 'it returns false'. Refute it at one input. -/
def pctPartsWrong : ChangeSpec := { name := "pctParts", fn := fun _ => fun
  | [d1, d2] => { results := [.lit (.bool false)], args := [d1, d2] }
  | _ => none }
def PctPartsWrongFalsely : Prop := pctPartsRow.holds Try.pinned (OpenSpec.ofChange pctPartsWrong)

/-- 'decorumlaw04.PctPlain': WHATEVER THE INPUT: true; the input reads as it did. -/
def pctPlainSpec : ChangeSpec := { name := "pctPlain", fn := fun _ => fun
  | [d] => { results := [.lit (.bool true)], args := [d] }
  | _ => none }
def pctPlainRow : OpenClaim := { program := "ytnbahmjpgjnoaaa", sum := "43f8b3ce205c65a003b65a2cd57c7c83d8e118d141b9ea8a3ff28a87b7722f07", func := "decorum/decorumlaw04.PctPlain", spec := "pctPlain", inPlace := ["internal/bytealg.IndexByteString", "internal/bytealg.IndexString", "internal/abi.NoEscape"], named := ["internal/bytealg.MaxLen"], apart := false }
def PctPlainSaid : Prop := pctPlainRow.holds Try.pinned (OpenSpec.ofChange pctPlainSpec)

/-- ITS FALSE NEIGHBOUR: 'it returns false'. Refute it at one input. -/
def pctPlainWrong : ChangeSpec := { name := "pctPlain", fn := fun _ => fun
  | [d] => { results := [.lit (.bool false)], args := [d] }
  | _ => none }
def PctPlainWrongFalsely : Prop := pctPlainRow.holds Try.pinned (OpenSpec.ofChange pctPlainWrong)

/-- 'decorumlaw04.PctDecoded': WHATEVER THE INPUT: true; the input reads as it did. -/
def pctDecodedSpec : ChangeSpec := { name := "pctDecoded", fn := fun _ => fun
  | [d] => { results := [.lit (.bool true)], args := [d] }
  | _ => none }
def pctDecodedRow : OpenClaim := { program := "ytnbahmjpgjnoaaa", sum := "43f8b3ce205c65a003b65a2cd57c7c83d8e118d141b9ea8a3ff28a87b7722f07", func := "decorum/decorumlaw04.PctDecoded", spec := "pctDecoded", inPlace := ["internal/bytealg.IndexByteString", "internal/bytealg.IndexString", "internal/abi.NoEscape"], named := ["internal/bytealg.MaxLen"], apart := false }
def PctDecodedSaid : Prop := pctDecodedRow.holds Try.pinned (OpenSpec.ofChange pctDecodedSpec)

/-- ITS FALSE NEIGHBOUR: 'it returns false'. Refute it at one input. -/
def pctDecodedWrong : ChangeSpec := { name := "pctDecoded", fn := fun _ => fun
  | [d] => { results := [.lit (.bool false)], args := [d] }
  | _ => none }
def PctDecodedWrongFalsely : Prop := pctDecodedRow.holds Try.pinned (OpenSpec.ofChange pctDecodedWrong)

/- THE SECOND FORM. 'bulk': how many values and letters a reading holds, each counted each time it is reached (what is shared counts as often as it is met; a slice's spare places count too). A statement '..UptoSaid' is the law's where the arguments, and the package variables that the reading takes, are together of bulk at most 1048576: NARROWER than '..Said'. Prove '..Said' where nothing that the law and all that it calls make is longer than what came in: it says more and counts as full. Else prove '..UptoSaid'. A law counts once. -/
mutual
def uptoBulk {H : Type} : DataW H → Nat
  | .lit (.string bytes) => bytes.length + 1
  | .lit _ => 1
  | .nil => 1
  | .ptr d => uptoBulk d + 1
  | .slice elems spare => uptoBulkAll elems + uptoBulkAll spare + 1
  | .agg parts => uptoBulkAll parts + 1
  | .iface _ d => uptoBulk d + 1
  | .map entries => uptoBulkEntries entries + 1
  | .held _ => 1
def uptoBulkAll {H : Type} : List (DataW H) → Nat
  | [] => 0
  | d :: r => uptoBulk d + uptoBulkAll r
def uptoBulkEntries {H : Type} : List (Lit × DataW H) → Nat
  | [] => 0
  | x :: r => uptoBulkEntry x + uptoBulkEntries r
def uptoBulkEntry {H : Type} : Lit × DataW H → Nat
  | (.string bytes, d) => bytes.length + uptoBulk d + 1
  | (_, d) => uptoBulk d + 1
 end
def uptoSmall : (H : Type) → List (DataW H) → Bool := fun _ ds => decide (uptoBulkAll ds ≤ 1048576)
def OpenSpec.upto (s : _root_.Go.ChangeSpec) : _root_.Go.OpenSpec := { _root_.Go.OpenSpec.ofChange s with cond := some uptoSmall }

/-- 'decorumlaw04.PctNorms', WHERE WHAT IT READS IS OF BULK AT MOST 1048576: true; the input reads as it did. -/
def pctNormsUptoRow : OpenClaim := { program := "ytnbahmjpgjnoaaa", sum := "43f8b3ce205c65a003b65a2cd57c7c83d8e118d141b9ea8a3ff28a87b7722f07", func := "decorum/decorumlaw04.PctNorms", spec := "pctNorms", inPlace := ["internal/bytealg.IndexByteString", "internal/bytealg.IndexString", "internal/abi.NoEscape"], named := ["internal/bytealg.MaxLen"], apart := false, narrowed := true }
def PctNormsUptoSaid : Prop := pctNormsUptoRow.holds Try.pinned (OpenSpec.upto pctNormsSpec)

/-- 'decorumlaw04.PctDecodes', WHERE WHAT IT READS IS OF BULK AT MOST 1048576: true; the input reads as it did. -/
def pctDecodesUptoRow : OpenClaim := { program := "ytnbahmjpgjnoaaa", sum := "43f8b3ce205c65a003b65a2cd57c7c83d8e118d141b9ea8a3ff28a87b7722f07", func := "decorum/decorumlaw04.PctDecodes", spec := "pctDecodes", inPlace := ["internal/bytealg.IndexByteString", "internal/bytealg.IndexString", "internal/abi.NoEscape"], named := ["internal/bytealg.MaxLen"], apart := false, narrowed := true }
def PctDecodesUptoSaid : Prop := pctDecodesUptoRow.holds Try.pinned (OpenSpec.upto pctDecodesSpec)

/-- 'decorumlaw04.PctAgain', WHERE WHAT IT READS IS OF BULK AT MOST 1048576: true; the input reads as it did. -/
def pctAgainUptoRow : OpenClaim := { program := "ytnbahmjpgjnoaaa", sum := "43f8b3ce205c65a003b65a2cd57c7c83d8e118d141b9ea8a3ff28a87b7722f07", func := "decorum/decorumlaw04.PctAgain", spec := "pctAgain", inPlace := ["internal/bytealg.IndexByteString", "internal/bytealg.IndexString", "internal/abi.NoEscape"], named := ["internal/bytealg.MaxLen"], apart := false, narrowed := true }
def PctAgainUptoSaid : Prop := pctAgainUptoRow.holds Try.pinned (OpenSpec.upto pctAgainSpec)

/-- 'decorumlaw04.PctParts', WHERE WHAT IT READS IS OF BULK AT MOST 1048576: true; the input reads as it did. -/
def pctPartsUptoRow : OpenClaim := { program := "ytnbahmjpgjnoaaa", sum := "43f8b3ce205c65a003b65a2cd57c7c83d8e118d141b9ea8a3ff28a87b7722f07", func := "decorum/decorumlaw04.PctParts", spec := "pctParts", inPlace := ["internal/bytealg.IndexByteString", "internal/bytealg.IndexString", "internal/abi.NoEscape"], named := ["internal/bytealg.MaxLen"], apart := false, narrowed := true }
def PctPartsUptoSaid : Prop := pctPartsUptoRow.holds Try.pinned (OpenSpec.upto pctPartsSpec)

/-- 'decorumlaw04.PctPlain', WHERE WHAT IT READS IS OF BULK AT MOST 1048576: true; the input reads as it did. -/
def pctPlainUptoRow : OpenClaim := { program := "ytnbahmjpgjnoaaa", sum := "43f8b3ce205c65a003b65a2cd57c7c83d8e118d141b9ea8a3ff28a87b7722f07", func := "decorum/decorumlaw04.PctPlain", spec := "pctPlain", inPlace := ["internal/bytealg.IndexByteString", "internal/bytealg.IndexString", "internal/abi.NoEscape"], named := ["internal/bytealg.MaxLen"], apart := false, narrowed := true }
def PctPlainUptoSaid : Prop := pctPlainUptoRow.holds Try.pinned (OpenSpec.upto pctPlainSpec)

/-- 'decorumlaw04.PctDecoded', WHERE WHAT IT READS IS OF BULK AT MOST 1048576: true; the input reads as it did. -/
def pctDecodedUptoRow : OpenClaim := { program := "ytnbahmjpgjnoaaa", sum := "43f8b3ce205c65a003b65a2cd57c7c83d8e118d141b9ea8a3ff28a87b7722f07", func := "decorum/decorumlaw04.PctDecoded", spec := "pctDecoded", inPlace := ["internal/bytealg.IndexByteString", "internal/bytealg.IndexString", "internal/abi.NoEscape"], named := ["internal/bytealg.MaxLen"], apart := false, narrowed := true }
def PctDecodedUptoSaid : Prop := pctDecodedUptoRow.holds Try.pinned (OpenSpec.upto pctDecodedSpec)

end Rows
end Go.Proofs.Ytnbahmjpgjnoaaa
