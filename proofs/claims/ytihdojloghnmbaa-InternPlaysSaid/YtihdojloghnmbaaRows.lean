/-
  No cell of these rows narrows 'for every input' (looked for: loops, veiled, ifaces, maps, wideKeys, modest, calm, conditions, laid).
  DERIVED. THE GIVEN ROWS OF THIS SEAT. 4 by the template 'for every input the law returns true; each argument reads behind the call as it read before'; 0 by the template 'total and deterministic' (their statements: YtihdojloghnmbaaTotals.lean).
  GIVEN WITH THE SEED: the statements are not yours to turn. If you find one false, say at which input.
  Laid BY PROGRAM, IN A SANDBOX (cutbox-rows.mjs): the forced cells as the released guide's own fill.sh prints them over the translation 8ee1832b4e59be14… (all of the seat's roots in one cut). By AI agents, Wed Nov 11 2026. No macro, syntax, notation, axiom, sorry.
-/
import Derived.Test.YtihdojloghnmbaaChecked
import GoSem.Claim
import GoSem.ClaimJoined
import GoSem.ClaimMapViews
import Derived.JoinedTies
import Derived.KernelRfl
namespace Go.Proofs.Ytihdojloghnmbaa
/- THE CELL 'sum', in the pinned program and in every row, IS THE sha256 OF THE DUMP (.gsa) THAT YtihdojloghnmbaaProg.lean LOADS. Nothing in Lean hashes anything: it is a label: what it is worth is what the hold of that sum in a sandbox is worth. -/
noncomputable def Try.pinned : Pinned := { name := "ytihdojloghnmbaa", sum := "8ee1832b4e59be147626096fbc837eae04853adc463779d975a38ecab7528a29", checked := Try.checked }
namespace Rows
def none {H : Type} : Left H := { results := [], args := [] }

/-- 'decorumlaw06.InternPlays': WHATEVER THE INPUT: true; the input reads as it did. -/
def internPlaysSpec : ChangeSpec := { name := "internPlays", fn := fun _ => fun
  | [d1, d2] => { results := [.lit (.bool true)], args := [d1, d2] }
  | _ => none }
def internPlaysRow : OpenClaim := { program := "ytihdojloghnmbaa", sum := "8ee1832b4e59be147626096fbc837eae04853adc463779d975a38ecab7528a29", func := "decorum/decorumlaw06.InternPlays", spec := "internPlays", apart := false }
def InternPlaysSaid : Prop := internPlaysRow.holds Try.pinned (OpenSpec.ofChange internPlaysSpec)

/-- ITS FALSE NEIGHBOUR: 'it returns false'. Refute it at one input. -/
def internPlaysWrong : ChangeSpec := { name := "internPlays", fn := fun _ => fun
  | [d1, d2] => { results := [.lit (.bool false)], args := [d1, d2] }
  | _ => none }
def InternPlaysWrongFalsely : Prop := internPlaysRow.holds Try.pinned (OpenSpec.ofChange internPlaysWrong)

/-- 'decorumlaw06.InternNone': WHATEVER THE INPUT: true; the input reads as it did. -/
def internNoneSpec : ChangeSpec := { name := "internNone", fn := fun _ => fun
  | [d1, d2] => { results := [.lit (.bool true)], args := [d1, d2] }
  | _ => none }
def internNoneRow : OpenClaim := { program := "ytihdojloghnmbaa", sum := "8ee1832b4e59be147626096fbc837eae04853adc463779d975a38ecab7528a29", func := "decorum/decorumlaw06.InternNone", spec := "internNone", apart := false }
def InternNoneSaid : Prop := internNoneRow.holds Try.pinned (OpenSpec.ofChange internNoneSpec)

/-- ITS FALSE NEIGHBOUR: 'it returns false'. Refute it at one input. -/
def internNoneWrong : ChangeSpec := { name := "internNone", fn := fun _ => fun
  | [d1, d2] => { results := [.lit (.bool false)], args := [d1, d2] }
  | _ => none }
def InternNoneWrongFalsely : Prop := internNoneRow.holds Try.pinned (OpenSpec.ofChange internNoneWrong)

/-- 'decorumlaw06.InternBack': WHATEVER THE INPUT: true; the input reads as it did. -/
def internBackSpec : ChangeSpec := { name := "internBack", fn := fun _ => fun
  | [d] => { results := [.lit (.bool true)], args := [d] }
  | _ => none }
def internBackRow : OpenClaim := { program := "ytihdojloghnmbaa", sum := "8ee1832b4e59be147626096fbc837eae04853adc463779d975a38ecab7528a29", func := "decorum/decorumlaw06.InternBack", spec := "internBack", apart := false }
def InternBackSaid : Prop := internBackRow.holds Try.pinned (OpenSpec.ofChange internBackSpec)

/-- ITS FALSE NEIGHBOUR: 'it returns false'. Refute it at one input. -/
def internBackWrong : ChangeSpec := { name := "internBack", fn := fun _ => fun
  | [d] => { results := [.lit (.bool false)], args := [d] }
  | _ => none }
def InternBackWrongFalsely : Prop := internBackRow.holds Try.pinned (OpenSpec.ofChange internBackWrong)

/-- 'decorumlaw06.InternFull': WHATEVER THE INPUT: true; the input reads as it did. -/
def internFullSpec : ChangeSpec := { name := "internFull", fn := fun _ => fun
  | [d1, d2] => { results := [.lit (.bool true)], args := [d1, d2] }
  | _ => none }
def internFullRow : OpenClaim := { program := "ytihdojloghnmbaa", sum := "8ee1832b4e59be147626096fbc837eae04853adc463779d975a38ecab7528a29", func := "decorum/decorumlaw06.InternFull", spec := "internFull", apart := false }
def InternFullSaid : Prop := internFullRow.holds Try.pinned (OpenSpec.ofChange internFullSpec)

/-- ITS FALSE NEIGHBOUR: 'it returns false'. Refute it at one input. -/
def internFullWrong : ChangeSpec := { name := "internFull", fn := fun _ => fun
  | [d1, d2] => { results := [.lit (.bool false)], args := [d1, d2] }
  | _ => none }
def InternFullWrongFalsely : Prop := internFullRow.holds Try.pinned (OpenSpec.ofChange internFullWrong)

/- THE SECOND FORM. 'bulk': how many values and letters a reading holds, each counted each time it is reached (what is shared counts as often as it is met; a slice's spare places count too). A statement '..UptoSaid' is the law's where the arguments, and the package variables that the reading takes, are together of bulk at most 1048576: NARROWER than '..Said'. Prove '..Said' where nothing that the law and all that it calls make is longer than what came in: it says more and counts as full. Else prove '..UptoSaid'. A law counts once. -/
mutual
def uptoBulk {H : Type} : DataW H → Nat
  | .lit (.string bytes) => bytes.length + 1
  | .lit _ => 1
  | .nil => 1
  | .ptr d => uptoBulk d + 1
  | .slice elems spare => uptoBulkAll elems + uptoBulkAll spare + 1
  | .agg parts => uptoBulkAll parts + 1
  | .iface _ d => uptoBulk d + 1
  | .map entries => uptoBulkEntries entries + 1
  | .held _ => 1
def uptoBulkAll {H : Type} : List (DataW H) → Nat
  | [] => 0
  | d :: r => uptoBulk d + uptoBulkAll r
def uptoBulkEntries {H : Type} : List (Lit × DataW H) → Nat
  | [] => 0
  | x :: r => uptoBulkEntry x + uptoBulkEntries r
def uptoBulkEntry {H : Type} : Lit × DataW H → Nat
  | (.string bytes, d) => bytes.length + uptoBulk d + 1
  | (_, d) => uptoBulk d + 1
 end
def uptoSmall : (H : Type) → List (DataW H) → Bool := fun _ ds => decide (uptoBulkAll ds ≤ 1048576)
def OpenSpec.upto (s : _root_.Go.ChangeSpec) : _root_.Go.OpenSpec := { _root_.Go.OpenSpec.ofChange s with cond := some uptoSmall }

/-- 'decorumlaw06.InternPlays', WHERE WHAT IT READS IS OF BULK AT MOST 1048576: true; the input reads as it did. -/
def internPlaysUptoRow : OpenClaim := { program := "ytihdojloghnmbaa", sum := "8ee1832b4e59be147626096fbc837eae04853adc463779d975a38ecab7528a29", func := "decorum/decorumlaw06.InternPlays", spec := "internPlays", apart := false, narrowed := true }
def InternPlaysUptoSaid : Prop := internPlaysUptoRow.holds Try.pinned (OpenSpec.upto internPlaysSpec)

/-- 'decorumlaw06.InternNone', WHERE WHAT IT READS IS OF BULK AT MOST 1048576: true; the input reads as it did. -/
def internNoneUptoRow : OpenClaim := { program := "ytihdojloghnmbaa", sum := "8ee1832b4e59be147626096fbc837eae04853adc463779d975a38ecab7528a29", func := "decorum/decorumlaw06.InternNone", spec := "internNone", apart := false, narrowed := true }
def InternNoneUptoSaid : Prop := internNoneUptoRow.holds Try.pinned (OpenSpec.upto internNoneSpec)

/-- 'decorumlaw06.InternBack', WHERE WHAT IT READS IS OF BULK AT MOST 1048576: true; the input reads as it did. -/
def internBackUptoRow : OpenClaim := { program := "ytihdojloghnmbaa", sum := "8ee1832b4e59be147626096fbc837eae04853adc463779d975a38ecab7528a29", func := "decorum/decorumlaw06.InternBack", spec := "internBack", apart := false, narrowed := true }
def InternBackUptoSaid : Prop := internBackUptoRow.holds Try.pinned (OpenSpec.upto internBackSpec)

/-- 'decorumlaw06.InternFull', WHERE WHAT IT READS IS OF BULK AT MOST 1048576: true; the input reads as it did. -/
def internFullUptoRow : OpenClaim := { program := "ytihdojloghnmbaa", sum := "8ee1832b4e59be147626096fbc837eae04853adc463779d975a38ecab7528a29", func := "decorum/decorumlaw06.InternFull", spec := "internFull", apart := false, narrowed := true }
def InternFullUptoSaid : Prop := internFullUptoRow.holds Try.pinned (OpenSpec.upto internFullSpec)

end Rows
end Go.Proofs.Ytihdojloghnmbaa
