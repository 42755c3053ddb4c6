/-
  No cell of these rows narrows 'for every input' (looked for: loops, veiled, ifaces, maps, wideKeys, modest, calm, conditions, laid).
  DERIVED. THE GIVEN ROWS OF THIS SEAT. 8 by the template 'for every input the law returns true; each argument reads behind the call as it read before'; 0 by the template 'total and deterministic' (their statements: YtobepponcolciaaTotals.lean).
  GIVEN WITH THE SEED: the statements are not yours to turn. If you find one false, say at which input.
  Laid BY PROGRAM, IN A SANDBOX (cutbox-rows.mjs): the forced cells as the released guide's own fill.sh prints them over the translation 6b3d07bb2e4e8c91… (all of the seat's roots in one cut). By AI agents, Wed Nov 11 2026. No macro, syntax, notation, axiom, sorry.
-/
import Derived.Test.YtobepponcolciaaChecked
import GoSem.Claim
import GoSem.ClaimJoined
import GoSem.ClaimMapViews
import Derived.JoinedTies
import Derived.KernelRfl
namespace Go.Proofs.Ytobepponcolciaa
/- THE CELL 'sum', in the pinned program and in every row, IS THE sha256 OF THE DUMP (.gsa) THAT YtobepponcolciaaProg.lean LOADS. Nothing in Lean hashes anything: it is a label: what it is worth is what the hold of that sum in a sandbox is worth. -/
noncomputable def Try.pinned : Pinned := { name := "ytobepponcolciaa", sum := "6b3d07bb2e4e8c91f40365d05b40f8e640182d638d78404af2171bce7ed3b1aa", checked := Try.checked }
namespace Rows
def none {H : Type} : Left H := { results := [], args := [] }

/-- 'decorumlaw01.TickMuls': WHATEVER THE INPUT: true; the input reads as it did. -/
def tickMulsSpec : ChangeSpec := { name := "tickMuls", fn := fun _ => fun
  | [d1, d2] => { results := [.lit (.bool true)], args := [d1, d2] }
  | _ => none }
def tickMulsRow : OpenClaim := { program := "ytobepponcolciaa", sum := "6b3d07bb2e4e8c91f40365d05b40f8e640182d638d78404af2171bce7ed3b1aa", func := "decorum/decorumlaw01.TickMuls", spec := "tickMuls", apart := false }
def TickMulsSaid : Prop := tickMulsRow.holds Try.pinned (OpenSpec.ofChange tickMulsSpec)

/-- ITS FALSE NEIGHBOUR: 'it returns false'. Refute it at one input. -/
def tickMulsWrong : ChangeSpec := { name := "tickMuls", fn := fun _ => fun
  | [d1, d2] => { results := [.lit (.bool false)], args := [d1, d2] }
  | _ => none }
def TickMulsWrongFalsely : Prop := tickMulsRow.holds Try.pinned (OpenSpec.ofChange tickMulsWrong)

/-- 'decorumlaw01.TickShifts': WHATEVER THE INPUT: true; the input reads as it did. -/
def tickShiftsSpec : ChangeSpec := { name := "tickShifts", fn := fun _ => fun
  | [d1, d2] => { results := [.lit (.bool true)], args := [d1, d2] }
  | _ => none }
def tickShiftsRow : OpenClaim := { program := "ytobepponcolciaa", sum := "6b3d07bb2e4e8c91f40365d05b40f8e640182d638d78404af2171bce7ed3b1aa", func := "decorum/decorumlaw01.TickShifts", spec := "tickShifts", apart := false }
def TickShiftsSaid : Prop := tickShiftsRow.holds Try.pinned (OpenSpec.ofChange tickShiftsSpec)

/-- ITS FALSE NEIGHBOUR: 'it returns false'. Refute it at one input. -/
def tickShiftsWrong : ChangeSpec := { name := "tickShifts", fn := fun _ => fun
  | [d1, d2] => { results := [.lit (.bool false)], args := [d1, d2] }
  | _ => none }
def TickShiftsWrongFalsely : Prop := tickShiftsRow.holds Try.pinned (OpenSpec.ofChange tickShiftsWrong)

/-- 'decorumlaw01.TickClocks': WHATEVER THE INPUT: true; the input reads as it did. -/
def tickClocksSpec : ChangeSpec := { name := "tickClocks", fn := fun _ => fun
  | [d] => { results := [.lit (.bool true)], args := [d] }
  | _ => none }
def tickClocksRow : OpenClaim := { program := "ytobepponcolciaa", sum := "6b3d07bb2e4e8c91f40365d05b40f8e640182d638d78404af2171bce7ed3b1aa", func := "decorum/decorumlaw01.TickClocks", spec := "tickClocks", apart := false }
def TickClocksSaid : Prop := tickClocksRow.holds Try.pinned (OpenSpec.ofChange tickClocksSpec)

/-- ITS FALSE NEIGHBOUR: 'it returns false'. Refute it at one input. -/
def tickClocksWrong : ChangeSpec := { name := "tickClocks", fn := fun _ => fun
  | [d] => { results := [.lit (.bool false)], args := [d] }
  | _ => none }
def TickClocksWrongFalsely : Prop := tickClocksRow.holds Try.pinned (OpenSpec.ofChange tickClocksWrong)

/-- 'decorumlaw01.TickFills': WHATEVER THE INPUT: true; the input reads as it did. -/
def tickFillsSpec : ChangeSpec := { name := "tickFills", fn := fun _ => fun
  | [d1, d2, d3, d4] => { results := [.lit (.bool true)], args := [d1, d2, d3, d4] }
  | _ => none }
def tickFillsRow : OpenClaim := { program := "ytobepponcolciaa", sum := "6b3d07bb2e4e8c91f40365d05b40f8e640182d638d78404af2171bce7ed3b1aa", func := "decorum/decorumlaw01.TickFills", spec := "tickFills", apart := false }
def TickFillsSaid : Prop := tickFillsRow.holds Try.pinned (OpenSpec.ofChange tickFillsSpec)

/-- ITS FALSE NEIGHBOUR: 'it returns false'. Refute it at one input. -/
def tickFillsWrong : ChangeSpec := { name := "tickFills", fn := fun _ => fun
  | [d1, d2, d3, d4] => { results := [.lit (.bool false)], args := [d1, d2, d3, d4] }
  | _ => none }
def TickFillsWrongFalsely : Prop := tickFillsRow.holds Try.pinned (OpenSpec.ofChange tickFillsWrong)

/-- 'decorumlaw01.TickWaits': WHATEVER THE INPUT: true; the input reads as it did. -/
def tickWaitsSpec : ChangeSpec := { name := "tickWaits", fn := fun _ => fun
  | [d1, d2] => { results := [.lit (.bool true)], args := [d1, d2] }
  | _ => none }
def tickWaitsRow : OpenClaim := { program := "ytobepponcolciaa", sum := "6b3d07bb2e4e8c91f40365d05b40f8e640182d638d78404af2171bce7ed3b1aa", func := "decorum/decorumlaw01.TickWaits", spec := "tickWaits", apart := false }
def TickWaitsSaid : Prop := tickWaitsRow.holds Try.pinned (OpenSpec.ofChange tickWaitsSpec)

/-- ITS FALSE NEIGHBOUR: 'it returns false'. Refute it at one input. -/
def tickWaitsWrong : ChangeSpec := { name := "tickWaits", fn := fun _ => fun
  | [d1, d2] => { results := [.lit (.bool false)], args := [d1, d2] }
  | _ => none }
def TickWaitsWrongFalsely : Prop := tickWaitsRow.holds Try.pinned (OpenSpec.ofChange tickWaitsWrong)

/-- 'decorumlaw01.TickParts': WHATEVER THE INPUT: true; the input reads as it did. -/
def tickPartsSpec : ChangeSpec := { name := "tickParts", fn := fun _ => fun
  | [d1, d2, d3, d4, d5] => { results := [.lit (.bool true)], args := [d1, d2, d3, d4, d5] }
  | _ => none }
def tickPartsRow : OpenClaim := { program := "ytobepponcolciaa", sum := "6b3d07bb2e4e8c91f40365d05b40f8e640182d638d78404af2171bce7ed3b1aa", func := "decorum/decorumlaw01.TickParts", spec := "tickParts", apart := false }
def TickPartsSaid : Prop := tickPartsRow.holds Try.pinned (OpenSpec.ofChange tickPartsSpec)

/-- ITS FALSE NEIGHBOUR: 'it returns false'. Refute it at one input. -/
def tickPartsWrong : ChangeSpec := { name := "tickParts", fn := fun _ => fun
  | [d1, d2, d3, d4, d5] => { results := [.lit (.bool false)], args := [d1, d2, d3, d4, d5] }
  | _ => none }
def TickPartsWrongFalsely : Prop := tickPartsRow.holds Try.pinned (OpenSpec.ofChange tickPartsWrong)

/-- 'decorumlaw01.TickAdds': WHATEVER THE INPUT: true; the input reads as it did. -/
def tickAddsSpec : ChangeSpec := { name := "tickAdds", fn := fun _ => fun
  | [d1, d2] => { results := [.lit (.bool true)], args := [d1, d2] }
  | _ => none }
def tickAddsRow : OpenClaim := { program := "ytobepponcolciaa", sum := "6b3d07bb2e4e8c91f40365d05b40f8e640182d638d78404af2171bce7ed3b1aa", func := "decorum/decorumlaw01.TickAdds", spec := "tickAdds", apart := false }
def TickAddsSaid : Prop := tickAddsRow.holds Try.pinned (OpenSpec.ofChange tickAddsSpec)

/-- ITS FALSE NEIGHBOUR: 'it returns false'. Refute it at one input. -/
def tickAddsWrong : ChangeSpec := { name := "tickAdds", fn := fun _ => fun
  | [d1, d2] => { results := [.lit (.bool false)], args := [d1, d2] }
  | _ => none }
def TickAddsWrongFalsely : Prop := tickAddsRow.holds Try.pinned (OpenSpec.ofChange tickAddsWrong)

/-- 'decorumlaw01.TickEnds': WHATEVER THE INPUT: true; the input reads as it did. -/
def tickEndsSpec : ChangeSpec := { name := "tickEnds", fn := fun _ => fun
  | [d1, d2, d3] => { results := [.lit (.bool true)], args := [d1, d2, d3] }
  | _ => none }
def tickEndsRow : OpenClaim := { program := "ytobepponcolciaa", sum := "6b3d07bb2e4e8c91f40365d05b40f8e640182d638d78404af2171bce7ed3b1aa", func := "decorum/decorumlaw01.TickEnds", spec := "tickEnds", apart := false }
def TickEndsSaid : Prop := tickEndsRow.holds Try.pinned (OpenSpec.ofChange tickEndsSpec)

/-- ITS FALSE NEIGHBOUR: 'it returns false'. Refute it at one input. -/
def tickEndsWrong : ChangeSpec := { name := "tickEnds", fn := fun _ => fun
  | [d1, d2, d3] => { results := [.lit (.bool false)], args := [d1, d2, d3] }
  | _ => none }
def TickEndsWrongFalsely : Prop := tickEndsRow.holds Try.pinned (OpenSpec.ofChange tickEndsWrong)

/- THE SECOND FORM. 'bulk': how many values and letters a reading holds, each counted each time it is reached (what is shared counts as often as it is met; a slice's spare places count too). A statement '..UptoSaid' is the law's where the arguments, and the package variables that the reading takes, are together of bulk at most 1048576: NARROWER than '..Said'. Prove '..Said' where nothing that the law and all that it calls make is longer than what came in: it says more and counts as full. Else prove '..UptoSaid'. A law counts once. -/
mutual
def uptoBulk {H : Type} : DataW H → Nat
  | .lit (.string bytes) => bytes.length + 1
  | .lit _ => 1
  | .nil => 1
  | .ptr d => uptoBulk d + 1
  | .slice elems spare => uptoBulkAll elems + uptoBulkAll spare + 1
  | .agg parts => uptoBulkAll parts + 1
  | .iface _ d => uptoBulk d + 1
  | .map entries => uptoBulkEntries entries + 1
  | .held _ => 1
def uptoBulkAll {H : Type} : List (DataW H) → Nat
  | [] => 0
  | d :: r => uptoBulk d + uptoBulkAll r
def uptoBulkEntries {H : Type} : List (Lit × DataW H) → Nat
  | [] => 0
  | x :: r => uptoBulkEntry x + uptoBulkEntries r
def uptoBulkEntry {H : Type} : Lit × DataW H → Nat
  | (.string bytes, d) => bytes.length + uptoBulk d + 1
  | (_, d) => uptoBulk d + 1
 end
def uptoSmall : (H : Type) → List (DataW H) → Bool := fun _ ds => decide (uptoBulkAll ds ≤ 1048576)
def OpenSpec.upto (s : _root_.Go.ChangeSpec) : _root_.Go.OpenSpec := { _root_.Go.OpenSpec.ofChange s with cond := some uptoSmall }

/-- 'decorumlaw01.TickMuls', WHERE WHAT IT READS IS OF BULK AT MOST 1048576: true; the input reads as it did. -/
def tickMulsUptoRow : OpenClaim := { program := "ytobepponcolciaa", sum := "6b3d07bb2e4e8c91f40365d05b40f8e640182d638d78404af2171bce7ed3b1aa", func := "decorum/decorumlaw01.TickMuls", spec := "tickMuls", apart := false, narrowed := true }
def TickMulsUptoSaid : Prop := tickMulsUptoRow.holds Try.pinned (OpenSpec.upto tickMulsSpec)

/-- 'decorumlaw01.TickShifts', WHERE WHAT IT READS IS OF BULK AT MOST 1048576: true; the input reads as it did. -/
def tickShiftsUptoRow : OpenClaim := { program := "ytobepponcolciaa", sum := "6b3d07bb2e4e8c91f40365d05b40f8e640182d638d78404af2171bce7ed3b1aa", func := "decorum/decorumlaw01.TickShifts", spec := "tickShifts", apart := false, narrowed := true }
def TickShiftsUptoSaid : Prop := tickShiftsUptoRow.holds Try.pinned (OpenSpec.upto tickShiftsSpec)

/-- 'decorumlaw01.TickClocks', WHERE WHAT IT READS IS OF BULK AT MOST 1048576: true; the input reads as it did. -/
def tickClocksUptoRow : OpenClaim := { program := "ytobepponcolciaa", sum := "6b3d07bb2e4e8c91f40365d05b40f8e640182d638d78404af2171bce7ed3b1aa", func := "decorum/decorumlaw01.TickClocks", spec := "tickClocks", apart := false, narrowed := true }
def TickClocksUptoSaid : Prop := tickClocksUptoRow.holds Try.pinned (OpenSpec.upto tickClocksSpec)

/-- 'decorumlaw01.TickFills', WHERE WHAT IT READS IS OF BULK AT MOST 1048576: true; the input reads as it did. -/
def tickFillsUptoRow : OpenClaim := { program := "ytobepponcolciaa", sum := "6b3d07bb2e4e8c91f40365d05b40f8e640182d638d78404af2171bce7ed3b1aa", func := "decorum/decorumlaw01.TickFills", spec := "tickFills", apart := false, narrowed := true }
def TickFillsUptoSaid : Prop := tickFillsUptoRow.holds Try.pinned (OpenSpec.upto tickFillsSpec)

/-- 'decorumlaw01.TickWaits', WHERE WHAT IT READS IS OF BULK AT MOST 1048576: true; the input reads as it did. -/
def tickWaitsUptoRow : OpenClaim := { program := "ytobepponcolciaa", sum := "6b3d07bb2e4e8c91f40365d05b40f8e640182d638d78404af2171bce7ed3b1aa", func := "decorum/decorumlaw01.TickWaits", spec := "tickWaits", apart := false, narrowed := true }
def TickWaitsUptoSaid : Prop := tickWaitsUptoRow.holds Try.pinned (OpenSpec.upto tickWaitsSpec)

/-- 'decorumlaw01.TickParts', WHERE WHAT IT READS IS OF BULK AT MOST 1048576: true; the input reads as it did. -/
def tickPartsUptoRow : OpenClaim := { program := "ytobepponcolciaa", sum := "6b3d07bb2e4e8c91f40365d05b40f8e640182d638d78404af2171bce7ed3b1aa", func := "decorum/decorumlaw01.TickParts", spec := "tickParts", apart := false, narrowed := true }
def TickPartsUptoSaid : Prop := tickPartsUptoRow.holds Try.pinned (OpenSpec.upto tickPartsSpec)

/-- 'decorumlaw01.TickAdds', WHERE WHAT IT READS IS OF BULK AT MOST 1048576: true; the input reads as it did. -/
def tickAddsUptoRow : OpenClaim := { program := "ytobepponcolciaa", sum := "6b3d07bb2e4e8c91f40365d05b40f8e640182d638d78404af2171bce7ed3b1aa", func := "decorum/decorumlaw01.TickAdds", spec := "tickAdds", apart := false, narrowed := true }
def TickAddsUptoSaid : Prop := tickAddsUptoRow.holds Try.pinned (OpenSpec.upto tickAddsSpec)

/-- 'decorumlaw01.TickEnds', WHERE WHAT IT READS IS OF BULK AT MOST 1048576: true; the input reads as it did. -/
def tickEndsUptoRow : OpenClaim := { program := "ytobepponcolciaa", sum := "6b3d07bb2e4e8c91f40365d05b40f8e640182d638d78404af2171bce7ed3b1aa", func := "decorum/decorumlaw01.TickEnds", spec := "tickEnds", apart := false, narrowed := true }
def TickEndsUptoSaid : Prop := tickEndsUptoRow.holds Try.pinned (OpenSpec.upto tickEndsSpec)

end Rows
end Go.Proofs.Ytobepponcolciaa
