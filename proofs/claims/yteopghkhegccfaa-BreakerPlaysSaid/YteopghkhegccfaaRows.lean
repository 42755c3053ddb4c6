/-
  No cell of these rows narrows 'for every input' (looked for: loops, veiled, ifaces, maps, wideKeys, modest, calm, conditions, laid).
  DERIVED. THE GIVEN ROWS OF THIS SEAT. 7 by the template 'for every input the law returns true; each argument reads behind the call as it read before'; 0 by the template 'total and deterministic' (their statements: YteopghkhegccfaaTotals.lean).
  GIVEN WITH THE SEED: the statements are not yours to turn. If you find one false, say at which input.
  Laid BY PROGRAM, IN A SANDBOX (cutbox-rows.mjs): the forced cells as the released guide's own fill.sh prints them over the translation 6a99986321928294… (all of the seat's roots in one cut). By AI agents, Wed Nov 11 2026. No macro, syntax, notation, axiom, sorry.
-/
import Derived.Test.YteopghkhegccfaaChecked
import GoSem.Claim
import GoSem.ClaimJoined
import GoSem.ClaimMapViews
import Derived.JoinedTies
import Derived.KernelRfl
namespace Go.Proofs.Yteopghkhegccfaa
/- THE CELL 'sum', in the pinned program and in every row, IS THE sha256 OF THE DUMP (.gsa) THAT YteopghkhegccfaaProg.lean LOADS. Nothing in Lean hashes anything: it is a label: what it is worth is what the hold of that sum in a sandbox is worth. -/
noncomputable def Try.pinned : Pinned := { name := "yteopghkhegccfaa", sum := "6a99986321928294b02b54ecfea59a78e6aa170eaee8914fdad25b1b360c8c39", checked := Try.checked }
namespace Rows
def none {H : Type} : Left H := { results := [], args := [] }

/-- 'decorumlaw18.BackMosts': WHATEVER THE INPUT: true; the input reads as it did. -/
def backMostsSpec : ChangeSpec := { name := "backMosts", fn := fun _ => fun
  | [d1, d2, d3] => { results := [.lit (.bool true)], args := [d1, d2, d3] }
  | _ => none }
def backMostsRow : OpenClaim := { program := "yteopghkhegccfaa", sum := "6a99986321928294b02b54ecfea59a78e6aa170eaee8914fdad25b1b360c8c39", func := "decorum/decorumlaw18.BackMosts", spec := "backMosts", apart := false }
def BackMostsSaid : Prop := backMostsRow.holds Try.pinned (OpenSpec.ofChange backMostsSpec)

/-- ITS FALSE NEIGHBOUR: 'it returns false'. Refute it at one input. -/
def backMostsWrong : ChangeSpec := { name := "backMosts", fn := fun _ => fun
  | [d1, d2, d3] => { results := [.lit (.bool false)], args := [d1, d2, d3] }
  | _ => none }
def BackMostsWrongFalsely : Prop := backMostsRow.holds Try.pinned (OpenSpec.ofChange backMostsWrong)

/-- 'decorumlaw18.BackJitters': WHATEVER THE INPUT: true; the input reads as it did. -/
def backJittersSpec : ChangeSpec := { name := "backJitters", fn := fun _ => fun
  | [d1, d2, d3] => { results := [.lit (.bool true)], args := [d1, d2, d3] }
  | _ => none }
def backJittersRow : OpenClaim := { program := "yteopghkhegccfaa", sum := "6a99986321928294b02b54ecfea59a78e6aa170eaee8914fdad25b1b360c8c39", func := "decorum/decorumlaw18.BackJitters", spec := "backJitters", apart := false }
def BackJittersSaid : Prop := backJittersRow.holds Try.pinned (OpenSpec.ofChange backJittersSpec)

/-- ITS FALSE NEIGHBOUR: 'it returns false'. Refute it at one input. -/
def backJittersWrong : ChangeSpec := { name := "backJitters", fn := fun _ => fun
  | [d1, d2, d3] => { results := [.lit (.bool false)], args := [d1, d2, d3] }
  | _ => none }
def BackJittersWrongFalsely : Prop := backJittersRow.holds Try.pinned (OpenSpec.ofChange backJittersWrong)

/-- 'decorumlaw18.BackGrows': WHATEVER THE INPUT: true; the input reads as it did. -/
def backGrowsSpec : ChangeSpec := { name := "backGrows", fn := fun _ => fun
  | [d1, d2, d3] => { results := [.lit (.bool true)], args := [d1, d2, d3] }
  | _ => none }
def backGrowsRow : OpenClaim := { program := "yteopghkhegccfaa", sum := "6a99986321928294b02b54ecfea59a78e6aa170eaee8914fdad25b1b360c8c39", func := "decorum/decorumlaw18.BackGrows", spec := "backGrows", apart := false }
def BackGrowsSaid : Prop := backGrowsRow.holds Try.pinned (OpenSpec.ofChange backGrowsSpec)

/-- ITS FALSE NEIGHBOUR: 'it returns false'. Refute it at one input. -/
def backGrowsWrong : ChangeSpec := { name := "backGrows", fn := fun _ => fun
  | [d1, d2, d3] => { results := [.lit (.bool false)], args := [d1, d2, d3] }
  | _ => none }
def BackGrowsWrongFalsely : Prop := backGrowsRow.holds Try.pinned (OpenSpec.ofChange backGrowsWrong)

/-- 'decorumlaw18.BackDraws': WHATEVER THE INPUT: true; the input reads as it did. -/
def backDrawsSpec : ChangeSpec := { name := "backDraws", fn := fun _ => fun
  | [d1, d2, d3, d4] => { results := [.lit (.bool true)], args := [d1, d2, d3, d4] }
  | _ => none }
def backDrawsRow : OpenClaim := { program := "yteopghkhegccfaa", sum := "6a99986321928294b02b54ecfea59a78e6aa170eaee8914fdad25b1b360c8c39", func := "decorum/decorumlaw18.BackDraws", spec := "backDraws", apart := false }
def BackDrawsSaid : Prop := backDrawsRow.holds Try.pinned (OpenSpec.ofChange backDrawsSpec)

/-- ITS FALSE NEIGHBOUR: 'it returns false'. Refute it at one input. -/
def backDrawsWrong : ChangeSpec := { name := "backDraws", fn := fun _ => fun
  | [d1, d2, d3, d4] => { results := [.lit (.bool false)], args := [d1, d2, d3, d4] }
  | _ => none }
def BackDrawsWrongFalsely : Prop := backDrawsRow.holds Try.pinned (OpenSpec.ofChange backDrawsWrong)

/-- 'decorumlaw19.BreakerPlays': WHATEVER THE INPUT: true; the input reads as it did. -/
def breakerPlaysSpec : ChangeSpec := { name := "breakerPlays", fn := fun _ => fun
  | [d1, d2, d3, d4, d5] => { results := [.lit (.bool true)], args := [d1, d2, d3, d4, d5] }
  | _ => none }
def breakerPlaysRow : OpenClaim := { program := "yteopghkhegccfaa", sum := "6a99986321928294b02b54ecfea59a78e6aa170eaee8914fdad25b1b360c8c39", func := "decorum/decorumlaw19.BreakerPlays", spec := "breakerPlays", apart := false }
def BreakerPlaysSaid : Prop := breakerPlaysRow.holds Try.pinned (OpenSpec.ofChange breakerPlaysSpec)

/-- ITS FALSE NEIGHBOUR: 'it returns false'. Refute it at one input. -/
def breakerPlaysWrong : ChangeSpec := { name := "breakerPlays", fn := fun _ => fun
  | [d1, d2, d3, d4, d5] => { results := [.lit (.bool false)], args := [d1, d2, d3, d4, d5] }
  | _ => none }
def BreakerPlaysWrongFalsely : Prop := breakerPlaysRow.holds Try.pinned (OpenSpec.ofChange breakerPlaysWrong)

/-- 'decorumlaw19.BreakerOpens': WHATEVER THE INPUT: true; the input reads as it did. -/
def breakerOpensSpec : ChangeSpec := { name := "breakerOpens", fn := fun _ => fun
  | [d1, d2, d3, d4] => { results := [.lit (.bool true)], args := [d1, d2, d3, d4] }
  | _ => none }
def breakerOpensRow : OpenClaim := { program := "yteopghkhegccfaa", sum := "6a99986321928294b02b54ecfea59a78e6aa170eaee8914fdad25b1b360c8c39", func := "decorum/decorumlaw19.BreakerOpens", spec := "breakerOpens", apart := false }
def BreakerOpensSaid : Prop := breakerOpensRow.holds Try.pinned (OpenSpec.ofChange breakerOpensSpec)

/-- ITS FALSE NEIGHBOUR: 'it returns false'. Refute it at one input. -/
def breakerOpensWrong : ChangeSpec := { name := "breakerOpens", fn := fun _ => fun
  | [d1, d2, d3, d4] => { results := [.lit (.bool false)], args := [d1, d2, d3, d4] }
  | _ => none }
def BreakerOpensWrongFalsely : Prop := breakerOpensRow.holds Try.pinned (OpenSpec.ofChange breakerOpensWrong)

/-- 'decorumlaw19.BreakerGood': WHATEVER THE INPUT: true; the input reads as it did. -/
def breakerGoodSpec : ChangeSpec := { name := "breakerGood", fn := fun _ => fun
  | [d1, d2] => { results := [.lit (.bool true)], args := [d1, d2] }
  | _ => none }
def breakerGoodRow : OpenClaim := { program := "yteopghkhegccfaa", sum := "6a99986321928294b02b54ecfea59a78e6aa170eaee8914fdad25b1b360c8c39", func := "decorum/decorumlaw19.BreakerGood", spec := "breakerGood", apart := false }
def BreakerGoodSaid : Prop := breakerGoodRow.holds Try.pinned (OpenSpec.ofChange breakerGoodSpec)

/-- ITS FALSE NEIGHBOUR: 'it returns false'. Refute it at one input. -/
def breakerGoodWrong : ChangeSpec := { name := "breakerGood", fn := fun _ => fun
  | [d1, d2] => { results := [.lit (.bool false)], args := [d1, d2] }
  | _ => none }
def BreakerGoodWrongFalsely : Prop := breakerGoodRow.holds Try.pinned (OpenSpec.ofChange breakerGoodWrong)

/- THE SECOND FORM. 'bulk': how many values and letters a reading holds, each counted each time it is reached (what is shared counts as often as it is met; a slice's spare places count too). A statement '..UptoSaid' is the law's where the arguments, and the package variables that the reading takes, are together of bulk at most 1048576: NARROWER than '..Said'. Prove '..Said' where nothing that the law and all that it calls make is longer than what came in: it says more and counts as full. Else prove '..UptoSaid'. A law counts once. -/
mutual
def uptoBulk {H : Type} : DataW H → Nat
  | .lit (.string bytes) => bytes.length + 1
  | .lit _ => 1
  | .nil => 1
  | .ptr d => uptoBulk d + 1
  | .slice elems spare => uptoBulkAll elems + uptoBulkAll spare + 1
  | .agg parts => uptoBulkAll parts + 1
  | .iface _ d => uptoBulk d + 1
  | .map entries => uptoBulkEntries entries + 1
  | .held _ => 1
def uptoBulkAll {H : Type} : List (DataW H) → Nat
  | [] => 0
  | d :: r => uptoBulk d + uptoBulkAll r
def uptoBulkEntries {H : Type} : List (Lit × DataW H) → Nat
  | [] => 0
  | x :: r => uptoBulkEntry x + uptoBulkEntries r
def uptoBulkEntry {H : Type} : Lit × DataW H → Nat
  | (.string bytes, d) => bytes.length + uptoBulk d + 1
  | (_, d) => uptoBulk d + 1
 end
def uptoSmall : (H : Type) → List (DataW H) → Bool := fun _ ds => decide (uptoBulkAll ds ≤ 1048576)
def OpenSpec.upto (s : _root_.Go.ChangeSpec) : _root_.Go.OpenSpec := { _root_.Go.OpenSpec.ofChange s with cond := some uptoSmall }

/-- 'decorumlaw18.BackMosts', WHERE WHAT IT READS IS OF BULK AT MOST 1048576: true; the input reads as it did. -/
def backMostsUptoRow : OpenClaim := { program := "yteopghkhegccfaa", sum := "6a99986321928294b02b54ecfea59a78e6aa170eaee8914fdad25b1b360c8c39", func := "decorum/decorumlaw18.BackMosts", spec := "backMosts", apart := false, narrowed := true }
def BackMostsUptoSaid : Prop := backMostsUptoRow.holds Try.pinned (OpenSpec.upto backMostsSpec)

/-- 'decorumlaw18.BackJitters', WHERE WHAT IT READS IS OF BULK AT MOST 1048576: true; the input reads as it did. -/
def backJittersUptoRow : OpenClaim := { program := "yteopghkhegccfaa", sum := "6a99986321928294b02b54ecfea59a78e6aa170eaee8914fdad25b1b360c8c39", func := "decorum/decorumlaw18.BackJitters", spec := "backJitters", apart := false, narrowed := true }
def BackJittersUptoSaid : Prop := backJittersUptoRow.holds Try.pinned (OpenSpec.upto backJittersSpec)

/-- 'decorumlaw18.BackGrows', WHERE WHAT IT READS IS OF BULK AT MOST 1048576: true; the input reads as it did. -/
def backGrowsUptoRow : OpenClaim := { program := "yteopghkhegccfaa", sum := "6a99986321928294b02b54ecfea59a78e6aa170eaee8914fdad25b1b360c8c39", func := "decorum/decorumlaw18.BackGrows", spec := "backGrows", apart := false, narrowed := true }
def BackGrowsUptoSaid : Prop := backGrowsUptoRow.holds Try.pinned (OpenSpec.upto backGrowsSpec)

/-- 'decorumlaw18.BackDraws', WHERE WHAT IT READS IS OF BULK AT MOST 1048576: true; the input reads as it did. -/
def backDrawsUptoRow : OpenClaim := { program := "yteopghkhegccfaa", sum := "6a99986321928294b02b54ecfea59a78e6aa170eaee8914fdad25b1b360c8c39", func := "decorum/decorumlaw18.BackDraws", spec := "backDraws", apart := false, narrowed := true }
def BackDrawsUptoSaid : Prop := backDrawsUptoRow.holds Try.pinned (OpenSpec.upto backDrawsSpec)

/-- 'decorumlaw19.BreakerPlays', WHERE WHAT IT READS IS OF BULK AT MOST 1048576: true; the input reads as it did. -/
def breakerPlaysUptoRow : OpenClaim := { program := "yteopghkhegccfaa", sum := "6a99986321928294b02b54ecfea59a78e6aa170eaee8914fdad25b1b360c8c39", func := "decorum/decorumlaw19.BreakerPlays", spec := "breakerPlays", apart := false, narrowed := true }
def BreakerPlaysUptoSaid : Prop := breakerPlaysUptoRow.holds Try.pinned (OpenSpec.upto breakerPlaysSpec)

/-- 'decorumlaw19.BreakerOpens', WHERE WHAT IT READS IS OF BULK AT MOST 1048576: true; the input reads as it did. -/
def breakerOpensUptoRow : OpenClaim := { program := "yteopghkhegccfaa", sum := "6a99986321928294b02b54ecfea59a78e6aa170eaee8914fdad25b1b360c8c39", func := "decorum/decorumlaw19.BreakerOpens", spec := "breakerOpens", apart := false, narrowed := true }
def BreakerOpensUptoSaid : Prop := breakerOpensUptoRow.holds Try.pinned (OpenSpec.upto breakerOpensSpec)

/-- 'decorumlaw19.BreakerGood', WHERE WHAT IT READS IS OF BULK AT MOST 1048576: true; the input reads as it did. -/
def breakerGoodUptoRow : OpenClaim := { program := "yteopghkhegccfaa", sum := "6a99986321928294b02b54ecfea59a78e6aa170eaee8914fdad25b1b360c8c39", func := "decorum/decorumlaw19.BreakerGood", spec := "breakerGood", apart := false, narrowed := true }
def BreakerGoodUptoSaid : Prop := breakerGoodUptoRow.holds Try.pinned (OpenSpec.upto breakerGoodSpec)

end Rows
end Go.Proofs.Yteopghkhegccfaa
