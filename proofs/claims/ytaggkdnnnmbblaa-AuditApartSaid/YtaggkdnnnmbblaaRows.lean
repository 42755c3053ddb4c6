/-
  No cell of these rows narrows 'for every input' (looked for: loops, veiled, ifaces, maps, wideKeys, modest, calm, conditions, laid).
  DERIVED. THE GIVEN ROWS OF THIS SEAT. 5 by the template 'for every input the law returns true; each argument reads behind the call as it read before'; 0 by the template 'total and deterministic' (their statements: YtaggkdnnnmbblaaTotals.lean).
  GIVEN WITH THE SEED: the statements are not yours to turn. If you find one false, say at which input.
  Laid BY PROGRAM, IN A SANDBOX (cutbox-rows.mjs): the forced cells as the released guide's own fill.sh prints them over the translation 8dbbcff207c3d1bb… (all of the seat's roots in one cut). By AI agents, Wed Nov 11 2026. No macro, syntax, notation, axiom, sorry.
-/
import Derived.Test.YtaggkdnnnmbblaaChecked
import GoSem.Claim
import GoSem.ClaimJoined
import GoSem.ClaimMapViews
import Derived.JoinedTies
import Derived.KernelRfl
namespace Go.Proofs.Ytaggkdnnnmbblaa
/- THE CELL 'sum', in the pinned program and in every row, IS THE sha256 OF THE DUMP (.gsa) THAT YtaggkdnnnmbblaaProg.lean LOADS. Nothing in Lean hashes anything: it is a label: what it is worth is what the hold of that sum in a sandbox is worth. -/
noncomputable def Try.pinned : Pinned := { name := "ytaggkdnnnmbblaa", sum := "8dbbcff207c3d1bbb3662a0a458b5cc6a949a8a345badc5da2dc510e4c59189a", checked := Try.checked }
namespace Rows
def none {H : Type} : Left H := { results := [], args := [] }

/-- 'decorumlaw22.AuditGaps': WHATEVER THE INPUT: true; the input reads as it did. -/
def auditGapsSpec : ChangeSpec := { name := "auditGaps", fn := fun _ => fun
  | [d1, d2] => { results := [.lit (.bool true)], args := [d1, d2] }
  | _ => none }
def auditGapsRow : OpenClaim := { program := "ytaggkdnnnmbblaa", sum := "8dbbcff207c3d1bbb3662a0a458b5cc6a949a8a345badc5da2dc510e4c59189a", func := "decorum/decorumlaw22.AuditGaps", spec := "auditGaps", apart := false }
def AuditGapsSaid : Prop := auditGapsRow.holds Try.pinned (OpenSpec.ofChange auditGapsSpec)

/-- ITS FALSE NEIGHBOUR: 'it returns false'. Refute it at one input. -/
def auditGapsWrong : ChangeSpec := { name := "auditGaps", fn := fun _ => fun
  | [d1, d2] => { results := [.lit (.bool false)], args := [d1, d2] }
  | _ => none }
def AuditGapsWrongFalsely : Prop := auditGapsRow.holds Try.pinned (OpenSpec.ofChange auditGapsWrong)

/-- 'decorumlaw22.AuditRates': WHATEVER THE INPUT: true; the input reads as it did. -/
def auditRatesSpec : ChangeSpec := { name := "auditRates", fn := fun _ => fun
  | [d1, d2, d3] => { results := [.lit (.bool true)], args := [d1, d2, d3] }
  | _ => none }
def auditRatesRow : OpenClaim := { program := "ytaggkdnnnmbblaa", sum := "8dbbcff207c3d1bbb3662a0a458b5cc6a949a8a345badc5da2dc510e4c59189a", func := "decorum/decorumlaw22.AuditRates", spec := "auditRates", apart := false }
def AuditRatesSaid : Prop := auditRatesRow.holds Try.pinned (OpenSpec.ofChange auditRatesSpec)

/-- ITS FALSE NEIGHBOUR: 'it returns false'. Refute it at one input. -/
def auditRatesWrong : ChangeSpec := { name := "auditRates", fn := fun _ => fun
  | [d1, d2, d3] => { results := [.lit (.bool false)], args := [d1, d2, d3] }
  | _ => none }
def AuditRatesWrongFalsely : Prop := auditRatesRow.holds Try.pinned (OpenSpec.ofChange auditRatesWrong)

/-- 'decorumlaw22.AuditCounts': WHATEVER THE INPUT: true; the input reads as it did. -/
def auditCountsSpec : ChangeSpec := { name := "auditCounts", fn := fun _ => fun
  | [d] => { results := [.lit (.bool true)], args := [d] }
  | _ => none }
def auditCountsRow : OpenClaim := { program := "ytaggkdnnnmbblaa", sum := "8dbbcff207c3d1bbb3662a0a458b5cc6a949a8a345badc5da2dc510e4c59189a", func := "decorum/decorumlaw22.AuditCounts", spec := "auditCounts", apart := false }
def AuditCountsSaid : Prop := auditCountsRow.holds Try.pinned (OpenSpec.ofChange auditCountsSpec)

/-- ITS FALSE NEIGHBOUR: 'it returns false'. Refute it at one input. -/
def auditCountsWrong : ChangeSpec := { name := "auditCounts", fn := fun _ => fun
  | [d] => { results := [.lit (.bool false)], args := [d] }
  | _ => none }
def AuditCountsWrongFalsely : Prop := auditCountsRow.holds Try.pinned (OpenSpec.ofChange auditCountsWrong)

/-- 'decorumlaw22.AuditLess': WHATEVER THE INPUT: true; the input reads as it did. -/
def auditLessSpec : ChangeSpec := { name := "auditLess", fn := fun _ => fun
  | [d1, d2, d3, d4, d5] => { results := [.lit (.bool true)], args := [d1, d2, d3, d4, d5] }
  | _ => none }
def auditLessRow : OpenClaim := { program := "ytaggkdnnnmbblaa", sum := "8dbbcff207c3d1bbb3662a0a458b5cc6a949a8a345badc5da2dc510e4c59189a", func := "decorum/decorumlaw22.AuditLess", spec := "auditLess", apart := false }
def AuditLessSaid : Prop := auditLessRow.holds Try.pinned (OpenSpec.ofChange auditLessSpec)

/-- ITS FALSE NEIGHBOUR: 'it returns false'. Refute it at one input. -/
def auditLessWrong : ChangeSpec := { name := "auditLess", fn := fun _ => fun
  | [d1, d2, d3, d4, d5] => { results := [.lit (.bool false)], args := [d1, d2, d3, d4, d5] }
  | _ => none }
def AuditLessWrongFalsely : Prop := auditLessRow.holds Try.pinned (OpenSpec.ofChange auditLessWrong)

/-- 'decorumlaw22.AuditApart': WHATEVER THE INPUT: true; the input reads as it did. -/
def auditApartSpec : ChangeSpec := { name := "auditApart", fn := fun _ => fun
  | [d1, d2, d3] => { results := [.lit (.bool true)], args := [d1, d2, d3] }
  | _ => none }
def auditApartRow : OpenClaim := { program := "ytaggkdnnnmbblaa", sum := "8dbbcff207c3d1bbb3662a0a458b5cc6a949a8a345badc5da2dc510e4c59189a", func := "decorum/decorumlaw22.AuditApart", spec := "auditApart", apart := false }
def AuditApartSaid : Prop := auditApartRow.holds Try.pinned (OpenSpec.ofChange auditApartSpec)

/-- ITS FALSE NEIGHBOUR: 'it returns false'. Refute it at one input. -/
def auditApartWrong : ChangeSpec := { name := "auditApart", fn := fun _ => fun
  | [d1, d2, d3] => { results := [.lit (.bool false)], args := [d1, d2, d3] }
  | _ => none }
def AuditApartWrongFalsely : Prop := auditApartRow.holds Try.pinned (OpenSpec.ofChange auditApartWrong)

/- THE SECOND FORM. 'bulk': how many values and letters a reading holds, each counted each time it is reached (what is shared counts as often as it is met; a slice's spare places count too). A statement '..UptoSaid' is the law's where the arguments, and the package variables that the reading takes, are together of bulk at most 1048576: NARROWER than '..Said'. Prove '..Said' where nothing that the law and all that it calls make is longer than what came in: it says more and counts as full. Else prove '..UptoSaid'. A law counts once. -/
mutual
def uptoBulk {H : Type} : DataW H → Nat
  | .lit (.string bytes) => bytes.length + 1
  | .lit _ => 1
  | .nil => 1
  | .ptr d => uptoBulk d + 1
  | .slice elems spare => uptoBulkAll elems + uptoBulkAll spare + 1
  | .agg parts => uptoBulkAll parts + 1
  | .iface _ d => uptoBulk d + 1
  | .map entries => uptoBulkEntries entries + 1
  | .held _ => 1
def uptoBulkAll {H : Type} : List (DataW H) → Nat
  | [] => 0
  | d :: r => uptoBulk d + uptoBulkAll r
def uptoBulkEntries {H : Type} : List (Lit × DataW H) → Nat
  | [] => 0
  | x :: r => uptoBulkEntry x + uptoBulkEntries r
def uptoBulkEntry {H : Type} : Lit × DataW H → Nat
  | (.string bytes, d) => bytes.length + uptoBulk d + 1
  | (_, d) => uptoBulk d + 1
 end
def uptoSmall : (H : Type) → List (DataW H) → Bool := fun _ ds => decide (uptoBulkAll ds ≤ 1048576)
def OpenSpec.upto (s : _root_.Go.ChangeSpec) : _root_.Go.OpenSpec := { _root_.Go.OpenSpec.ofChange s with cond := some uptoSmall }

/-- 'decorumlaw22.AuditGaps', WHERE WHAT IT READS IS OF BULK AT MOST 1048576: true; the input reads as it did. -/
def auditGapsUptoRow : OpenClaim := { program := "ytaggkdnnnmbblaa", sum := "8dbbcff207c3d1bbb3662a0a458b5cc6a949a8a345badc5da2dc510e4c59189a", func := "decorum/decorumlaw22.AuditGaps", spec := "auditGaps", apart := false, narrowed := true }
def AuditGapsUptoSaid : Prop := auditGapsUptoRow.holds Try.pinned (OpenSpec.upto auditGapsSpec)

/-- 'decorumlaw22.AuditRates', WHERE WHAT IT READS IS OF BULK AT MOST 1048576: true; the input reads as it did. -/
def auditRatesUptoRow : OpenClaim := { program := "ytaggkdnnnmbblaa", sum := "8dbbcff207c3d1bbb3662a0a458b5cc6a949a8a345badc5da2dc510e4c59189a", func := "decorum/decorumlaw22.AuditRates", spec := "auditRates", apart := false, narrowed := true }
def AuditRatesUptoSaid : Prop := auditRatesUptoRow.holds Try.pinned (OpenSpec.upto auditRatesSpec)

/-- 'decorumlaw22.AuditCounts', WHERE WHAT IT READS IS OF BULK AT MOST 1048576: true; the input reads as it did. -/
def auditCountsUptoRow : OpenClaim := { program := "ytaggkdnnnmbblaa", sum := "8dbbcff207c3d1bbb3662a0a458b5cc6a949a8a345badc5da2dc510e4c59189a", func := "decorum/decorumlaw22.AuditCounts", spec := "auditCounts", apart := false, narrowed := true }
def AuditCountsUptoSaid : Prop := auditCountsUptoRow.holds Try.pinned (OpenSpec.upto auditCountsSpec)

/-- 'decorumlaw22.AuditLess', WHERE WHAT IT READS IS OF BULK AT MOST 1048576: true; the input reads as it did. -/
def auditLessUptoRow : OpenClaim := { program := "ytaggkdnnnmbblaa", sum := "8dbbcff207c3d1bbb3662a0a458b5cc6a949a8a345badc5da2dc510e4c59189a", func := "decorum/decorumlaw22.AuditLess", spec := "auditLess", apart := false, narrowed := true }
def AuditLessUptoSaid : Prop := auditLessUptoRow.holds Try.pinned (OpenSpec.upto auditLessSpec)

/-- 'decorumlaw22.AuditApart', WHERE WHAT IT READS IS OF BULK AT MOST 1048576: true; the input reads as it did. -/
def auditApartUptoRow : OpenClaim := { program := "ytaggkdnnnmbblaa", sum := "8dbbcff207c3d1bbb3662a0a458b5cc6a949a8a345badc5da2dc510e4c59189a", func := "decorum/decorumlaw22.AuditApart", spec := "auditApart", apart := false, narrowed := true }
def AuditApartUptoSaid : Prop := auditApartUptoRow.holds Try.pinned (OpenSpec.upto auditApartSpec)

end Rows
end Go.Proofs.Ytaggkdnnnmbblaa
