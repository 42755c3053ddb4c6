/-
  NARROWER THAN 'FOR EVERY INPUT', by the rows' own cells (each row's printed sentence says how): LinesParses: laid · LinesDelays: laid · LinesGroups: laid · LinesTexts: laid · LinesCalm: laid · LinesParts: laid.
  DERIVED. THE GIVEN ROWS OF THIS SEAT. 6 by the template 'for every input the law returns true; each argument reads behind the call as it read before'; 0 by the template 'total and deterministic' (their statements: YthbmedhejlhclaaDoorTotals.lean).
  GIVEN WITH THE SEED: the statements are not yours to turn. If you find one false, say at which input.
  Laid BY PROGRAM, IN A SANDBOX (cutbox-rows.mjs): the forced cells as the released guide's own fill.sh prints them over the translation f7658a3afe048a54… (all of the seat's roots in one cut). By AI agents, Wed Nov 11 2026. No macro, syntax, notation, axiom, sorry.
-/
import Derived.Test.YthbmedhejlhclaaDoorChecked
import GoSem.PinnedTables
import GoSem.Claim
import GoSem.ClaimJoined
import GoSem.ClaimMapViews
import Derived.JoinedTies
import Derived.KernelRfl
namespace Go.Proofs.YthbmedhejlhclaaDoor
/- THE CELL 'sum', in the pinned program and in every row, IS THE sha256 OF THE DUMP (.gsa) THAT YthbmedhejlhclaaDoorProg.lean LOADS. Nothing in Lean hashes anything: it is a label: what it is worth is what the hold of that sum in a sandbox is worth. -/
noncomputable def Tryd.pinned : Pinned := { name := "ythbmedhejlhclaadoor", sum := "f7658a3afe048a54a1b05de85fee629221108bc32f66f6b52b2322907b749780", checked := Tryd.checked }
namespace Rows
def none {H : Type} : Left H := { results := [], args := [] }

/- WHAT THE LISTED PACKAGE-LEVEL VARIABLES READ AS WHEN THE CALL BEGINS. Each datum BY PROGRAM (the guide's laid-datum.mjs) off the statement by which the dump's own 'gosem.cut.vars' lays the variable. In a bare row this is a premise. The card (YthbmedhejlhclaaDoorCards.lean) ties it to the program's text. -/
def laid_unicode_utf8_acceptRanges {H : Type} : DataW H := .agg [.agg [.lit (.int .u8 128), .lit (.int .u8 191)], .agg [.lit (.int .u8 160), .lit (.int .u8 191)], .agg [.lit (.int .u8 128), .lit (.int .u8 159)], .agg [.lit (.int .u8 144), .lit (.int .u8 191)], .agg [.lit (.int .u8 128), .lit (.int .u8 143)], .agg [.lit (.int .u8 0), .lit (.int .u8 0)], .agg [.lit (.int .u8 0), .lit (.int .u8 0)], .agg [.lit (.int .u8 0), .lit (.int .u8 0)], .agg [.lit (.int .u8 0), .lit (.int .u8 0)], .agg [.lit (.int .u8 0), .lit (.int .u8 0)], .agg [.lit (.int .u8 0), .lit (.int .u8 0)], .agg [.lit (.int .u8 0), .lit (.int .u8 0)], .agg [.lit (.int .u8 0), .lit (.int .u8 0)], .agg [.lit (.int .u8 0), .lit (.int .u8 0)], .agg [.lit (.int .u8 0), .lit (.int .u8 0)], .agg [.lit (.int .u8 0), .lit (.int .u8 0)]]
/-- One of Go's own tables, pinned by name: the form's constant. -/
def laid_unicode_utf8_first : DataW Unit := Go.Pinned.utf8First

/-- 'decorumlaw09.LinesParses': WHATEVER THE INPUT: true; the input reads as it did. -/
def linesParsesSpec : ChangeSpec := { name := "linesParses", fn := fun _ => fun
  | [d] => { results := [.lit (.bool true)], args := [d] }
  | _ => none }
def linesParsesRow : OpenClaim := { program := "ythbmedhejlhclaadoor", sum := "f7658a3afe048a54a1b05de85fee629221108bc32f66f6b52b2322907b749780", func := "decorum/decorumlaw09.LinesParses", spec := "linesParses", inPlace := ["internal/bytealg.IndexByteString", "internal/bytealg.IndexString"], unfollowed := true, recurses := true, named := ["internal/bytealg.MaxLen", "unicode/utf8.first", "unicode/utf8.acceptRanges"], apart := false, laid := [("unicode/utf8.acceptRanges", laid_unicode_utf8_acceptRanges), ("unicode/utf8.first", laid_unicode_utf8_first)] }
def LinesParsesSaid : Prop := linesParsesRow.holds Tryd.pinned (OpenSpec.ofChange linesParsesSpec)

/-- ITS FALSE NEIGHBOUR: 'it returns false'. Refute it at one input. -/
def linesParsesWrong : ChangeSpec := { name := "linesParses", fn := fun _ => fun
  | [d] => { results := [.lit (.bool false)], args := [d] }
  | _ => none }
def LinesParsesWrongFalsely : Prop := linesParsesRow.holds Tryd.pinned (OpenSpec.ofChange linesParsesWrong)

/-- 'decorumlaw09.LinesDelays': WHATEVER THE INPUT: true; the input reads as it did. -/
def linesDelaysSpec : ChangeSpec := { name := "linesDelays", fn := fun _ => fun
  | [d] => { results := [.lit (.bool true)], args := [d] }
  | _ => none }
def linesDelaysRow : OpenClaim := { program := "ythbmedhejlhclaadoor", sum := "f7658a3afe048a54a1b05de85fee629221108bc32f66f6b52b2322907b749780", func := "decorum/decorumlaw09.LinesDelays", spec := "linesDelays", inPlace := ["internal/bytealg.IndexByteString", "internal/bytealg.IndexString"], unfollowed := true, recurses := true, named := ["internal/bytealg.MaxLen", "unicode/utf8.first", "unicode/utf8.acceptRanges"], apart := false, laid := [("unicode/utf8.acceptRanges", laid_unicode_utf8_acceptRanges), ("unicode/utf8.first", laid_unicode_utf8_first)] }
def LinesDelaysSaid : Prop := linesDelaysRow.holds Tryd.pinned (OpenSpec.ofChange linesDelaysSpec)

/-- ITS FALSE NEIGHBOUR: 'it returns false'. Refute it at one input. -/
def linesDelaysWrong : ChangeSpec := { name := "linesDelays", fn := fun _ => fun
  | [d] => { results := [.lit (.bool false)], args := [d] }
  | _ => none }
def LinesDelaysWrongFalsely : Prop := linesDelaysRow.holds Tryd.pinned (OpenSpec.ofChange linesDelaysWrong)

/-- 'decorumlaw09.LinesGroups': WHATEVER THE INPUT: true; the input reads as it did. -/
def linesGroupsSpec : ChangeSpec := { name := "linesGroups", fn := fun _ => fun
  | [d] => { results := [.lit (.bool true)], args := [d] }
  | _ => none }
def linesGroupsRow : OpenClaim := { program := "ythbmedhejlhclaadoor", sum := "f7658a3afe048a54a1b05de85fee629221108bc32f66f6b52b2322907b749780", func := "decorum/decorumlaw09.LinesGroups", spec := "linesGroups", inPlace := ["internal/bytealg.IndexByteString", "internal/bytealg.IndexString"], unfollowed := true, recurses := true, named := ["internal/bytealg.MaxLen", "unicode/utf8.first", "unicode/utf8.acceptRanges"], apart := false, laid := [("unicode/utf8.acceptRanges", laid_unicode_utf8_acceptRanges), ("unicode/utf8.first", laid_unicode_utf8_first)] }
def LinesGroupsSaid : Prop := linesGroupsRow.holds Tryd.pinned (OpenSpec.ofChange linesGroupsSpec)

/-- ITS FALSE NEIGHBOUR: 'it returns false'. Refute it at one input. -/
def linesGroupsWrong : ChangeSpec := { name := "linesGroups", fn := fun _ => fun
  | [d] => { results := [.lit (.bool false)], args := [d] }
  | _ => none }
def LinesGroupsWrongFalsely : Prop := linesGroupsRow.holds Tryd.pinned (OpenSpec.ofChange linesGroupsWrong)

/-- 'decorumlaw09.LinesTexts': WHATEVER THE INPUT: true; the input reads as it did. -/
def linesTextsSpec : ChangeSpec := { name := "linesTexts", fn := fun _ => fun
  | [d] => { results := [.lit (.bool true)], args := [d] }
  | _ => none }
def linesTextsRow : OpenClaim := { program := "ythbmedhejlhclaadoor", sum := "f7658a3afe048a54a1b05de85fee629221108bc32f66f6b52b2322907b749780", func := "decorum/decorumlaw09.LinesTexts", spec := "linesTexts", inPlace := ["internal/bytealg.IndexByteString", "internal/bytealg.IndexString"], unfollowed := true, recurses := true, named := ["internal/bytealg.MaxLen", "unicode/utf8.first", "unicode/utf8.acceptRanges"], apart := false, laid := [("unicode/utf8.acceptRanges", laid_unicode_utf8_acceptRanges), ("unicode/utf8.first", laid_unicode_utf8_first)] }
def LinesTextsSaid : Prop := linesTextsRow.holds Tryd.pinned (OpenSpec.ofChange linesTextsSpec)

/-- ITS FALSE NEIGHBOUR: 'it returns false'. Refute it at one input. -/
def linesTextsWrong : ChangeSpec := { name := "linesTexts", fn := fun _ => fun
  | [d] => { results := [.lit (.bool false)], args := [d] }
  | _ => none }
def LinesTextsWrongFalsely : Prop := linesTextsRow.holds Tryd.pinned (OpenSpec.ofChange linesTextsWrong)

/-- 'decorumlaw09.LinesCalm': WHATEVER THE INPUT: true; the input reads as it did. -/
def linesCalmSpec : ChangeSpec := { name := "linesCalm", fn := fun _ => fun
  | [d1, d2, d3, d4] => { results := [.lit (.bool true)], args := [d1, d2, d3, d4] }
  | _ => none }
def linesCalmRow : OpenClaim := { program := "ythbmedhejlhclaadoor", sum := "f7658a3afe048a54a1b05de85fee629221108bc32f66f6b52b2322907b749780", func := "decorum/decorumlaw09.LinesCalm", spec := "linesCalm", inPlace := ["internal/bytealg.IndexByteString", "internal/bytealg.IndexString"], unfollowed := true, recurses := true, named := ["internal/bytealg.MaxLen", "unicode/utf8.first", "unicode/utf8.acceptRanges"], apart := false, laid := [("unicode/utf8.acceptRanges", laid_unicode_utf8_acceptRanges), ("unicode/utf8.first", laid_unicode_utf8_first)] }
def LinesCalmSaid : Prop := linesCalmRow.holds Tryd.pinned (OpenSpec.ofChange linesCalmSpec)

/-- ITS FALSE NEIGHBOUR: 'it returns false'. Refute it at one input. -/
def linesCalmWrong : ChangeSpec := { name := "linesCalm", fn := fun _ => fun
  | [d1, d2, d3, d4] => { results := [.lit (.bool false)], args := [d1, d2, d3, d4] }
  | _ => none }
def LinesCalmWrongFalsely : Prop := linesCalmRow.holds Tryd.pinned (OpenSpec.ofChange linesCalmWrong)

/-- 'decorumlaw09.LinesParts': WHATEVER THE INPUT: true; the input reads as it did. -/
def linesPartsSpec : ChangeSpec := { name := "linesParts", fn := fun _ => fun
  | [d1, d2] => { results := [.lit (.bool true)], args := [d1, d2] }
  | _ => none }
def linesPartsRow : OpenClaim := { program := "ythbmedhejlhclaadoor", sum := "f7658a3afe048a54a1b05de85fee629221108bc32f66f6b52b2322907b749780", func := "decorum/decorumlaw09.LinesParts", spec := "linesParts", inPlace := ["internal/bytealg.IndexByteString", "internal/bytealg.IndexString"], unfollowed := true, recurses := true, named := ["internal/bytealg.MaxLen", "unicode/utf8.first", "unicode/utf8.acceptRanges"], apart := false, laid := [("unicode/utf8.acceptRanges", laid_unicode_utf8_acceptRanges), ("unicode/utf8.first", laid_unicode_utf8_first)] }
def LinesPartsSaid : Prop := linesPartsRow.holds Tryd.pinned (OpenSpec.ofChange linesPartsSpec)

/-- ITS FALSE NEIGHBOUR: 'it returns false'. Refute it at one input. -/
def linesPartsWrong : ChangeSpec := { name := "linesParts", fn := fun _ => fun
  | [d1, d2] => { results := [.lit (.bool false)], args := [d1, d2] }
  | _ => none }
def LinesPartsWrongFalsely : Prop := linesPartsRow.holds Tryd.pinned (OpenSpec.ofChange linesPartsWrong)

/- THE SECOND FORM. 'bulk': how many values and letters a reading holds, each counted each time it is reached (what is shared counts as often as it is met; a slice's spare places count too). A statement '..UptoSaid' is the law's where the arguments, and the package variables that the reading takes, are together of bulk at most 1048576: NARROWER than '..Said'. Prove '..Said' where nothing that the law and all that it calls make is longer than what came in: it says more and counts as full. Else prove '..UptoSaid'. A law counts once. -/
mutual
def uptoBulk {H : Type} : DataW H → Nat
  | .lit (.string bytes) => bytes.length + 1
  | .lit _ => 1
  | .nil => 1
  | .ptr d => uptoBulk d + 1
  | .slice elems spare => uptoBulkAll elems + uptoBulkAll spare + 1
  | .agg parts => uptoBulkAll parts + 1
  | .iface _ d => uptoBulk d + 1
  | .map entries => uptoBulkEntries entries + 1
  | .held _ => 1
def uptoBulkAll {H : Type} : List (DataW H) → Nat
  | [] => 0
  | d :: r => uptoBulk d + uptoBulkAll r
def uptoBulkEntries {H : Type} : List (Lit × DataW H) → Nat
  | [] => 0
  | x :: r => uptoBulkEntry x + uptoBulkEntries r
def uptoBulkEntry {H : Type} : Lit × DataW H → Nat
  | (.string bytes, d) => bytes.length + uptoBulk d + 1
  | (_, d) => uptoBulk d + 1
 end
def uptoSmall : (H : Type) → List (DataW H) → Bool := fun _ ds => decide (uptoBulkAll ds ≤ 1048576)
def OpenSpec.upto (s : _root_.Go.ChangeSpec) : _root_.Go.OpenSpec := { _root_.Go.OpenSpec.ofChange s with cond := some uptoSmall }

/-- 'decorumlaw09.LinesParses', WHERE WHAT IT READS IS OF BULK AT MOST 1048576: true; the input reads as it did. -/
def linesParsesUptoRow : OpenClaim := { program := "ythbmedhejlhclaadoor", sum := "f7658a3afe048a54a1b05de85fee629221108bc32f66f6b52b2322907b749780", func := "decorum/decorumlaw09.LinesParses", spec := "linesParses", inPlace := ["internal/bytealg.IndexByteString", "internal/bytealg.IndexString"], unfollowed := true, recurses := true, named := ["internal/bytealg.MaxLen", "unicode/utf8.first", "unicode/utf8.acceptRanges"], apart := false, laid := [("unicode/utf8.acceptRanges", laid_unicode_utf8_acceptRanges), ("unicode/utf8.first", laid_unicode_utf8_first)], narrowed := true }
def LinesParsesUptoSaid : Prop := linesParsesUptoRow.holds Tryd.pinned (OpenSpec.upto linesParsesSpec)

/-- 'decorumlaw09.LinesDelays', WHERE WHAT IT READS IS OF BULK AT MOST 1048576: true; the input reads as it did. -/
def linesDelaysUptoRow : OpenClaim := { program := "ythbmedhejlhclaadoor", sum := "f7658a3afe048a54a1b05de85fee629221108bc32f66f6b52b2322907b749780", func := "decorum/decorumlaw09.LinesDelays", spec := "linesDelays", inPlace := ["internal/bytealg.IndexByteString", "internal/bytealg.IndexString"], unfollowed := true, recurses := true, named := ["internal/bytealg.MaxLen", "unicode/utf8.first", "unicode/utf8.acceptRanges"], apart := false, laid := [("unicode/utf8.acceptRanges", laid_unicode_utf8_acceptRanges), ("unicode/utf8.first", laid_unicode_utf8_first)], narrowed := true }
def LinesDelaysUptoSaid : Prop := linesDelaysUptoRow.holds Tryd.pinned (OpenSpec.upto linesDelaysSpec)

/-- 'decorumlaw09.LinesGroups', WHERE WHAT IT READS IS OF BULK AT MOST 1048576: true; the input reads as it did. -/
def linesGroupsUptoRow : OpenClaim := { program := "ythbmedhejlhclaadoor", sum := "f7658a3afe048a54a1b05de85fee629221108bc32f66f6b52b2322907b749780", func := "decorum/decorumlaw09.LinesGroups", spec := "linesGroups", inPlace := ["internal/bytealg.IndexByteString", "internal/bytealg.IndexString"], unfollowed := true, recurses := true, named := ["internal/bytealg.MaxLen", "unicode/utf8.first", "unicode/utf8.acceptRanges"], apart := false, laid := [("unicode/utf8.acceptRanges", laid_unicode_utf8_acceptRanges), ("unicode/utf8.first", laid_unicode_utf8_first)], narrowed := true }
def LinesGroupsUptoSaid : Prop := linesGroupsUptoRow.holds Tryd.pinned (OpenSpec.upto linesGroupsSpec)

/-- 'decorumlaw09.LinesTexts', WHERE WHAT IT READS IS OF BULK AT MOST 1048576: true; the input reads as it did. -/
def linesTextsUptoRow : OpenClaim := { program := "ythbmedhejlhclaadoor", sum := "f7658a3afe048a54a1b05de85fee629221108bc32f66f6b52b2322907b749780", func := "decorum/decorumlaw09.LinesTexts", spec := "linesTexts", inPlace := ["internal/bytealg.IndexByteString", "internal/bytealg.IndexString"], unfollowed := true, recurses := true, named := ["internal/bytealg.MaxLen", "unicode/utf8.first", "unicode/utf8.acceptRanges"], apart := false, laid := [("unicode/utf8.acceptRanges", laid_unicode_utf8_acceptRanges), ("unicode/utf8.first", laid_unicode_utf8_first)], narrowed := true }
def LinesTextsUptoSaid : Prop := linesTextsUptoRow.holds Tryd.pinned (OpenSpec.upto linesTextsSpec)

/-- 'decorumlaw09.LinesCalm', WHERE WHAT IT READS IS OF BULK AT MOST 1048576: true; the input reads as it did. -/
def linesCalmUptoRow : OpenClaim := { program := "ythbmedhejlhclaadoor", sum := "f7658a3afe048a54a1b05de85fee629221108bc32f66f6b52b2322907b749780", func := "decorum/decorumlaw09.LinesCalm", spec := "linesCalm", inPlace := ["internal/bytealg.IndexByteString", "internal/bytealg.IndexString"], unfollowed := true, recurses := true, named := ["internal/bytealg.MaxLen", "unicode/utf8.first", "unicode/utf8.acceptRanges"], apart := false, laid := [("unicode/utf8.acceptRanges", laid_unicode_utf8_acceptRanges), ("unicode/utf8.first", laid_unicode_utf8_first)], narrowed := true }
def LinesCalmUptoSaid : Prop := linesCalmUptoRow.holds Tryd.pinned (OpenSpec.upto linesCalmSpec)

/-- 'decorumlaw09.LinesParts', WHERE WHAT IT READS IS OF BULK AT MOST 1048576: true; the input reads as it did. -/
def linesPartsUptoRow : OpenClaim := { program := "ythbmedhejlhclaadoor", sum := "f7658a3afe048a54a1b05de85fee629221108bc32f66f6b52b2322907b749780", func := "decorum/decorumlaw09.LinesParts", spec := "linesParts", inPlace := ["internal/bytealg.IndexByteString", "internal/bytealg.IndexString"], unfollowed := true, recurses := true, named := ["internal/bytealg.MaxLen", "unicode/utf8.first", "unicode/utf8.acceptRanges"], apart := false, laid := [("unicode/utf8.acceptRanges", laid_unicode_utf8_acceptRanges), ("unicode/utf8.first", laid_unicode_utf8_first)], narrowed := true }
def LinesPartsUptoSaid : Prop := linesPartsUptoRow.holds Tryd.pinned (OpenSpec.upto linesPartsSpec)

end Rows
end Go.Proofs.YthbmedhejlhclaaDoor
