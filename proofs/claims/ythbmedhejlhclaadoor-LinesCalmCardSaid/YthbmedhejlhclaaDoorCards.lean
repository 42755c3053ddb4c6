/-
  DERIVED. GIVEN WITH THE SEED: THE CARDS: each row of YthbmedhejlhclaaDoorRows.lean that lists a variable, with what it lists TIED to the program's text (the seventh form; the later family's looks); each row that meets fmt, with fmt's text TOLD by the authors' own Lean function (tested against real Go, not proved from fmt's source: count such statements apart). THE CARD IS WHAT COUNTS. Prove the row's statement (the work); the ties are given (YthbmedhejlhclaaDoorTie.lean); close each card by the builder's one call (the guide's Derived/Test/ToyasCard.lean, 'card_holds'). Laid BY PROGRAM, IN A SANDBOX (cutbox-door.mjs). By AI agents, Wed Nov 11 2026. No macro, syntax, notation, axiom, sorry.
-/
import Derived.Test.YthbmedhejlhclaaDoorRows
import GoSem.ClaimSeven
namespace Go.Proofs.YthbmedhejlhclaaDoor
namespace Rows

/-- THE TIED CARD OF 'decorumlaw09.LinesParses'. -/
def linesParsesCard : Claim7 := { stood := { row := linesParsesRow, standIns := [], harness := (true, "27e8748755242ccbdccc063619fe1df336f376f692221594078edbb943713afd"), looks := false }, kinds := [], alts := [], laidByText := true, laidKinds := [.data, .pinned], laidTests := true, laidLooks := .later }
def LinesParsesCardSaid : Prop := Claim7.holds Tryd.pinned (.plain (OpenSpec.ofChange linesParsesSpec)) linesParsesCard

/-- THE TIED CARD OF 'decorumlaw09.LinesDelays'. -/
def linesDelaysCard : Claim7 := { stood := { row := linesDelaysRow, standIns := [], harness := (true, "27e8748755242ccbdccc063619fe1df336f376f692221594078edbb943713afd"), looks := false }, kinds := [], alts := [], laidByText := true, laidKinds := [.data, .pinned], laidTests := true, laidLooks := .later }
def LinesDelaysCardSaid : Prop := Claim7.holds Tryd.pinned (.plain (OpenSpec.ofChange linesDelaysSpec)) linesDelaysCard

/-- THE TIED CARD OF 'decorumlaw09.LinesGroups'. -/
def linesGroupsCard : Claim7 := { stood := { row := linesGroupsRow, standIns := [], harness := (true, "27e8748755242ccbdccc063619fe1df336f376f692221594078edbb943713afd"), looks := false }, kinds := [], alts := [], laidByText := true, laidKinds := [.data, .pinned], laidTests := true, laidLooks := .later }
def LinesGroupsCardSaid : Prop := Claim7.holds Tryd.pinned (.plain (OpenSpec.ofChange linesGroupsSpec)) linesGroupsCard

/-- THE TIED CARD OF 'decorumlaw09.LinesTexts'. -/
def linesTextsCard : Claim7 := { stood := { row := linesTextsRow, standIns := [], harness := (true, "27e8748755242ccbdccc063619fe1df336f376f692221594078edbb943713afd"), looks := false }, kinds := [], alts := [], laidByText := true, laidKinds := [.data, .pinned], laidTests := true, laidLooks := .later }
def LinesTextsCardSaid : Prop := Claim7.holds Tryd.pinned (.plain (OpenSpec.ofChange linesTextsSpec)) linesTextsCard

/-- THE TIED CARD OF 'decorumlaw09.LinesCalm'. -/
def linesCalmCard : Claim7 := { stood := { row := linesCalmRow, standIns := [], harness := (true, "27e8748755242ccbdccc063619fe1df336f376f692221594078edbb943713afd"), looks := false }, kinds := [], alts := [], laidByText := true, laidKinds := [.data, .pinned], laidTests := true, laidLooks := .later }
def LinesCalmCardSaid : Prop := Claim7.holds Tryd.pinned (.plain (OpenSpec.ofChange linesCalmSpec)) linesCalmCard

/-- THE TIED CARD OF 'decorumlaw09.LinesParts'. -/
def linesPartsCard : Claim7 := { stood := { row := linesPartsRow, standIns := [], harness := (true, "27e8748755242ccbdccc063619fe1df336f376f692221594078edbb943713afd"), looks := false }, kinds := [], alts := [], laidByText := true, laidKinds := [.data, .pinned], laidTests := true, laidLooks := .later }
def LinesPartsCardSaid : Prop := Claim7.holds Tryd.pinned (.plain (OpenSpec.ofChange linesPartsSpec)) linesPartsCard

/-- THE SECOND FORM's CARD OF 'decorumlaw09.LinesParses'. -/
def linesParsesUptoCard : Claim7 := { stood := { row := linesParsesUptoRow, standIns := [], harness := (true, "27e8748755242ccbdccc063619fe1df336f376f692221594078edbb943713afd"), looks := false }, kinds := [], alts := [], laidByText := true, laidKinds := [.data, .pinned], laidTests := true, laidLooks := .later }
def LinesParsesUptoCardSaid : Prop := Claim7.holds Tryd.pinned (.plain (OpenSpec.upto linesParsesSpec)) linesParsesUptoCard

/-- THE SECOND FORM's CARD OF 'decorumlaw09.LinesDelays'. -/
def linesDelaysUptoCard : Claim7 := { stood := { row := linesDelaysUptoRow, standIns := [], harness := (true, "27e8748755242ccbdccc063619fe1df336f376f692221594078edbb943713afd"), looks := false }, kinds := [], alts := [], laidByText := true, laidKinds := [.data, .pinned], laidTests := true, laidLooks := .later }
def LinesDelaysUptoCardSaid : Prop := Claim7.holds Tryd.pinned (.plain (OpenSpec.upto linesDelaysSpec)) linesDelaysUptoCard

/-- THE SECOND FORM's CARD OF 'decorumlaw09.LinesGroups'. -/
def linesGroupsUptoCard : Claim7 := { stood := { row := linesGroupsUptoRow, standIns := [], harness := (true, "27e8748755242ccbdccc063619fe1df336f376f692221594078edbb943713afd"), looks := false }, kinds := [], alts := [], laidByText := true, laidKinds := [.data, .pinned], laidTests := true, laidLooks := .later }
def LinesGroupsUptoCardSaid : Prop := Claim7.holds Tryd.pinned (.plain (OpenSpec.upto linesGroupsSpec)) linesGroupsUptoCard

/-- THE SECOND FORM's CARD OF 'decorumlaw09.LinesTexts'. -/
def linesTextsUptoCard : Claim7 := { stood := { row := linesTextsUptoRow, standIns := [], harness := (true, "27e8748755242ccbdccc063619fe1df336f376f692221594078edbb943713afd"), looks := false }, kinds := [], alts := [], laidByText := true, laidKinds := [.data, .pinned], laidTests := true, laidLooks := .later }
def LinesTextsUptoCardSaid : Prop := Claim7.holds Tryd.pinned (.plain (OpenSpec.upto linesTextsSpec)) linesTextsUptoCard

/-- THE SECOND FORM's CARD OF 'decorumlaw09.LinesCalm'. -/
def linesCalmUptoCard : Claim7 := { stood := { row := linesCalmUptoRow, standIns := [], harness := (true, "27e8748755242ccbdccc063619fe1df336f376f692221594078edbb943713afd"), looks := false }, kinds := [], alts := [], laidByText := true, laidKinds := [.data, .pinned], laidTests := true, laidLooks := .later }
def LinesCalmUptoCardSaid : Prop := Claim7.holds Tryd.pinned (.plain (OpenSpec.upto linesCalmSpec)) linesCalmUptoCard

/-- THE SECOND FORM's CARD OF 'decorumlaw09.LinesParts'. -/
def linesPartsUptoCard : Claim7 := { stood := { row := linesPartsUptoRow, standIns := [], harness := (true, "27e8748755242ccbdccc063619fe1df336f376f692221594078edbb943713afd"), looks := false }, kinds := [], alts := [], laidByText := true, laidKinds := [.data, .pinned], laidTests := true, laidLooks := .later }
def LinesPartsUptoCardSaid : Prop := Claim7.holds Tryd.pinned (.plain (OpenSpec.upto linesPartsSpec)) linesPartsUptoCard
end Rows
end Go.Proofs.YthbmedhejlhclaaDoor
