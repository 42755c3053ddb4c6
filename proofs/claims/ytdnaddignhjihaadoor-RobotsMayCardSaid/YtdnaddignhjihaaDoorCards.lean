/-
  DERIVED. GIVEN WITH THE SEED: THE CARDS: each row of YtdnaddignhjihaaDoorRows.lean that lists a variable, with what it lists TIED to the program's text (the seventh form; the later family's looks); each row that meets fmt, with fmt's text TOLD by the authors' own Lean function (tested against real Go, not proved from fmt's source: count such statements apart). THE CARD IS WHAT COUNTS. Prove the row's statement (the work); the ties are given (YtdnaddignhjihaaDoorTie.lean); close each card by the builder's one call (the guide's Derived/Test/ToyasCard.lean, 'card_holds'). Laid BY PROGRAM, IN A SANDBOX (cutbox-door.mjs). By AI agents, Wed Nov 11 2026. No macro, syntax, notation, axiom, sorry.
-/
import Derived.Test.YtdnaddignhjihaaDoorRows
import GoSem.ClaimSeven
namespace Go.Proofs.YtdnaddignhjihaaDoor
namespace Rows

/-- THE TIED CARD OF 'decorumlaw11.RobotsReads'. -/
def robotsReadsCard : Claim7 := { stood := { row := robotsReadsRow, standIns := [], harness := (true, "d197b9417d0fe1ca454221f2141769a21cf7fc6dedecd8c35fcb9fe414422d9a"), looks := false }, kinds := [], alts := [], laidByText := true, laidKinds := [.data, .pinned], laidTests := true, laidLooks := .later }
def RobotsReadsCardSaid : Prop := Claim7.holds Tryd.pinned (.plain (OpenSpec.ofChange robotsReadsSpec)) robotsReadsCard

/-- THE TIED CARD OF 'decorumlaw11.RobotsMay'. -/
def robotsMayCard : Claim7 := { stood := { row := robotsMayRow, standIns := [], harness := (true, "d197b9417d0fe1ca454221f2141769a21cf7fc6dedecd8c35fcb9fe414422d9a"), looks := false }, kinds := [], alts := [], laidByText := true, laidKinds := [.data, .pinned], laidTests := true, laidLooks := .later }
def RobotsMayCardSaid : Prop := Claim7.holds Tryd.pinned (.plain (OpenSpec.ofChange robotsMaySpec)) robotsMayCard

/-- THE TIED CARD OF 'decorumlaw11.RobotsOthers'. -/
def robotsOthersCard : Claim7 := { stood := { row := robotsOthersRow, standIns := [], harness := (true, "d197b9417d0fe1ca454221f2141769a21cf7fc6dedecd8c35fcb9fe414422d9a"), looks := false }, kinds := [], alts := [], laidByText := true, laidKinds := [.data, .pinned], laidTests := true, laidLooks := .later }
def RobotsOthersCardSaid : Prop := Claim7.holds Tryd.pinned (.plain (OpenSpec.ofChange robotsOthersSpec)) robotsOthersCard

/-- THE TIED CARD OF 'decorumlaw11.RobotsOpen'. -/
def robotsOpenCard : Claim7 := { stood := { row := robotsOpenRow, standIns := [], harness := (true, "d197b9417d0fe1ca454221f2141769a21cf7fc6dedecd8c35fcb9fe414422d9a"), looks := false }, kinds := [], alts := [], laidByText := true, laidKinds := [.data, .pinned], laidTests := true, laidLooks := .later }
def RobotsOpenCardSaid : Prop := Claim7.holds Tryd.pinned (.plain (OpenSpec.ofChange robotsOpenSpec)) robotsOpenCard

/-- THE SECOND FORM's CARD OF 'decorumlaw11.RobotsReads'. -/
def robotsReadsUptoCard : Claim7 := { stood := { row := robotsReadsUptoRow, standIns := [], harness := (true, "d197b9417d0fe1ca454221f2141769a21cf7fc6dedecd8c35fcb9fe414422d9a"), looks := false }, kinds := [], alts := [], laidByText := true, laidKinds := [.data, .pinned], laidTests := true, laidLooks := .later }
def RobotsReadsUptoCardSaid : Prop := Claim7.holds Tryd.pinned (.plain (OpenSpec.upto robotsReadsSpec)) robotsReadsUptoCard

/-- THE SECOND FORM's CARD OF 'decorumlaw11.RobotsMay'. -/
def robotsMayUptoCard : Claim7 := { stood := { row := robotsMayUptoRow, standIns := [], harness := (true, "d197b9417d0fe1ca454221f2141769a21cf7fc6dedecd8c35fcb9fe414422d9a"), looks := false }, kinds := [], alts := [], laidByText := true, laidKinds := [.data, .pinned], laidTests := true, laidLooks := .later }
def RobotsMayUptoCardSaid : Prop := Claim7.holds Tryd.pinned (.plain (OpenSpec.upto robotsMaySpec)) robotsMayUptoCard

/-- THE SECOND FORM's CARD OF 'decorumlaw11.RobotsOthers'. -/
def robotsOthersUptoCard : Claim7 := { stood := { row := robotsOthersUptoRow, standIns := [], harness := (true, "d197b9417d0fe1ca454221f2141769a21cf7fc6dedecd8c35fcb9fe414422d9a"), looks := false }, kinds := [], alts := [], laidByText := true, laidKinds := [.data, .pinned], laidTests := true, laidLooks := .later }
def RobotsOthersUptoCardSaid : Prop := Claim7.holds Tryd.pinned (.plain (OpenSpec.upto robotsOthersSpec)) robotsOthersUptoCard

/-- THE SECOND FORM's CARD OF 'decorumlaw11.RobotsOpen'. -/
def robotsOpenUptoCard : Claim7 := { stood := { row := robotsOpenUptoRow, standIns := [], harness := (true, "d197b9417d0fe1ca454221f2141769a21cf7fc6dedecd8c35fcb9fe414422d9a"), looks := false }, kinds := [], alts := [], laidByText := true, laidKinds := [.data, .pinned], laidTests := true, laidLooks := .later }
def RobotsOpenUptoCardSaid : Prop := Claim7.holds Tryd.pinned (.plain (OpenSpec.upto robotsOpenSpec)) robotsOpenUptoCard
end Rows
end Go.Proofs.YtdnaddignhjihaaDoor
