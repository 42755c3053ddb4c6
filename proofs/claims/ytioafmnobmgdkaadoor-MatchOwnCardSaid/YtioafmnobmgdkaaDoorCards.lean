/-
  DERIVED. GIVEN WITH THE SEED: THE CARDS: each row of YtioafmnobmgdkaaDoorRows.lean that lists a variable, with what it lists TIED to the program's text (the seventh form; the later family's looks); each row that meets fmt, with fmt's text TOLD by the authors' own Lean function (tested against real Go, not proved from fmt's source: count such statements apart). THE CARD IS WHAT COUNTS. Prove the row's statement (the work); the ties are given (YtioafmnobmgdkaaDoorTie.lean); close each card by the builder's one call (the guide's Derived/Test/ToyasCard.lean, 'card_holds'). Laid BY PROGRAM, IN A SANDBOX (cutbox-door.mjs). By AI agents, Wed Nov 11 2026. No macro, syntax, notation, axiom, sorry.
-/
import Derived.Test.YtioafmnobmgdkaaDoorRows
import GoSem.ClaimSeven
namespace Go.Proofs.YtioafmnobmgdkaaDoor
namespace Rows

/-- THE TIED CARD OF 'decorumlaw10.MatchAny'. -/
def matchAnyCard : Claim7 := { stood := { row := matchAnyRow, standIns := [], harness := (true, "4bdb64cf9e39a330555a938be58a7782302317eecf84c77c47e906c3a2fbfe59"), looks := false }, kinds := [], alts := [], laidByText := true, laidKinds := [.data, .pinned], laidTests := true, laidLooks := .later }
def MatchAnyCardSaid : Prop := Claim7.holds Tryd.pinned (.plain (OpenSpec.ofChange matchAnySpec)) matchAnyCard

/-- THE TIED CARD OF 'decorumlaw10.MatchRules'. -/
def matchRulesCard : Claim7 := { stood := { row := matchRulesRow, standIns := [], harness := (true, "4bdb64cf9e39a330555a938be58a7782302317eecf84c77c47e906c3a2fbfe59"), looks := false }, kinds := [], alts := [], laidByText := true, laidKinds := [.data, .pinned], laidTests := true, laidLooks := .later }
def MatchRulesCardSaid : Prop := Claim7.holds Tryd.pinned (.plain (OpenSpec.ofChange matchRulesSpec)) matchRulesCard

/-- THE TIED CARD OF 'decorumlaw10.MatchOwn'. -/
def matchOwnCard : Claim7 := { stood := { row := matchOwnRow, standIns := [], harness := (true, "4bdb64cf9e39a330555a938be58a7782302317eecf84c77c47e906c3a2fbfe59"), looks := false }, kinds := [], alts := [], laidByText := true, laidKinds := [.data, .pinned], laidTests := true, laidLooks := .later }
def MatchOwnCardSaid : Prop := Claim7.holds Tryd.pinned (.plain (OpenSpec.ofChange matchOwnSpec)) matchOwnCard

/-- THE TIED CARD OF 'decorumlaw10.MatchOrder'. -/
def matchOrderCard : Claim7 := { stood := { row := matchOrderRow, standIns := [], harness := (true, "4bdb64cf9e39a330555a938be58a7782302317eecf84c77c47e906c3a2fbfe59"), looks := false }, kinds := [], alts := [], laidByText := true, laidKinds := [.data, .pinned], laidTests := true, laidLooks := .later }
def MatchOrderCardSaid : Prop := Claim7.holds Tryd.pinned (.plain (OpenSpec.ofChange matchOrderSpec)) matchOrderCard

/-- THE TIED CARD OF 'decorumlaw10.MatchLonger'. -/
def matchLongerCard : Claim7 := { stood := { row := matchLongerRow, standIns := [], harness := (true, "4bdb64cf9e39a330555a938be58a7782302317eecf84c77c47e906c3a2fbfe59"), looks := false }, kinds := [], alts := [], laidByText := true, laidKinds := [.data, .pinned], laidTests := true, laidLooks := .later }
def MatchLongerCardSaid : Prop := Claim7.holds Tryd.pinned (.plain (OpenSpec.ofChange matchLongerSpec)) matchLongerCard

/-- THE SECOND FORM's CARD OF 'decorumlaw10.MatchAny'. -/
def matchAnyUptoCard : Claim7 := { stood := { row := matchAnyUptoRow, standIns := [], harness := (true, "4bdb64cf9e39a330555a938be58a7782302317eecf84c77c47e906c3a2fbfe59"), looks := false }, kinds := [], alts := [], laidByText := true, laidKinds := [.data, .pinned], laidTests := true, laidLooks := .later }
def MatchAnyUptoCardSaid : Prop := Claim7.holds Tryd.pinned (.plain (OpenSpec.upto matchAnySpec)) matchAnyUptoCard

/-- THE SECOND FORM's CARD OF 'decorumlaw10.MatchRules'. -/
def matchRulesUptoCard : Claim7 := { stood := { row := matchRulesUptoRow, standIns := [], harness := (true, "4bdb64cf9e39a330555a938be58a7782302317eecf84c77c47e906c3a2fbfe59"), looks := false }, kinds := [], alts := [], laidByText := true, laidKinds := [.data, .pinned], laidTests := true, laidLooks := .later }
def MatchRulesUptoCardSaid : Prop := Claim7.holds Tryd.pinned (.plain (OpenSpec.upto matchRulesSpec)) matchRulesUptoCard

/-- THE SECOND FORM's CARD OF 'decorumlaw10.MatchOwn'. -/
def matchOwnUptoCard : Claim7 := { stood := { row := matchOwnUptoRow, standIns := [], harness := (true, "4bdb64cf9e39a330555a938be58a7782302317eecf84c77c47e906c3a2fbfe59"), looks := false }, kinds := [], alts := [], laidByText := true, laidKinds := [.data, .pinned], laidTests := true, laidLooks := .later }
def MatchOwnUptoCardSaid : Prop := Claim7.holds Tryd.pinned (.plain (OpenSpec.upto matchOwnSpec)) matchOwnUptoCard

/-- THE SECOND FORM's CARD OF 'decorumlaw10.MatchOrder'. -/
def matchOrderUptoCard : Claim7 := { stood := { row := matchOrderUptoRow, standIns := [], harness := (true, "4bdb64cf9e39a330555a938be58a7782302317eecf84c77c47e906c3a2fbfe59"), looks := false }, kinds := [], alts := [], laidByText := true, laidKinds := [.data, .pinned], laidTests := true, laidLooks := .later }
def MatchOrderUptoCardSaid : Prop := Claim7.holds Tryd.pinned (.plain (OpenSpec.upto matchOrderSpec)) matchOrderUptoCard

/-- THE SECOND FORM's CARD OF 'decorumlaw10.MatchLonger'. -/
def matchLongerUptoCard : Claim7 := { stood := { row := matchLongerUptoRow, standIns := [], harness := (true, "4bdb64cf9e39a330555a938be58a7782302317eecf84c77c47e906c3a2fbfe59"), looks := false }, kinds := [], alts := [], laidByText := true, laidKinds := [.data, .pinned], laidTests := true, laidLooks := .later }
def MatchLongerUptoCardSaid : Prop := Claim7.holds Tryd.pinned (.plain (OpenSpec.upto matchLongerSpec)) matchLongerUptoCard
end Rows
end Go.Proofs.YtioafmnobmgdkaaDoor
