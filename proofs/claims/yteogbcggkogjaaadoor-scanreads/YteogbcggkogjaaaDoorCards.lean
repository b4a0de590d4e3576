/-
  DERIVED. GIVEN WITH THE SEED: THE CARDS: each row of YteogbcggkogjaaaDoorRows.lean that lists a variable, with what it lists TIED to the program's text (the seventh form; the later family's looks); each row that meets fmt, with fmt's text TOLD by the authors' own Lean function (tested against real Go, not proved from fmt's source: count such statements apart). THE CARD IS WHAT COUNTS. Prove the row's statement (the work); the ties are given (YteogbcggkogjaaaDoorTie.lean); close each card by the builder's one call (the guide's Derived/Test/ToyasCard.lean, 'card_holds'). Laid BY PROGRAM, IN A SANDBOX (cutbox-door.mjs). By AI agents, Wed Nov 11 2026. No macro, syntax, notation, axiom, sorry.
-/
import Derived.Test.YteogbcggkogjaaaDoorRows
import GoSem.ClaimSeven
namespace Go.Proofs.YteogbcggkogjaaaDoor
namespace Rows

/-- THE TIED CARD OF 'sortilegelaw04.ScanTells'. -/
def scanTellsCard : Claim7 := { stood := { row := scanTellsRow, standIns := [], harness := (true, "da85fd994aeed12310ac1ed69e04be7d86d4a4174dcb8b4dc5d7ee66e2832069"), looks := true }, kinds := [], alts := [], laidByText := true, laidKinds := [.handle], laidTests := true, laidLooks := .later }
def ScanTellsCardSaid : Prop := Claim7.holds Tryd.pinned (.plain (OpenSpec.ofChange scanTellsSpec)) scanTellsCard

/-- THE TIED CARD OF 'sortilegelaw04.ScanPlaces'. -/
def scanPlacesCard : Claim7 := { stood := { row := scanPlacesRow, standIns := [], harness := (true, "da85fd994aeed12310ac1ed69e04be7d86d4a4174dcb8b4dc5d7ee66e2832069"), looks := true }, kinds := [], alts := [], laidByText := true, laidKinds := [.handle], laidTests := true, laidLooks := .later }
def ScanPlacesCardSaid : Prop := Claim7.holds Tryd.pinned (.plain (OpenSpec.ofChange scanPlacesSpec)) scanPlacesCard

/-- THE TIED CARD OF 'sortilegelaw04.ScanJoins'. -/
def scanJoinsCard : Claim7 := { stood := { row := scanJoinsRow, standIns := [], harness := (true, "da85fd994aeed12310ac1ed69e04be7d86d4a4174dcb8b4dc5d7ee66e2832069"), looks := true }, kinds := [], alts := [], laidByText := true, laidKinds := [.handle], laidTests := true, laidLooks := .later }
def ScanJoinsCardSaid : Prop := Claim7.holds Tryd.pinned (.plain (OpenSpec.ofChange scanJoinsSpec)) scanJoinsCard

/-- THE TIED CARD OF 'sortilegelaw04.ScanNames'. -/
def scanNamesCard : Claim7 := { stood := { row := scanNamesRow, standIns := [], harness := (true, "da85fd994aeed12310ac1ed69e04be7d86d4a4174dcb8b4dc5d7ee66e2832069"), looks := true }, kinds := [], alts := [], laidByText := true, laidKinds := [.handle], laidTests := true, laidLooks := .later }
def ScanNamesCardSaid : Prop := Claim7.holds Tryd.pinned (.plain (OpenSpec.ofChange scanNamesSpec)) scanNamesCard

/-- THE TIED CARD OF 'sortilegelaw04.ScanNil'. -/
def scanNilCard : Claim7 := { stood := { row := scanNilRow, standIns := [], harness := (true, "da85fd994aeed12310ac1ed69e04be7d86d4a4174dcb8b4dc5d7ee66e2832069"), looks := true }, kinds := [], alts := [], laidByText := true, laidKinds := [.handle], laidTests := true, laidLooks := .later }
def ScanNilCardSaid : Prop := Claim7.holds Tryd.pinned (.plain (OpenSpec.ofChange scanNilSpec)) scanNilCard

/-- THE TIED CARD OF 'sortilegelaw04.ScanReads'. -/
def scanReadsCard : Claim7 := { stood := { row := scanReadsRow, standIns := [], harness := (true, "da85fd994aeed12310ac1ed69e04be7d86d4a4174dcb8b4dc5d7ee66e2832069"), looks := true }, kinds := [], alts := [], laidByText := true, laidKinds := [.handle], laidTests := true, laidLooks := .later }
def ScanReadsCardSaid : Prop := Claim7.holds Tryd.pinned (.plain (OpenSpec.ofChange scanReadsSpec)) scanReadsCard

/-- THE SECOND FORM's CARD OF 'sortilegelaw04.ScanTells'. -/
def scanTellsUptoCard : Claim7 := { stood := { row := scanTellsUptoRow, standIns := [], harness := (true, "da85fd994aeed12310ac1ed69e04be7d86d4a4174dcb8b4dc5d7ee66e2832069"), looks := true }, kinds := [], alts := [], laidByText := true, laidKinds := [.handle], laidTests := true, laidLooks := .later }
def ScanTellsUptoCardSaid : Prop := Claim7.holds Tryd.pinned (.plain (OpenSpec.upto scanTellsSpec)) scanTellsUptoCard

/-- THE SECOND FORM's CARD OF 'sortilegelaw04.ScanPlaces'. -/
def scanPlacesUptoCard : Claim7 := { stood := { row := scanPlacesUptoRow, standIns := [], harness := (true, "da85fd994aeed12310ac1ed69e04be7d86d4a4174dcb8b4dc5d7ee66e2832069"), looks := true }, kinds := [], alts := [], laidByText := true, laidKinds := [.handle], laidTests := true, laidLooks := .later }
def ScanPlacesUptoCardSaid : Prop := Claim7.holds Tryd.pinned (.plain (OpenSpec.upto scanPlacesSpec)) scanPlacesUptoCard

/-- THE SECOND FORM's CARD OF 'sortilegelaw04.ScanJoins'. -/
def scanJoinsUptoCard : Claim7 := { stood := { row := scanJoinsUptoRow, standIns := [], harness := (true, "da85fd994aeed12310ac1ed69e04be7d86d4a4174dcb8b4dc5d7ee66e2832069"), looks := true }, kinds := [], alts := [], laidByText := true, laidKinds := [.handle], laidTests := true, laidLooks := .later }
def ScanJoinsUptoCardSaid : Prop := Claim7.holds Tryd.pinned (.plain (OpenSpec.upto scanJoinsSpec)) scanJoinsUptoCard

/-- THE SECOND FORM's CARD OF 'sortilegelaw04.ScanNames'. -/
def scanNamesUptoCard : Claim7 := { stood := { row := scanNamesUptoRow, standIns := [], harness := (true, "da85fd994aeed12310ac1ed69e04be7d86d4a4174dcb8b4dc5d7ee66e2832069"), looks := true }, kinds := [], alts := [], laidByText := true, laidKinds := [.handle], laidTests := true, laidLooks := .later }
def ScanNamesUptoCardSaid : Prop := Claim7.holds Tryd.pinned (.plain (OpenSpec.upto scanNamesSpec)) scanNamesUptoCard

/-- THE SECOND FORM's CARD OF 'sortilegelaw04.ScanNil'. -/
def scanNilUptoCard : Claim7 := { stood := { row := scanNilUptoRow, standIns := [], harness := (true, "da85fd994aeed12310ac1ed69e04be7d86d4a4174dcb8b4dc5d7ee66e2832069"), looks := true }, kinds := [], alts := [], laidByText := true, laidKinds := [.handle], laidTests := true, laidLooks := .later }
def ScanNilUptoCardSaid : Prop := Claim7.holds Tryd.pinned (.plain (OpenSpec.upto scanNilSpec)) scanNilUptoCard

/-- THE SECOND FORM's CARD OF 'sortilegelaw04.ScanReads'. -/
def scanReadsUptoCard : Claim7 := { stood := { row := scanReadsUptoRow, standIns := [], harness := (true, "da85fd994aeed12310ac1ed69e04be7d86d4a4174dcb8b4dc5d7ee66e2832069"), looks := true }, kinds := [], alts := [], laidByText := true, laidKinds := [.handle], laidTests := true, laidLooks := .later }
def ScanReadsUptoCardSaid : Prop := Claim7.holds Tryd.pinned (.plain (OpenSpec.upto scanReadsSpec)) scanReadsUptoCard
end Rows
end Go.Proofs.YteogbcggkogjaaaDoor
