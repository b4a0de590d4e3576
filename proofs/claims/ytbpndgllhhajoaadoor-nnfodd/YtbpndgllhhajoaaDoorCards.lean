/-
  DERIVED. GIVEN WITH THE SEED: THE CARDS: each row of YtbpndgllhhajoaaDoorRows.lean that lists a variable, with what it lists TIED to the program's text (the seventh form; the later family's looks); each row that meets fmt, with fmt's text TOLD by the authors' own Lean function (tested against real Go, not proved from fmt's source: count such statements apart). THE CARD IS WHAT COUNTS. Prove the row's statement (the work); the ties are given (YtbpndgllhhajoaaDoorTie.lean); close each card by the builder's one call (the guide's Derived/Test/ToyasCard.lean, 'card_holds'). Laid BY PROGRAM, IN A SANDBOX (cutbox-door.mjs). By AI agents, Wed Nov 11 2026. No macro, syntax, notation, axiom, sorry.
-/
import Derived.Test.YtbpndgllhhajoaaDoorRows
import GoSem.ClaimSeven
namespace Go.Proofs.YtbpndgllhhajoaaDoor
namespace Rows

/-- THE TIED CARD OF 'sortilegelaw17.NbaMakes'. -/
def nbaMakesCard : Claim7 := { stood := { row := nbaMakesRow, standIns := [], harness := (true, "ac7e3dad4b5c4d4a7d504f73b8ec8954ac308778bf463142fa8f9a252a2ea388"), looks := true }, kinds := [], alts := [], laidByText := true, laidKinds := [.handle], laidTests := true, laidLooks := .later }
def NbaMakesCardSaid : Prop := Claim7.holds Tryd.pinned (.plain (OpenSpec.ofChange nbaMakesSpec)) nbaMakesCard

/-- THE TIED CARD OF 'sortilegelaw17.NbaAccepts'. -/
def nbaAcceptsCard : Claim7 := { stood := { row := nbaAcceptsRow, standIns := [], harness := (true, "ac7e3dad4b5c4d4a7d504f73b8ec8954ac308778bf463142fa8f9a252a2ea388"), looks := true }, kinds := [], alts := [], laidByText := true, laidKinds := [.handle], laidTests := true, laidLooks := .later }
def NbaAcceptsCardSaid : Prop := Claim7.holds Tryd.pinned (.plain (OpenSpec.ofChange nbaAcceptsSpec)) nbaAcceptsCard

/-- THE TIED CARD OF 'sortilegelaw15.NnfOdd'. -/
def nnfOddCard : Claim7 := { stood := { row := nnfOddRow, standIns := [], harness := (true, "ac7e3dad4b5c4d4a7d504f73b8ec8954ac308778bf463142fa8f9a252a2ea388"), looks := true }, kinds := [], alts := [], laidByText := true, laidKinds := [.handle], laidTests := true, laidLooks := .later }
def NnfOddCardSaid : Prop := Claim7.holds Tryd.pinned (.plain (OpenSpec.ofChange nnfOddSpec)) nnfOddCard

/-- THE TIED CARD OF 'sortilegelaw15.NnfTwice'. -/
def nnfTwiceCard : Claim7 := { stood := { row := nnfTwiceRow, standIns := [], harness := (true, "ac7e3dad4b5c4d4a7d504f73b8ec8954ac308778bf463142fa8f9a252a2ea388"), looks := true }, kinds := [], alts := [], laidByText := true, laidKinds := [.handle], laidTests := true, laidLooks := .later }
def NnfTwiceCardSaid : Prop := Claim7.holds Tryd.pinned (.plain (OpenSpec.ofChange nnfTwiceSpec)) nnfTwiceCard

/-- THE SECOND FORM's CARD OF 'sortilegelaw17.NbaMakes'. -/
def nbaMakesUptoCard : Claim7 := { stood := { row := nbaMakesUptoRow, standIns := [], harness := (true, "ac7e3dad4b5c4d4a7d504f73b8ec8954ac308778bf463142fa8f9a252a2ea388"), looks := true }, kinds := [], alts := [], laidByText := true, laidKinds := [.handle], laidTests := true, laidLooks := .later }
def NbaMakesUptoCardSaid : Prop := Claim7.holds Tryd.pinned (.plain (OpenSpec.upto nbaMakesSpec)) nbaMakesUptoCard

/-- THE SECOND FORM's CARD OF 'sortilegelaw17.NbaAccepts'. -/
def nbaAcceptsUptoCard : Claim7 := { stood := { row := nbaAcceptsUptoRow, standIns := [], harness := (true, "ac7e3dad4b5c4d4a7d504f73b8ec8954ac308778bf463142fa8f9a252a2ea388"), looks := true }, kinds := [], alts := [], laidByText := true, laidKinds := [.handle], laidTests := true, laidLooks := .later }
def NbaAcceptsUptoCardSaid : Prop := Claim7.holds Tryd.pinned (.plain (OpenSpec.upto nbaAcceptsSpec)) nbaAcceptsUptoCard

/-- THE SECOND FORM's CARD OF 'sortilegelaw15.NnfOdd'. -/
def nnfOddUptoCard : Claim7 := { stood := { row := nnfOddUptoRow, standIns := [], harness := (true, "ac7e3dad4b5c4d4a7d504f73b8ec8954ac308778bf463142fa8f9a252a2ea388"), looks := true }, kinds := [], alts := [], laidByText := true, laidKinds := [.handle], laidTests := true, laidLooks := .later }
def NnfOddUptoCardSaid : Prop := Claim7.holds Tryd.pinned (.plain (OpenSpec.upto nnfOddSpec)) nnfOddUptoCard

/-- THE SECOND FORM's CARD OF 'sortilegelaw15.NnfTwice'. -/
def nnfTwiceUptoCard : Claim7 := { stood := { row := nnfTwiceUptoRow, standIns := [], harness := (true, "ac7e3dad4b5c4d4a7d504f73b8ec8954ac308778bf463142fa8f9a252a2ea388"), looks := true }, kinds := [], alts := [], laidByText := true, laidKinds := [.handle], laidTests := true, laidLooks := .later }
def NnfTwiceUptoCardSaid : Prop := Claim7.holds Tryd.pinned (.plain (OpenSpec.upto nnfTwiceSpec)) nnfTwiceUptoCard
end Rows
end Go.Proofs.YtbpndgllhhajoaaDoor
