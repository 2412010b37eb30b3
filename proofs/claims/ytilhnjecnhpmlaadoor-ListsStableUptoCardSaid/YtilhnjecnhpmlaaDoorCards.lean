/-
  DERIVED. GIVEN WITH THE SEED: THE CARDS: each row of YtilhnjecnhpmlaaDoorRows.lean that lists a variable, with what it lists TIED to the program's text (the seventh form; the later family's looks); each row that meets fmt, with fmt's text TOLD by the authors' own Lean function (tested against real Go, not proved from fmt's source: count such statements apart). THE CARD IS WHAT COUNTS. Prove the row's statement (the work); the ties are given (YtilhnjecnhpmlaaDoorTie.lean); close each card by the builder's one call (the guide's Derived/Test/ToyasCard.lean, 'card_holds'). Laid BY PROGRAM, IN A SANDBOX (cutbox-door.mjs). By AI agents, Wed Nov 11 2026. No macro, syntax, notation, axiom, sorry.
-/
import Derived.Test.YtilhnjecnhpmlaaDoorRows
import GoSem.ClaimSeven
namespace Go.Proofs.YtilhnjecnhpmlaaDoor
namespace Rows

/-- THE TIED CARD OF 'sextantlaw11.ListsJoins'. -/
def listsJoinsCard : Claim7 := { stood := { row := listsJoinsRow, standIns := [], harness := (true, "1dce61aa36d8210b5d2686901bf7fe5a6fc23b048fbfa2ae728573871332b1b6"), looks := false }, kinds := [], alts := [], laidByText := true, laidKinds := [.data, .pinned], laidTests := true, laidLooks := .later }
def ListsJoinsCardSaid : Prop := Claim7.holds Tryd.pinned (.plain (OpenSpec.ofChange listsJoinsSpec)) listsJoinsCard

/-- THE TIED CARD OF 'sextantlaw11.ListsMade'. -/
def listsMadeCard : Claim7 := { stood := { row := listsMadeRow, standIns := [], harness := (true, "1dce61aa36d8210b5d2686901bf7fe5a6fc23b048fbfa2ae728573871332b1b6"), looks := false }, kinds := [], alts := [], laidByText := true, laidKinds := [.data, .pinned], laidTests := true, laidLooks := .later }
def ListsMadeCardSaid : Prop := Claim7.holds Tryd.pinned (.plain (OpenSpec.ofChange listsMadeSpec)) listsMadeCard

/-- THE TIED CARD OF 'sextantlaw11.ListsOrder'. -/
def listsOrderCard : Claim7 := { stood := { row := listsOrderRow, standIns := [], harness := (true, "1dce61aa36d8210b5d2686901bf7fe5a6fc23b048fbfa2ae728573871332b1b6"), looks := false }, kinds := [], alts := [], laidByText := true, laidKinds := [.data, .pinned], laidTests := true, laidLooks := .later }
def ListsOrderCardSaid : Prop := Claim7.holds Tryd.pinned (.plain (OpenSpec.ofChange listsOrderSpec)) listsOrderCard

/-- THE TIED CARD OF 'sextantlaw11.ListsStable'. -/
def listsStableCard : Claim7 := { stood := { row := listsStableRow, standIns := [], harness := (true, "1dce61aa36d8210b5d2686901bf7fe5a6fc23b048fbfa2ae728573871332b1b6"), looks := false }, kinds := [], alts := [], laidByText := true, laidKinds := [.data, .pinned], laidTests := true, laidLooks := .later }
def ListsStableCardSaid : Prop := Claim7.holds Tryd.pinned (.plain (OpenSpec.ofChange listsStableSpec)) listsStableCard

/-- THE SECOND FORM's CARD OF 'sextantlaw11.ListsJoins'. -/
def listsJoinsUptoCard : Claim7 := { stood := { row := listsJoinsUptoRow, standIns := [], harness := (true, "1dce61aa36d8210b5d2686901bf7fe5a6fc23b048fbfa2ae728573871332b1b6"), looks := false }, kinds := [], alts := [], laidByText := true, laidKinds := [.data, .pinned], laidTests := true, laidLooks := .later }
def ListsJoinsUptoCardSaid : Prop := Claim7.holds Tryd.pinned (.plain (OpenSpec.upto listsJoinsSpec)) listsJoinsUptoCard

/-- THE SECOND FORM's CARD OF 'sextantlaw11.ListsMade'. -/
def listsMadeUptoCard : Claim7 := { stood := { row := listsMadeUptoRow, standIns := [], harness := (true, "1dce61aa36d8210b5d2686901bf7fe5a6fc23b048fbfa2ae728573871332b1b6"), looks := false }, kinds := [], alts := [], laidByText := true, laidKinds := [.data, .pinned], laidTests := true, laidLooks := .later }
def ListsMadeUptoCardSaid : Prop := Claim7.holds Tryd.pinned (.plain (OpenSpec.upto listsMadeSpec)) listsMadeUptoCard

/-- THE SECOND FORM's CARD OF 'sextantlaw11.ListsOrder'. -/
def listsOrderUptoCard : Claim7 := { stood := { row := listsOrderUptoRow, standIns := [], harness := (true, "1dce61aa36d8210b5d2686901bf7fe5a6fc23b048fbfa2ae728573871332b1b6"), looks := false }, kinds := [], alts := [], laidByText := true, laidKinds := [.data, .pinned], laidTests := true, laidLooks := .later }
def ListsOrderUptoCardSaid : Prop := Claim7.holds Tryd.pinned (.plain (OpenSpec.upto listsOrderSpec)) listsOrderUptoCard

/-- THE SECOND FORM's CARD OF 'sextantlaw11.ListsStable'. -/
def listsStableUptoCard : Claim7 := { stood := { row := listsStableUptoRow, standIns := [], harness := (true, "1dce61aa36d8210b5d2686901bf7fe5a6fc23b048fbfa2ae728573871332b1b6"), looks := false }, kinds := [], alts := [], laidByText := true, laidKinds := [.data, .pinned], laidTests := true, laidLooks := .later }
def ListsStableUptoCardSaid : Prop := Claim7.holds Tryd.pinned (.plain (OpenSpec.upto listsStableSpec)) listsStableUptoCard
end Rows
end Go.Proofs.YtilhnjecnhpmlaaDoor
