/-
  DERIVED. GIVEN WITH THE SEED: THE CARDS: each row of YtilhnjecnhpmlaaGreatDoorRows.lean that lists a variable, with what it lists TIED to the program's text (the seventh form; the later family's looks); each row that meets fmt, with fmt's text TOLD by the authors' own Lean function (tested against real Go, not proved from fmt's source: count such statements apart). THE CARD IS WHAT COUNTS. Prove the row's statement (the work); the ties are given (YtilhnjecnhpmlaaGreatDoorTie.lean); close each card by the builder's one call (the guide's Derived/Test/ToyasCard.lean, 'card_holds'). Laid BY PROGRAM, IN A SANDBOX (cutbox-door.mjs). By AI agents, Wed Nov 11 2026. No macro, syntax, notation, axiom, sorry.
-/
import Derived.Test.YtilhnjecnhpmlaaGreatDoorRows
import GoSem.ClaimSeven
namespace Go.Proofs.YtilhnjecnhpmlaaGreatDoor
namespace Rows

/-- THE TIED CARD OF 'sextantlaw11.ListsFound'. -/
def listsFoundCard : Claim7 := { stood := { row := listsFoundRow, standIns := [], harness := (true, "696dd1d3b37525f792ae09ddcbd033616a4f4d27df19d941645c97b61d79f62b"), looks := false }, kinds := [], alts := [], laidByText := true, laidKinds := [.data, .pinned], laidTests := true, laidLooks := .later }
def ListsFoundCardSaid : Prop := Claim7.holds Tryz.pinned (.plain (OpenSpec.ofChange listsFoundSpec)) listsFoundCard

/-- THE TIED CARD OF 'sextantlaw11.ListsSorted'. -/
def listsSortedCard : Claim7 := { stood := { row := listsSortedRow, standIns := [], harness := (true, "696dd1d3b37525f792ae09ddcbd033616a4f4d27df19d941645c97b61d79f62b"), looks := false }, kinds := [], alts := [], laidByText := true, laidKinds := [.data, .pinned], laidTests := true, laidLooks := .later }
def ListsSortedCardSaid : Prop := Claim7.holds Tryz.pinned (.plain (OpenSpec.ofChange listsSortedSpec)) listsSortedCard

/-- THE SECOND FORM's CARD OF 'sextantlaw11.ListsFound'. -/
def listsFoundUptoCard : Claim7 := { stood := { row := listsFoundUptoRow, standIns := [], harness := (true, "696dd1d3b37525f792ae09ddcbd033616a4f4d27df19d941645c97b61d79f62b"), looks := false }, kinds := [], alts := [], laidByText := true, laidKinds := [.data, .pinned], laidTests := true, laidLooks := .later }
def ListsFoundUptoCardSaid : Prop := Claim7.holds Tryz.pinned (.plain (OpenSpec.upto listsFoundSpec)) listsFoundUptoCard

/-- THE SECOND FORM's CARD OF 'sextantlaw11.ListsSorted'. -/
def listsSortedUptoCard : Claim7 := { stood := { row := listsSortedUptoRow, standIns := [], harness := (true, "696dd1d3b37525f792ae09ddcbd033616a4f4d27df19d941645c97b61d79f62b"), looks := false }, kinds := [], alts := [], laidByText := true, laidKinds := [.data, .pinned], laidTests := true, laidLooks := .later }
def ListsSortedUptoCardSaid : Prop := Claim7.holds Tryz.pinned (.plain (OpenSpec.upto listsSortedSpec)) listsSortedUptoCard
end Rows
end Go.Proofs.YtilhnjecnhpmlaaGreatDoor
