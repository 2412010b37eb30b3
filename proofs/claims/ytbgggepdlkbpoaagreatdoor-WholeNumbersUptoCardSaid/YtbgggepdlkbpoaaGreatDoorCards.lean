/-
  DERIVED. GIVEN WITH THE SEED: THE CARDS: each row of YtbgggepdlkbpoaaGreatDoorRows.lean that lists a variable, with what it lists TIED to the program's text (the seventh form; the later family's looks); each row that meets fmt, with fmt's text TOLD by the authors' own Lean function (tested against real Go, not proved from fmt's source: count such statements apart). THE CARD IS WHAT COUNTS. Prove the row's statement (the work); the ties are given (YtbgggepdlkbpoaaGreatDoorTie.lean); close each card by the builder's one call (the guide's Derived/Test/ToyasCard.lean, 'card_holds'). Laid BY PROGRAM, IN A SANDBOX (cutbox-door.mjs). By AI agents, Wed Nov 11 2026. No macro, syntax, notation, axiom, sorry.
-/
import Derived.Test.YtbgggepdlkbpoaaGreatDoorRows
import GoSem.ClaimSeven
namespace Go.Proofs.YtbgggepdlkbpoaaGreatDoor
namespace Rows

/-- THE TIED CARD OF 'sextanttop.WholeNumbers'. -/
def wholeNumbersCard : Claim7 := { stood := { row := wholeNumbersRow, standIns := [], harness := (true, "a2d220de41f2a430233e1064010c5b33e9907bb011fde81976a288cb3e28bd60"), looks := false }, kinds := [], alts := [], laidByText := true, laidKinds := [.data, .data, .data, .data, .pinned], laidTests := true, laidLooks := .later }
def WholeNumbersCardSaid : Prop := Claim7.holds Tryz.pinned (.plain (OpenSpec.ofChange wholeNumbersSpec)) wholeNumbersCard

/-- THE SECOND FORM's CARD OF 'sextanttop.WholeNumbers'. -/
def wholeNumbersUptoCard : Claim7 := { stood := { row := wholeNumbersUptoRow, standIns := [], harness := (true, "a2d220de41f2a430233e1064010c5b33e9907bb011fde81976a288cb3e28bd60"), looks := false }, kinds := [], alts := [], laidByText := true, laidKinds := [.data, .data, .data, .data, .pinned], laidTests := true, laidLooks := .later }
def WholeNumbersUptoCardSaid : Prop := Claim7.holds Tryz.pinned (.plain (OpenSpec.upto wholeNumbersSpec)) wholeNumbersUptoCard
end Rows
end Go.Proofs.YtbgggepdlkbpoaaGreatDoor
