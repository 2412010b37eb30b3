/-
  DERIVED. GIVEN WITH THE SEED: THE CARDS: each row of YtccgmeomecjihaaDoorRows.lean that lists a variable, with what it lists TIED to the program's text (the seventh form; the later family's looks); each row that meets fmt, with fmt's text TOLD by the authors' own Lean function (tested against real Go, not proved from fmt's source: count such statements apart). THE CARD IS WHAT COUNTS. Prove the row's statement (the work); the ties are given (YtccgmeomecjihaaDoorTie.lean); close each card by the builder's one call (the guide's Derived/Test/ToyasCard.lean, 'card_holds'). Laid BY PROGRAM, IN A SANDBOX (cutbox-door.mjs). By AI agents, Wed Nov 11 2026. No macro, syntax, notation, axiom, sorry.
-/
import Derived.Test.YtccgmeomecjihaaDoorRows
import GoSem.ClaimSeven
namespace Go.Proofs.YtccgmeomecjihaaDoor
namespace Rows

/-- THE TIED CARD OF 'sextantlaw10.EqualCompares'. -/
def equalComparesCard : Claim7 := { stood := { row := equalComparesRow, standIns := [], harness := (true, "75c83c4daadc8c977b905c76f47d777b1a78e9759d7ff1709b588d076e3c3f36"), looks := false }, kinds := [], alts := [], laidByText := true, laidKinds := [.data, .pinned], laidTests := true, laidLooks := .later }
def EqualComparesCardSaid : Prop := Claim7.holds Tryd.pinned (.plain (OpenSpec.ofChange equalComparesSpec)) equalComparesCard

/-- THE TIED CARD OF 'sextantlaw10.EqualOrders'. -/
def equalOrdersCard : Claim7 := { stood := { row := equalOrdersRow, standIns := [], harness := (true, "75c83c4daadc8c977b905c76f47d777b1a78e9759d7ff1709b588d076e3c3f36"), looks := false }, kinds := [], alts := [], laidByText := true, laidKinds := [.data, .pinned], laidTests := true, laidLooks := .later }
def EqualOrdersCardSaid : Prop := Claim7.holds Tryd.pinned (.plain (OpenSpec.ofChange equalOrdersSpec)) equalOrdersCard

/-- THE TIED CARD OF 'sextantlaw10.EqualHashes'. -/
def equalHashesCard : Claim7 := { stood := { row := equalHashesRow, standIns := [], harness := (true, "75c83c4daadc8c977b905c76f47d777b1a78e9759d7ff1709b588d076e3c3f36"), looks := false }, kinds := [], alts := [], laidByText := true, laidKinds := [.data, .pinned], laidTests := true, laidLooks := .later }
def EqualHashesCardSaid : Prop := Claim7.holds Tryd.pinned (.plain (OpenSpec.ofChange equalHashesSpec)) equalHashesCard

/-- THE SECOND FORM's CARD OF 'sextantlaw10.EqualCompares'. -/
def equalComparesUptoCard : Claim7 := { stood := { row := equalComparesUptoRow, standIns := [], harness := (true, "75c83c4daadc8c977b905c76f47d777b1a78e9759d7ff1709b588d076e3c3f36"), looks := false }, kinds := [], alts := [], laidByText := true, laidKinds := [.data, .pinned], laidTests := true, laidLooks := .later }
def EqualComparesUptoCardSaid : Prop := Claim7.holds Tryd.pinned (.plain (OpenSpec.upto equalComparesSpec)) equalComparesUptoCard

/-- THE SECOND FORM's CARD OF 'sextantlaw10.EqualOrders'. -/
def equalOrdersUptoCard : Claim7 := { stood := { row := equalOrdersUptoRow, standIns := [], harness := (true, "75c83c4daadc8c977b905c76f47d777b1a78e9759d7ff1709b588d076e3c3f36"), looks := false }, kinds := [], alts := [], laidByText := true, laidKinds := [.data, .pinned], laidTests := true, laidLooks := .later }
def EqualOrdersUptoCardSaid : Prop := Claim7.holds Tryd.pinned (.plain (OpenSpec.upto equalOrdersSpec)) equalOrdersUptoCard

/-- THE SECOND FORM's CARD OF 'sextantlaw10.EqualHashes'. -/
def equalHashesUptoCard : Claim7 := { stood := { row := equalHashesUptoRow, standIns := [], harness := (true, "75c83c4daadc8c977b905c76f47d777b1a78e9759d7ff1709b588d076e3c3f36"), looks := false }, kinds := [], alts := [], laidByText := true, laidKinds := [.data, .pinned], laidTests := true, laidLooks := .later }
def EqualHashesUptoCardSaid : Prop := Claim7.holds Tryd.pinned (.plain (OpenSpec.upto equalHashesSpec)) equalHashesUptoCard
end Rows
end Go.Proofs.YtccgmeomecjihaaDoor
