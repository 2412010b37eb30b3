/-
  No cell of these rows narrows 'for every input' (looked for: loops, veiled, ifaces, maps, wideKeys, modest, calm, conditions, laid).
  DERIVED. THE GIVEN ROWS OF THIS SEAT. 9 by the template 'for every input the law returns true; each argument reads behind the call as it read before'; 0 by the template 'total and deterministic' (their statements: YtpknbgfekmdlfaaTotals.lean).
  GIVEN WITH THE SEED: the statements are not yours to turn. If you find one false, say at which input.
  Laid BY PROGRAM, IN A SANDBOX (cutbox-rows.mjs): the forced cells as the released guide's own fill.sh prints them over the translation 355d13277ae2b08e… (all of the seat's roots in one cut). By AI agents, Wed Nov 11 2026. No macro, syntax, notation, axiom, sorry.
-/
import Derived.Test.YtpknbgfekmdlfaaChecked
import GoSem.Claim
import GoSem.ClaimJoined
import GoSem.ClaimMapViews
import Derived.JoinedTies
import Derived.KernelRfl
namespace Go.Proofs.Ytpknbgfekmdlfaa
/- THE CELL 'sum', in the pinned program and in every row, IS THE sha256 OF THE DUMP (.gsa) THAT YtpknbgfekmdlfaaProg.lean LOADS. Nothing in Lean hashes anything: it is a label: what it is worth is what the hold of that sum in a sandbox is worth. -/
noncomputable def Try.pinned : Pinned := { name := "ytpknbgfekmdlfaa", sum := "355d13277ae2b08eba98562285bd305703cbca153b3a30e975ab5766fc616eb6", checked := Try.checked }
namespace Rows
def none {H : Type} : Left H := { results := [], args := [] }

/-- 'sextantlaw02.NatProducts': WHATEVER THE INPUT: true; the input reads as it did. -/
def natProductsSpec : ChangeSpec := { name := "natProducts", fn := fun _ => fun
  | [d1, d2] => { results := [.lit (.bool true)], args := [d1, d2] }
  | _ => none }
def natProductsRow : OpenClaim := { program := "ytpknbgfekmdlfaa", sum := "355d13277ae2b08eba98562285bd305703cbca153b3a30e975ab5766fc616eb6", func := "sextant/sextantlaw02.NatProducts", spec := "natProducts", apart := false }
def NatProductsSaid : Prop := natProductsRow.holds Try.pinned (OpenSpec.ofChange natProductsSpec)

/-- ITS FALSE NEIGHBOUR: 'it returns false'. Refute it at one input. -/
def natProductsWrong : ChangeSpec := { name := "natProducts", fn := fun _ => fun
  | [d1, d2] => { results := [.lit (.bool false)], args := [d1, d2] }
  | _ => none }
def NatProductsWrongFalsely : Prop := natProductsRow.holds Try.pinned (OpenSpec.ofChange natProductsWrong)

/-- 'sextantlaw02.NatSums': WHATEVER THE INPUT: true; the input reads as it did. -/
def natSumsSpec : ChangeSpec := { name := "natSums", fn := fun _ => fun
  | [d1, d2, d3] => { results := [.lit (.bool true)], args := [d1, d2, d3] }
  | _ => none }
def natSumsRow : OpenClaim := { program := "ytpknbgfekmdlfaa", sum := "355d13277ae2b08eba98562285bd305703cbca153b3a30e975ab5766fc616eb6", func := "sextant/sextantlaw02.NatSums", spec := "natSums", apart := false }
def NatSumsSaid : Prop := natSumsRow.holds Try.pinned (OpenSpec.ofChange natSumsSpec)

/-- ITS FALSE NEIGHBOUR: 'it returns false'. Refute it at one input. -/
def natSumsWrong : ChangeSpec := { name := "natSums", fn := fun _ => fun
  | [d1, d2, d3] => { results := [.lit (.bool false)], args := [d1, d2, d3] }
  | _ => none }
def NatSumsWrongFalsely : Prop := natSumsRow.holds Try.pinned (OpenSpec.ofChange natSumsWrong)

/-- 'sextantlaw02.NatTexts': WHATEVER THE INPUT: true; the input reads as it did. -/
def natTextsSpec : ChangeSpec := { name := "natTexts", fn := fun _ => fun
  | [d1, d2, d3] => { results := [.lit (.bool true)], args := [d1, d2, d3] }
  | _ => none }
def natTextsRow : OpenClaim := { program := "ytpknbgfekmdlfaa", sum := "355d13277ae2b08eba98562285bd305703cbca153b3a30e975ab5766fc616eb6", func := "sextant/sextantlaw02.NatTexts", spec := "natTexts", inPlace := ["internal/bytealg.IndexByteString"], apart := false }
def NatTextsSaid : Prop := natTextsRow.holds Try.pinned (OpenSpec.ofChange natTextsSpec)

/-- ITS FALSE NEIGHBOUR: 'it returns false'. Refute it at one input. -/
def natTextsWrong : ChangeSpec := { name := "natTexts", fn := fun _ => fun
  | [d1, d2, d3] => { results := [.lit (.bool false)], args := [d1, d2, d3] }
  | _ => none }
def NatTextsWrongFalsely : Prop := natTextsRow.holds Try.pinned (OpenSpec.ofChange natTextsWrong)

/-- 'sextantlaw02.NatMoves': WHATEVER THE INPUT: true; the input reads as it did. -/
def natMovesSpec : ChangeSpec := { name := "natMoves", fn := fun _ => fun
  | [d1, d2] => { results := [.lit (.bool true)], args := [d1, d2] }
  | _ => none }
def natMovesRow : OpenClaim := { program := "ytpknbgfekmdlfaa", sum := "355d13277ae2b08eba98562285bd305703cbca153b3a30e975ab5766fc616eb6", func := "sextant/sextantlaw02.NatMoves", spec := "natMoves", apart := false }
def NatMovesSaid : Prop := natMovesRow.holds Try.pinned (OpenSpec.ofChange natMovesSpec)

/-- ITS FALSE NEIGHBOUR: 'it returns false'. Refute it at one input. -/
def natMovesWrong : ChangeSpec := { name := "natMoves", fn := fun _ => fun
  | [d1, d2] => { results := [.lit (.bool false)], args := [d1, d2] }
  | _ => none }
def NatMovesWrongFalsely : Prop := natMovesRow.holds Try.pinned (OpenSpec.ofChange natMovesWrong)

/-- 'sextantlaw02.NatQuotients': WHATEVER THE INPUT: true; the input reads as it did. -/
def natQuotientsSpec : ChangeSpec := { name := "natQuotients", fn := fun _ => fun
  | [d1, d2] => { results := [.lit (.bool true)], args := [d1, d2] }
  | _ => none }
def natQuotientsRow : OpenClaim := { program := "ytpknbgfekmdlfaa", sum := "355d13277ae2b08eba98562285bd305703cbca153b3a30e975ab5766fc616eb6", func := "sextant/sextantlaw02.NatQuotients", spec := "natQuotients", apart := false }
def NatQuotientsSaid : Prop := natQuotientsRow.holds Try.pinned (OpenSpec.ofChange natQuotientsSpec)

/-- ITS FALSE NEIGHBOUR: 'it returns false'. Refute it at one input. -/
def natQuotientsWrong : ChangeSpec := { name := "natQuotients", fn := fun _ => fun
  | [d1, d2] => { results := [.lit (.bool false)], args := [d1, d2] }
  | _ => none }
def NatQuotientsWrongFalsely : Prop := natQuotientsRow.holds Try.pinned (OpenSpec.ofChange natQuotientsWrong)

/-- 'sextantlaw02.NatDivisors': WHATEVER THE INPUT: true; the input reads as it did. -/
def natDivisorsSpec : ChangeSpec := { name := "natDivisors", fn := fun _ => fun
  | [d1, d2] => { results := [.lit (.bool true)], args := [d1, d2] }
  | _ => none }
def natDivisorsRow : OpenClaim := { program := "ytpknbgfekmdlfaa", sum := "355d13277ae2b08eba98562285bd305703cbca153b3a30e975ab5766fc616eb6", func := "sextant/sextantlaw02.NatDivisors", spec := "natDivisors", apart := false }
def NatDivisorsSaid : Prop := natDivisorsRow.holds Try.pinned (OpenSpec.ofChange natDivisorsSpec)

/-- ITS FALSE NEIGHBOUR: 'it returns false'. Refute it at one input. -/
def natDivisorsWrong : ChangeSpec := { name := "natDivisors", fn := fun _ => fun
  | [d1, d2] => { results := [.lit (.bool false)], args := [d1, d2] }
  | _ => none }
def NatDivisorsWrongFalsely : Prop := natDivisorsRow.holds Try.pinned (OpenSpec.ofChange natDivisorsWrong)

/-- 'sextantlaw02.NatShifts': WHATEVER THE INPUT: true; the input reads as it did. -/
def natShiftsSpec : ChangeSpec := { name := "natShifts", fn := fun _ => fun
  | [d1, d2] => { results := [.lit (.bool true)], args := [d1, d2] }
  | _ => none }
def natShiftsRow : OpenClaim := { program := "ytpknbgfekmdlfaa", sum := "355d13277ae2b08eba98562285bd305703cbca153b3a30e975ab5766fc616eb6", func := "sextant/sextantlaw02.NatShifts", spec := "natShifts", apart := false }
def NatShiftsSaid : Prop := natShiftsRow.holds Try.pinned (OpenSpec.ofChange natShiftsSpec)

/-- ITS FALSE NEIGHBOUR: 'it returns false'. Refute it at one input. -/
def natShiftsWrong : ChangeSpec := { name := "natShifts", fn := fun _ => fun
  | [d1, d2] => { results := [.lit (.bool false)], args := [d1, d2] }
  | _ => none }
def NatShiftsWrongFalsely : Prop := natShiftsRow.holds Try.pinned (OpenSpec.ofChange natShiftsWrong)

/-- 'sextantlaw02.NatRoots': WHATEVER THE INPUT: true; the input reads as it did. -/
def natRootsSpec : ChangeSpec := { name := "natRoots", fn := fun _ => fun
  | [d] => { results := [.lit (.bool true)], args := [d] }
  | _ => none }
def natRootsRow : OpenClaim := { program := "ytpknbgfekmdlfaa", sum := "355d13277ae2b08eba98562285bd305703cbca153b3a30e975ab5766fc616eb6", func := "sextant/sextantlaw02.NatRoots", spec := "natRoots", apart := false }
def NatRootsSaid : Prop := natRootsRow.holds Try.pinned (OpenSpec.ofChange natRootsSpec)

/-- ITS FALSE NEIGHBOUR: 'it returns false'. Refute it at one input. -/
def natRootsWrong : ChangeSpec := { name := "natRoots", fn := fun _ => fun
  | [d] => { results := [.lit (.bool false)], args := [d] }
  | _ => none }
def NatRootsWrongFalsely : Prop := natRootsRow.holds Try.pinned (OpenSpec.ofChange natRootsWrong)

/-- 'sextantlaw02.NatLaws': WHATEVER THE INPUT: true; the input reads as it did. -/
def natLawsSpec : ChangeSpec := { name := "natLaws", fn := fun _ => fun
  | [d1, d2, d3] => { results := [.lit (.bool true)], args := [d1, d2, d3] }
  | _ => none }
def natLawsRow : OpenClaim := { program := "ytpknbgfekmdlfaa", sum := "355d13277ae2b08eba98562285bd305703cbca153b3a30e975ab5766fc616eb6", func := "sextant/sextantlaw02.NatLaws", spec := "natLaws", apart := false }
def NatLawsSaid : Prop := natLawsRow.holds Try.pinned (OpenSpec.ofChange natLawsSpec)

/-- ITS FALSE NEIGHBOUR: 'it returns false'. Refute it at one input. -/
def natLawsWrong : ChangeSpec := { name := "natLaws", fn := fun _ => fun
  | [d1, d2, d3] => { results := [.lit (.bool false)], args := [d1, d2, d3] }
  | _ => none }
def NatLawsWrongFalsely : Prop := natLawsRow.holds Try.pinned (OpenSpec.ofChange natLawsWrong)

/- THE SECOND FORM. 'bulk': how many values and letters a reading holds, each counted each time it is reached (what is shared counts as often as it is met; a slice's spare places count too). A statement '..UptoSaid' is the law's where the arguments, and the package variables that the reading takes, are together of bulk at most 1048576: NARROWER than '..Said'. Prove '..Said' where nothing that the law and all that it calls make is longer than what came in: it says more and counts as full. Else prove '..UptoSaid'. A law counts once. -/
mutual
def uptoBulk {H : Type} : DataW H → Nat
  | .lit (.string bytes) => bytes.length + 1
  | .lit _ => 1
  | .nil => 1
  | .ptr d => uptoBulk d + 1
  | .slice elems spare => uptoBulkAll elems + uptoBulkAll spare + 1
  | .agg parts => uptoBulkAll parts + 1
  | .iface _ d => uptoBulk d + 1
  | .map entries => uptoBulkEntries entries + 1
  | .held _ => 1
def uptoBulkAll {H : Type} : List (DataW H) → Nat
  | [] => 0
  | d :: r => uptoBulk d + uptoBulkAll r
def uptoBulkEntries {H : Type} : List (Lit × DataW H) → Nat
  | [] => 0
  | x :: r => uptoBulkEntry x + uptoBulkEntries r
def uptoBulkEntry {H : Type} : Lit × DataW H → Nat
  | (.string bytes, d) => bytes.length + uptoBulk d + 1
  | (_, d) => uptoBulk d + 1
 end
def uptoSmall : (H : Type) → List (DataW H) → Bool := fun _ ds => decide (uptoBulkAll ds ≤ 1048576)
def OpenSpec.upto (s : _root_.Go.ChangeSpec) : _root_.Go.OpenSpec := { _root_.Go.OpenSpec.ofChange s with cond := some uptoSmall }

/-- 'sextantlaw02.NatProducts', WHERE WHAT IT READS IS OF BULK AT MOST 1048576: true; the input reads as it did. -/
def natProductsUptoRow : OpenClaim := { program := "ytpknbgfekmdlfaa", sum := "355d13277ae2b08eba98562285bd305703cbca153b3a30e975ab5766fc616eb6", func := "sextant/sextantlaw02.NatProducts", spec := "natProducts", apart := false, narrowed := true }
def NatProductsUptoSaid : Prop := natProductsUptoRow.holds Try.pinned (OpenSpec.upto natProductsSpec)

/-- 'sextantlaw02.NatSums', WHERE WHAT IT READS IS OF BULK AT MOST 1048576: true; the input reads as it did. -/
def natSumsUptoRow : OpenClaim := { program := "ytpknbgfekmdlfaa", sum := "355d13277ae2b08eba98562285bd305703cbca153b3a30e975ab5766fc616eb6", func := "sextant/sextantlaw02.NatSums", spec := "natSums", apart := false, narrowed := true }
def NatSumsUptoSaid : Prop := natSumsUptoRow.holds Try.pinned (OpenSpec.upto natSumsSpec)

/-- 'sextantlaw02.NatTexts', WHERE WHAT IT READS IS OF BULK AT MOST 1048576: true; the input reads as it did. -/
def natTextsUptoRow : OpenClaim := { program := "ytpknbgfekmdlfaa", sum := "355d13277ae2b08eba98562285bd305703cbca153b3a30e975ab5766fc616eb6", func := "sextant/sextantlaw02.NatTexts", spec := "natTexts", inPlace := ["internal/bytealg.IndexByteString"], apart := false, narrowed := true }
def NatTextsUptoSaid : Prop := natTextsUptoRow.holds Try.pinned (OpenSpec.upto natTextsSpec)

/-- 'sextantlaw02.NatMoves', WHERE WHAT IT READS IS OF BULK AT MOST 1048576: true; the input reads as it did. -/
def natMovesUptoRow : OpenClaim := { program := "ytpknbgfekmdlfaa", sum := "355d13277ae2b08eba98562285bd305703cbca153b3a30e975ab5766fc616eb6", func := "sextant/sextantlaw02.NatMoves", spec := "natMoves", apart := false, narrowed := true }
def NatMovesUptoSaid : Prop := natMovesUptoRow.holds Try.pinned (OpenSpec.upto natMovesSpec)

/-- 'sextantlaw02.NatQuotients', WHERE WHAT IT READS IS OF BULK AT MOST 1048576: true; the input reads as it did. -/
def natQuotientsUptoRow : OpenClaim := { program := "ytpknbgfekmdlfaa", sum := "355d13277ae2b08eba98562285bd305703cbca153b3a30e975ab5766fc616eb6", func := "sextant/sextantlaw02.NatQuotients", spec := "natQuotients", apart := false, narrowed := true }
def NatQuotientsUptoSaid : Prop := natQuotientsUptoRow.holds Try.pinned (OpenSpec.upto natQuotientsSpec)

/-- 'sextantlaw02.NatDivisors', WHERE WHAT IT READS IS OF BULK AT MOST 1048576: true; the input reads as it did. -/
def natDivisorsUptoRow : OpenClaim := { program := "ytpknbgfekmdlfaa", sum := "355d13277ae2b08eba98562285bd305703cbca153b3a30e975ab5766fc616eb6", func := "sextant/sextantlaw02.NatDivisors", spec := "natDivisors", apart := false, narrowed := true }
def NatDivisorsUptoSaid : Prop := natDivisorsUptoRow.holds Try.pinned (OpenSpec.upto natDivisorsSpec)

/-- 'sextantlaw02.NatShifts', WHERE WHAT IT READS IS OF BULK AT MOST 1048576: true; the input reads as it did. -/
def natShiftsUptoRow : OpenClaim := { program := "ytpknbgfekmdlfaa", sum := "355d13277ae2b08eba98562285bd305703cbca153b3a30e975ab5766fc616eb6", func := "sextant/sextantlaw02.NatShifts", spec := "natShifts", apart := false, narrowed := true }
def NatShiftsUptoSaid : Prop := natShiftsUptoRow.holds Try.pinned (OpenSpec.upto natShiftsSpec)

/-- 'sextantlaw02.NatRoots', WHERE WHAT IT READS IS OF BULK AT MOST 1048576: true; the input reads as it did. -/
def natRootsUptoRow : OpenClaim := { program := "ytpknbgfekmdlfaa", sum := "355d13277ae2b08eba98562285bd305703cbca153b3a30e975ab5766fc616eb6", func := "sextant/sextantlaw02.NatRoots", spec := "natRoots", apart := false, narrowed := true }
def NatRootsUptoSaid : Prop := natRootsUptoRow.holds Try.pinned (OpenSpec.upto natRootsSpec)

/-- 'sextantlaw02.NatLaws', WHERE WHAT IT READS IS OF BULK AT MOST 1048576: true; the input reads as it did. -/
def natLawsUptoRow : OpenClaim := { program := "ytpknbgfekmdlfaa", sum := "355d13277ae2b08eba98562285bd305703cbca153b3a30e975ab5766fc616eb6", func := "sextant/sextantlaw02.NatLaws", spec := "natLaws", apart := false, narrowed := true }
def NatLawsUptoSaid : Prop := natLawsUptoRow.holds Try.pinned (OpenSpec.upto natLawsSpec)

end Rows
end Go.Proofs.Ytpknbgfekmdlfaa
