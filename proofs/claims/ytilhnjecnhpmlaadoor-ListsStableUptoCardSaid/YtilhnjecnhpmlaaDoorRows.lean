/-
  NARROWER THAN 'FOR EVERY INPUT', by the rows' own cells (each row's printed sentence says how): ListsJoins: loops, laid · ListsMade: loops, laid · ListsOrder: loops, laid · ListsStable: laid.
  DERIVED. THE GIVEN ROWS OF THIS SEAT. 4 by the template 'for every input the law returns true; each argument reads behind the call as it read before'; 0 by the template 'total and deterministic' (their statements: YtilhnjecnhpmlaaDoorTotals.lean).
  GIVEN WITH THE SEED: the statements are not yours to turn. If you find one false, say at which input.
  Laid BY PROGRAM, IN A SANDBOX (cutbox-rows.mjs): the forced cells as the released guide's own fill.sh prints them over the translation fcf775ef9e4670e5… (all of the seat's roots in one cut). By AI agents, Wed Nov 11 2026. No macro, syntax, notation, axiom, sorry.
-/
import Derived.Test.YtilhnjecnhpmlaaDoorChecked
import GoSem.PinnedTables
import GoSem.Claim
import GoSem.ClaimJoined
import GoSem.ClaimMapViews
import Derived.JoinedTies
import Derived.KernelRfl
namespace Go.Proofs.YtilhnjecnhpmlaaDoor
/- THE CELL 'sum', in the pinned program and in every row, IS THE sha256 OF THE DUMP (.gsa) THAT YtilhnjecnhpmlaaDoorProg.lean LOADS. Nothing in Lean hashes anything: it is a label: what it is worth is what the hold of that sum in a sandbox is worth. -/
noncomputable def Tryd.pinned : Pinned := { name := "ytilhnjecnhpmlaadoor", sum := "fcf775ef9e4670e56ea90acdb613b59fd67f98347c79752e096166ef8279d43c", checked := Tryd.checked }
namespace Rows
def none {H : Type} : Left H := { results := [], args := [] }

/- WHAT THE LISTED PACKAGE-LEVEL VARIABLES READ AS WHEN THE CALL BEGINS. Each datum BY PROGRAM (the guide's laid-datum.mjs) off the statement by which the dump's own 'gosem.cut.vars' lays the variable. In a bare row this is a premise. The card (YtilhnjecnhpmlaaDoorCards.lean) ties it to the program's text. -/
def laid_unicode_utf8_acceptRanges {H : Type} : DataW H := .agg [.agg [.lit (.int .u8 128), .lit (.int .u8 191)], .agg [.lit (.int .u8 160), .lit (.int .u8 191)], .agg [.lit (.int .u8 128), .lit (.int .u8 159)], .agg [.lit (.int .u8 144), .lit (.int .u8 191)], .agg [.lit (.int .u8 128), .lit (.int .u8 143)], .agg [.lit (.int .u8 0), .lit (.int .u8 0)], .agg [.lit (.int .u8 0), .lit (.int .u8 0)], .agg [.lit (.int .u8 0), .lit (.int .u8 0)], .agg [.lit (.int .u8 0), .lit (.int .u8 0)], .agg [.lit (.int .u8 0), .lit (.int .u8 0)], .agg [.lit (.int .u8 0), .lit (.int .u8 0)], .agg [.lit (.int .u8 0), .lit (.int .u8 0)], .agg [.lit (.int .u8 0), .lit (.int .u8 0)], .agg [.lit (.int .u8 0), .lit (.int .u8 0)], .agg [.lit (.int .u8 0), .lit (.int .u8 0)], .agg [.lit (.int .u8 0), .lit (.int .u8 0)]]
/-- One of Go's own tables, pinned by name: the form's constant. -/
def laid_unicode_utf8_first : DataW Unit := Go.Pinned.utf8First

/-- 'sextantlaw11.ListsJoins': WHATEVER THE INPUT: true; the input reads as it did. -/
def listsJoinsSpec : ChangeSpec := { name := "listsJoins", fn := fun _ => fun
  | [d1, d2, d3] => { results := [.lit (.bool true)], args := [d1, d2, d3] }
  | _ => none }
def listsJoinsRow : OpenClaim := { program := "ytilhnjecnhpmlaadoor", sum := "fcf775ef9e4670e56ea90acdb613b59fd67f98347c79752e096166ef8279d43c", func := "sextant/sextantlaw11.ListsJoins", spec := "listsJoins", unfollowed := true, recurses := true, named := ["unicode/utf8.first", "unicode/utf8.acceptRanges"], loops := true, apart := false, laid := [("unicode/utf8.acceptRanges", laid_unicode_utf8_acceptRanges), ("unicode/utf8.first", laid_unicode_utf8_first)] }
def ListsJoinsSaid : Prop := listsJoinsRow.holds Tryd.pinned (OpenSpec.ofChange listsJoinsSpec)

/-- ITS FALSE NEIGHBOUR: 'it returns false'. Refute it at one input. -/
def listsJoinsWrong : ChangeSpec := { name := "listsJoins", fn := fun _ => fun
  | [d1, d2, d3] => { results := [.lit (.bool false)], args := [d1, d2, d3] }
  | _ => none }
def ListsJoinsWrongFalsely : Prop := listsJoinsRow.holds Tryd.pinned (OpenSpec.ofChange listsJoinsWrong)

/-- 'sextantlaw11.ListsMade': WHATEVER THE INPUT: true; the input reads as it did. -/
def listsMadeSpec : ChangeSpec := { name := "listsMade", fn := fun _ => fun
  | [d1, d2, d3] => { results := [.lit (.bool true)], args := [d1, d2, d3] }
  | _ => none }
def listsMadeRow : OpenClaim := { program := "ytilhnjecnhpmlaadoor", sum := "fcf775ef9e4670e56ea90acdb613b59fd67f98347c79752e096166ef8279d43c", func := "sextant/sextantlaw11.ListsMade", spec := "listsMade", unfollowed := true, recurses := true, named := ["unicode/utf8.first", "unicode/utf8.acceptRanges"], loops := true, apart := false, laid := [("unicode/utf8.acceptRanges", laid_unicode_utf8_acceptRanges), ("unicode/utf8.first", laid_unicode_utf8_first)] }
def ListsMadeSaid : Prop := listsMadeRow.holds Tryd.pinned (OpenSpec.ofChange listsMadeSpec)

/-- ITS FALSE NEIGHBOUR: 'it returns false'. Refute it at one input. -/
def listsMadeWrong : ChangeSpec := { name := "listsMade", fn := fun _ => fun
  | [d1, d2, d3] => { results := [.lit (.bool false)], args := [d1, d2, d3] }
  | _ => none }
def ListsMadeWrongFalsely : Prop := listsMadeRow.holds Tryd.pinned (OpenSpec.ofChange listsMadeWrong)

/-- 'sextantlaw11.ListsOrder': WHATEVER THE INPUT: true; the input reads as it did. -/
def listsOrderSpec : ChangeSpec := { name := "listsOrder", fn := fun _ => fun
  | [d1, d2] => { results := [.lit (.bool true)], args := [d1, d2] }
  | _ => none }
def listsOrderRow : OpenClaim := { program := "ytilhnjecnhpmlaadoor", sum := "fcf775ef9e4670e56ea90acdb613b59fd67f98347c79752e096166ef8279d43c", func := "sextant/sextantlaw11.ListsOrder", spec := "listsOrder", unfollowed := true, recurses := true, named := ["unicode/utf8.first", "unicode/utf8.acceptRanges"], loops := true, apart := false, laid := [("unicode/utf8.acceptRanges", laid_unicode_utf8_acceptRanges), ("unicode/utf8.first", laid_unicode_utf8_first)] }
def ListsOrderSaid : Prop := listsOrderRow.holds Tryd.pinned (OpenSpec.ofChange listsOrderSpec)

/-- ITS FALSE NEIGHBOUR: 'it returns false'. Refute it at one input. -/
def listsOrderWrong : ChangeSpec := { name := "listsOrder", fn := fun _ => fun
  | [d1, d2] => { results := [.lit (.bool false)], args := [d1, d2] }
  | _ => none }
def ListsOrderWrongFalsely : Prop := listsOrderRow.holds Tryd.pinned (OpenSpec.ofChange listsOrderWrong)

/-- 'sextantlaw11.ListsStable': WHATEVER THE INPUT: true; the input reads as it did. -/
def listsStableSpec : ChangeSpec := { name := "listsStable", fn := fun _ => fun
  | [d] => { results := [.lit (.bool true)], args := [d] }
  | _ => none }
def listsStableRow : OpenClaim := { program := "ytilhnjecnhpmlaadoor", sum := "fcf775ef9e4670e56ea90acdb613b59fd67f98347c79752e096166ef8279d43c", func := "sextant/sextantlaw11.ListsStable", spec := "listsStable", unfollowed := true, recurses := true, named := ["unicode/utf8.first", "unicode/utf8.acceptRanges"], apart := false, laid := [("unicode/utf8.acceptRanges", laid_unicode_utf8_acceptRanges), ("unicode/utf8.first", laid_unicode_utf8_first)] }
def ListsStableSaid : Prop := listsStableRow.holds Tryd.pinned (OpenSpec.ofChange listsStableSpec)

/-- ITS FALSE NEIGHBOUR: 'it returns false'. Refute it at one input. -/
def listsStableWrong : ChangeSpec := { name := "listsStable", fn := fun _ => fun
  | [d] => { results := [.lit (.bool false)], args := [d] }
  | _ => none }
def ListsStableWrongFalsely : Prop := listsStableRow.holds Tryd.pinned (OpenSpec.ofChange listsStableWrong)

/- THE SECOND FORM. 'bulk': how many values and letters a reading holds, each counted each time it is reached (what is shared counts as often as it is met; a slice's spare places count too). A statement '..UptoSaid' is the law's where the arguments, and the package variables that the reading takes, are together of bulk at most 1048576: NARROWER than '..Said'. Prove '..Said' where nothing that the law and all that it calls make is longer than what came in: it says more and counts as full. Else prove '..UptoSaid'. A law counts once. -/
mutual
def uptoBulk {H : Type} : DataW H → Nat
  | .lit (.string bytes) => bytes.length + 1
  | .lit _ => 1
  | .nil => 1
  | .ptr d => uptoBulk d + 1
  | .slice elems spare => uptoBulkAll elems + uptoBulkAll spare + 1
  | .agg parts => uptoBulkAll parts + 1
  | .iface _ d => uptoBulk d + 1
  | .map entries => uptoBulkEntries entries + 1
  | .held _ => 1
def uptoBulkAll {H : Type} : List (DataW H) → Nat
  | [] => 0
  | d :: r => uptoBulk d + uptoBulkAll r
def uptoBulkEntries {H : Type} : List (Lit × DataW H) → Nat
  | [] => 0
  | x :: r => uptoBulkEntry x + uptoBulkEntries r
def uptoBulkEntry {H : Type} : Lit × DataW H → Nat
  | (.string bytes, d) => bytes.length + uptoBulk d + 1
  | (_, d) => uptoBulk d + 1
 end
def uptoSmall : (H : Type) → List (DataW H) → Bool := fun _ ds => decide (uptoBulkAll ds ≤ 1048576)
def OpenSpec.upto (s : _root_.Go.ChangeSpec) : _root_.Go.OpenSpec := { _root_.Go.OpenSpec.ofChange s with cond := some uptoSmall }

/-- 'sextantlaw11.ListsJoins', WHERE WHAT IT READS IS OF BULK AT MOST 1048576: true; the input reads as it did. -/
def listsJoinsUptoRow : OpenClaim := { program := "ytilhnjecnhpmlaadoor", sum := "fcf775ef9e4670e56ea90acdb613b59fd67f98347c79752e096166ef8279d43c", func := "sextant/sextantlaw11.ListsJoins", spec := "listsJoins", unfollowed := true, recurses := true, named := ["unicode/utf8.first", "unicode/utf8.acceptRanges"], loops := true, apart := false, laid := [("unicode/utf8.acceptRanges", laid_unicode_utf8_acceptRanges), ("unicode/utf8.first", laid_unicode_utf8_first)], narrowed := true }
def ListsJoinsUptoSaid : Prop := listsJoinsUptoRow.holds Tryd.pinned (OpenSpec.upto listsJoinsSpec)

/-- 'sextantlaw11.ListsMade', WHERE WHAT IT READS IS OF BULK AT MOST 1048576: true; the input reads as it did. -/
def listsMadeUptoRow : OpenClaim := { program := "ytilhnjecnhpmlaadoor", sum := "fcf775ef9e4670e56ea90acdb613b59fd67f98347c79752e096166ef8279d43c", func := "sextant/sextantlaw11.ListsMade", spec := "listsMade", unfollowed := true, recurses := true, named := ["unicode/utf8.first", "unicode/utf8.acceptRanges"], loops := true, apart := false, laid := [("unicode/utf8.acceptRanges", laid_unicode_utf8_acceptRanges), ("unicode/utf8.first", laid_unicode_utf8_first)], narrowed := true }
def ListsMadeUptoSaid : Prop := listsMadeUptoRow.holds Tryd.pinned (OpenSpec.upto listsMadeSpec)

/-- 'sextantlaw11.ListsOrder', WHERE WHAT IT READS IS OF BULK AT MOST 1048576: true; the input reads as it did. -/
def listsOrderUptoRow : OpenClaim := { program := "ytilhnjecnhpmlaadoor", sum := "fcf775ef9e4670e56ea90acdb613b59fd67f98347c79752e096166ef8279d43c", func := "sextant/sextantlaw11.ListsOrder", spec := "listsOrder", unfollowed := true, recurses := true, named := ["unicode/utf8.first", "unicode/utf8.acceptRanges"], loops := true, apart := false, laid := [("unicode/utf8.acceptRanges", laid_unicode_utf8_acceptRanges), ("unicode/utf8.first", laid_unicode_utf8_first)], narrowed := true }
def ListsOrderUptoSaid : Prop := listsOrderUptoRow.holds Tryd.pinned (OpenSpec.upto listsOrderSpec)

/-- 'sextantlaw11.ListsStable', WHERE WHAT IT READS IS OF BULK AT MOST 1048576: true; the input reads as it did. -/
def listsStableUptoRow : OpenClaim := { program := "ytilhnjecnhpmlaadoor", sum := "fcf775ef9e4670e56ea90acdb613b59fd67f98347c79752e096166ef8279d43c", func := "sextant/sextantlaw11.ListsStable", spec := "listsStable", unfollowed := true, recurses := true, named := ["unicode/utf8.first", "unicode/utf8.acceptRanges"], apart := false, laid := [("unicode/utf8.acceptRanges", laid_unicode_utf8_acceptRanges), ("unicode/utf8.first", laid_unicode_utf8_first)], narrowed := true }
def ListsStableUptoSaid : Prop := listsStableUptoRow.holds Tryd.pinned (OpenSpec.upto listsStableSpec)

end Rows
end Go.Proofs.YtilhnjecnhpmlaaDoor
