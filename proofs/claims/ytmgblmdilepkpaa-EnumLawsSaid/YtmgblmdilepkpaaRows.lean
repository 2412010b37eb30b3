/-
  No cell of these rows narrows 'for every input' (looked for: loops, veiled, ifaces, maps, wideKeys, modest, calm, conditions, laid).
  DERIVED. THE GIVEN ROWS OF THIS SEAT. 3 by the template 'for every input the law returns true; each argument reads behind the call as it read before'; 0 by the template 'total and deterministic' (their statements: YtmgblmdilepkpaaTotals.lean).
  GIVEN WITH THE SEED: the statements are not yours to turn. If you find one false, say at which input.
  Laid BY PROGRAM, IN A SANDBOX (cutbox-rows.mjs): the forced cells as the released guide's own fill.sh prints them over the translation ebf5c698717b5063… (all of the seat's roots in one cut). By AI agents, Wed Nov 11 2026. No macro, syntax, notation, axiom, sorry.
-/
import Derived.Test.YtmgblmdilepkpaaChecked
import GoSem.Claim
import GoSem.ClaimJoined
import GoSem.ClaimMapViews
import Derived.JoinedTies
import Derived.KernelRfl
namespace Go.Proofs.Ytmgblmdilepkpaa
/- THE CELL 'sum', in the pinned program and in every row, IS THE sha256 OF THE DUMP (.gsa) THAT YtmgblmdilepkpaaProg.lean LOADS. Nothing in Lean hashes anything: it is a label: what it is worth is what the hold of that sum in a sandbox is worth. -/
noncomputable def Try.pinned : Pinned := { name := "ytmgblmdilepkpaa", sum := "ebf5c698717b50639e694ef8302f65044a024185c88e93b4378398aedd1519fe", checked := Try.checked }
namespace Rows
def none {H : Type} : Left H := { results := [], args := [] }

/-- 'sextantlaw14.EnumMade': WHATEVER THE INPUT: true; the input reads as it did. -/
def enumMadeSpec : ChangeSpec := { name := "enumMade", fn := fun _ => fun
  | [d1, d2, d3, d4] => { results := [.lit (.bool true)], args := [d1, d2, d3, d4] }
  | _ => none }
def enumMadeRow : OpenClaim := { program := "ytmgblmdilepkpaa", sum := "ebf5c698717b50639e694ef8302f65044a024185c88e93b4378398aedd1519fe", func := "sextant/sextantlaw14.EnumMade", spec := "enumMade", unfollowed := true, recurses := true, apart := false }
def EnumMadeSaid : Prop := enumMadeRow.holds Try.pinned (OpenSpec.ofChange enumMadeSpec)

/-- ITS FALSE NEIGHBOUR: 'it returns false'. Refute it at one input. -/
def enumMadeWrong : ChangeSpec := { name := "enumMade", fn := fun _ => fun
  | [d1, d2, d3, d4] => { results := [.lit (.bool false)], args := [d1, d2, d3, d4] }
  | _ => none }
def EnumMadeWrongFalsely : Prop := enumMadeRow.holds Try.pinned (OpenSpec.ofChange enumMadeWrong)

/-- 'sextantlaw14.EnumLaws': WHATEVER THE INPUT: true; the input reads as it did. -/
def enumLawsSpec : ChangeSpec := { name := "enumLaws", fn := fun _ => fun
  | [d1, d2, d3] => { results := [.lit (.bool true)], args := [d1, d2, d3] }
  | _ => none }
def enumLawsRow : OpenClaim := { program := "ytmgblmdilepkpaa", sum := "ebf5c698717b50639e694ef8302f65044a024185c88e93b4378398aedd1519fe", func := "sextant/sextantlaw14.EnumLaws", spec := "enumLaws", unfollowed := true, recurses := true, apart := false }
def EnumLawsSaid : Prop := enumLawsRow.holds Try.pinned (OpenSpec.ofChange enumLawsSpec)

/-- ITS FALSE NEIGHBOUR: 'it returns false'. Refute it at one input. -/
def enumLawsWrong : ChangeSpec := { name := "enumLaws", fn := fun _ => fun
  | [d1, d2, d3] => { results := [.lit (.bool false)], args := [d1, d2, d3] }
  | _ => none }
def EnumLawsWrongFalsely : Prop := enumLawsRow.holds Try.pinned (OpenSpec.ofChange enumLawsWrong)

/-- 'sextantlaw14.EnumSets': WHATEVER THE INPUT: true; the input reads as it did. -/
def enumSetsSpec : ChangeSpec := { name := "enumSets", fn := fun _ => fun
  | [d1, d2, d3, d4] => { results := [.lit (.bool true)], args := [d1, d2, d3, d4] }
  | _ => none }
def enumSetsRow : OpenClaim := { program := "ytmgblmdilepkpaa", sum := "ebf5c698717b50639e694ef8302f65044a024185c88e93b4378398aedd1519fe", func := "sextant/sextantlaw14.EnumSets", spec := "enumSets", unfollowed := true, recurses := true, apart := false }
def EnumSetsSaid : Prop := enumSetsRow.holds Try.pinned (OpenSpec.ofChange enumSetsSpec)

/-- ITS FALSE NEIGHBOUR: 'it returns false'. Refute it at one input. -/
def enumSetsWrong : ChangeSpec := { name := "enumSets", fn := fun _ => fun
  | [d1, d2, d3, d4] => { results := [.lit (.bool false)], args := [d1, d2, d3, d4] }
  | _ => none }
def EnumSetsWrongFalsely : Prop := enumSetsRow.holds Try.pinned (OpenSpec.ofChange enumSetsWrong)

/- THE SECOND FORM. 'bulk': how many values and letters a reading holds, each counted each time it is reached (what is shared counts as often as it is met; a slice's spare places count too). A statement '..UptoSaid' is the law's where the arguments, and the package variables that the reading takes, are together of bulk at most 1048576: NARROWER than '..Said'. Prove '..Said' where nothing that the law and all that it calls make is longer than what came in: it says more and counts as full. Else prove '..UptoSaid'. A law counts once. -/
mutual
def uptoBulk {H : Type} : DataW H → Nat
  | .lit (.string bytes) => bytes.length + 1
  | .lit _ => 1
  | .nil => 1
  | .ptr d => uptoBulk d + 1
  | .slice elems spare => uptoBulkAll elems + uptoBulkAll spare + 1
  | .agg parts => uptoBulkAll parts + 1
  | .iface _ d => uptoBulk d + 1
  | .map entries => uptoBulkEntries entries + 1
  | .held _ => 1
def uptoBulkAll {H : Type} : List (DataW H) → Nat
  | [] => 0
  | d :: r => uptoBulk d + uptoBulkAll r
def uptoBulkEntries {H : Type} : List (Lit × DataW H) → Nat
  | [] => 0
  | x :: r => uptoBulkEntry x + uptoBulkEntries r
def uptoBulkEntry {H : Type} : Lit × DataW H → Nat
  | (.string bytes, d) => bytes.length + uptoBulk d + 1
  | (_, d) => uptoBulk d + 1
 end
def uptoSmall : (H : Type) → List (DataW H) → Bool := fun _ ds => decide (uptoBulkAll ds ≤ 1048576)
def OpenSpec.upto (s : _root_.Go.ChangeSpec) : _root_.Go.OpenSpec := { _root_.Go.OpenSpec.ofChange s with cond := some uptoSmall }

/-- 'sextantlaw14.EnumMade', WHERE WHAT IT READS IS OF BULK AT MOST 1048576: true; the input reads as it did. -/
def enumMadeUptoRow : OpenClaim := { program := "ytmgblmdilepkpaa", sum := "ebf5c698717b50639e694ef8302f65044a024185c88e93b4378398aedd1519fe", func := "sextant/sextantlaw14.EnumMade", spec := "enumMade", unfollowed := true, recurses := true, apart := false, narrowed := true }
def EnumMadeUptoSaid : Prop := enumMadeUptoRow.holds Try.pinned (OpenSpec.upto enumMadeSpec)

/-- 'sextantlaw14.EnumLaws', WHERE WHAT IT READS IS OF BULK AT MOST 1048576: true; the input reads as it did. -/
def enumLawsUptoRow : OpenClaim := { program := "ytmgblmdilepkpaa", sum := "ebf5c698717b50639e694ef8302f65044a024185c88e93b4378398aedd1519fe", func := "sextant/sextantlaw14.EnumLaws", spec := "enumLaws", unfollowed := true, recurses := true, apart := false, narrowed := true }
def EnumLawsUptoSaid : Prop := enumLawsUptoRow.holds Try.pinned (OpenSpec.upto enumLawsSpec)

/-- 'sextantlaw14.EnumSets', WHERE WHAT IT READS IS OF BULK AT MOST 1048576: true; the input reads as it did. -/
def enumSetsUptoRow : OpenClaim := { program := "ytmgblmdilepkpaa", sum := "ebf5c698717b50639e694ef8302f65044a024185c88e93b4378398aedd1519fe", func := "sextant/sextantlaw14.EnumSets", spec := "enumSets", unfollowed := true, recurses := true, apart := false, narrowed := true }
def EnumSetsUptoSaid : Prop := enumSetsUptoRow.holds Try.pinned (OpenSpec.upto enumSetsSpec)

end Rows
end Go.Proofs.Ytmgblmdilepkpaa
