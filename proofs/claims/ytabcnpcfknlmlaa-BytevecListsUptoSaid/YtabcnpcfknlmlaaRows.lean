/-
  No cell of these rows narrows 'for every input' (looked for: loops, veiled, ifaces, maps, wideKeys, modest, calm, conditions, laid).
  DERIVED. THE GIVEN ROWS OF THIS SEAT. 5 by the template 'for every input the law returns true; each argument reads behind the call as it read before'; 0 by the template 'total and deterministic' (their statements: YtabcnpcfknlmlaaTotals.lean).
  GIVEN WITH THE SEED: the statements are not yours to turn. If you find one false, say at which input.
  Laid BY PROGRAM, IN A SANDBOX (cutbox-rows.mjs): the forced cells as the released guide's own fill.sh prints them over the translation a38802ca730cada7… (all of the seat's roots in one cut). By AI agents, Wed Nov 11 2026. No macro, syntax, notation, axiom, sorry.
-/
import Derived.Test.YtabcnpcfknlmlaaChecked
import GoSem.Claim
import GoSem.ClaimJoined
import GoSem.ClaimMapViews
import Derived.JoinedTies
import Derived.KernelRfl
namespace Go.Proofs.Ytabcnpcfknlmlaa
/- THE CELL 'sum', in the pinned program and in every row, IS THE sha256 OF THE DUMP (.gsa) THAT YtabcnpcfknlmlaaProg.lean LOADS. Nothing in Lean hashes anything: it is a label: what it is worth is what the hold of that sum in a sandbox is worth. -/
noncomputable def Try.pinned : Pinned := { name := "ytabcnpcfknlmlaa", sum := "a38802ca730cada73ed717531202c3f983058f2b6467f3bedc9026a673450253", checked := Try.checked }
namespace Rows
def none {H : Type} : Left H := { results := [], args := [] }

/-- 'sextantlaw05.BytevecGets': WHATEVER THE INPUT: true; the input reads as it did. -/
def bytevecGetsSpec : ChangeSpec := { name := "bytevecGets", fn := fun _ => fun
  | [d1, d2, d3, d4, d5] => { results := [.lit (.bool true)], args := [d1, d2, d3, d4, d5] }
  | _ => none }
def bytevecGetsRow : OpenClaim := { program := "ytabcnpcfknlmlaa", sum := "a38802ca730cada73ed717531202c3f983058f2b6467f3bedc9026a673450253", func := "sextant/sextantlaw05.BytevecGets", spec := "bytevecGets", unfollowed := true, recurses := true, apart := false }
def BytevecGetsSaid : Prop := bytevecGetsRow.holds Try.pinned (OpenSpec.ofChange bytevecGetsSpec)

/-- ITS FALSE NEIGHBOUR: 'it returns false'. Refute it at one input. -/
def bytevecGetsWrong : ChangeSpec := { name := "bytevecGets", fn := fun _ => fun
  | [d1, d2, d3, d4, d5] => { results := [.lit (.bool false)], args := [d1, d2, d3, d4, d5] }
  | _ => none }
def BytevecGetsWrongFalsely : Prop := bytevecGetsRow.holds Try.pinned (OpenSpec.ofChange bytevecGetsWrong)

/-- 'sextantlaw05.BytevecPuts': WHATEVER THE INPUT: true; the input reads as it did. -/
def bytevecPutsSpec : ChangeSpec := { name := "bytevecPuts", fn := fun _ => fun
  | [d1, d2, d3, d4, d5, d6] => { results := [.lit (.bool true)], args := [d1, d2, d3, d4, d5, d6] }
  | _ => none }
def bytevecPutsRow : OpenClaim := { program := "ytabcnpcfknlmlaa", sum := "a38802ca730cada73ed717531202c3f983058f2b6467f3bedc9026a673450253", func := "sextant/sextantlaw05.BytevecPuts", spec := "bytevecPuts", unfollowed := true, recurses := true, apart := false }
def BytevecPutsSaid : Prop := bytevecPutsRow.holds Try.pinned (OpenSpec.ofChange bytevecPutsSpec)

/-- ITS FALSE NEIGHBOUR: 'it returns false'. Refute it at one input. -/
def bytevecPutsWrong : ChangeSpec := { name := "bytevecPuts", fn := fun _ => fun
  | [d1, d2, d3, d4, d5, d6] => { results := [.lit (.bool false)], args := [d1, d2, d3, d4, d5, d6] }
  | _ => none }
def BytevecPutsWrongFalsely : Prop := bytevecPutsRow.holds Try.pinned (OpenSpec.ofChange bytevecPutsWrong)

/-- 'sextantlaw05.BytevecApart': WHATEVER THE INPUT: true; the input reads as it did. -/
def bytevecApartSpec : ChangeSpec := { name := "bytevecApart", fn := fun _ => fun
  | [d1, d2, d3, d4, d5, d6] => { results := [.lit (.bool true)], args := [d1, d2, d3, d4, d5, d6] }
  | _ => none }
def bytevecApartRow : OpenClaim := { program := "ytabcnpcfknlmlaa", sum := "a38802ca730cada73ed717531202c3f983058f2b6467f3bedc9026a673450253", func := "sextant/sextantlaw05.BytevecApart", spec := "bytevecApart", unfollowed := true, recurses := true, apart := false }
def BytevecApartSaid : Prop := bytevecApartRow.holds Try.pinned (OpenSpec.ofChange bytevecApartSpec)

/-- ITS FALSE NEIGHBOUR: 'it returns false'. Refute it at one input. -/
def bytevecApartWrong : ChangeSpec := { name := "bytevecApart", fn := fun _ => fun
  | [d1, d2, d3, d4, d5, d6] => { results := [.lit (.bool false)], args := [d1, d2, d3, d4, d5, d6] }
  | _ => none }
def BytevecApartWrongFalsely : Prop := bytevecApartRow.holds Try.pinned (OpenSpec.ofChange bytevecApartWrong)

/-- 'sextantlaw05.BytevecLists': WHATEVER THE INPUT: true; the input reads as it did. -/
def bytevecListsSpec : ChangeSpec := { name := "bytevecLists", fn := fun _ => fun
  | [d1, d2, d3, d4, d5] => { results := [.lit (.bool true)], args := [d1, d2, d3, d4, d5] }
  | _ => none }
def bytevecListsRow : OpenClaim := { program := "ytabcnpcfknlmlaa", sum := "a38802ca730cada73ed717531202c3f983058f2b6467f3bedc9026a673450253", func := "sextant/sextantlaw05.BytevecLists", spec := "bytevecLists", unfollowed := true, recurses := true, apart := false }
def BytevecListsSaid : Prop := bytevecListsRow.holds Try.pinned (OpenSpec.ofChange bytevecListsSpec)

/-- ITS FALSE NEIGHBOUR: 'it returns false'. Refute it at one input. -/
def bytevecListsWrong : ChangeSpec := { name := "bytevecLists", fn := fun _ => fun
  | [d1, d2, d3, d4, d5] => { results := [.lit (.bool false)], args := [d1, d2, d3, d4, d5] }
  | _ => none }
def BytevecListsWrongFalsely : Prop := bytevecListsRow.holds Try.pinned (OpenSpec.ofChange bytevecListsWrong)

/-- 'sextantlaw05.BytevecEnds': WHATEVER THE INPUT: true; the input reads as it did. -/
def bytevecEndsSpec : ChangeSpec := { name := "bytevecEnds", fn := fun _ => fun
  | [d] => { results := [.lit (.bool true)], args := [d] }
  | _ => none }
def bytevecEndsRow : OpenClaim := { program := "ytabcnpcfknlmlaa", sum := "a38802ca730cada73ed717531202c3f983058f2b6467f3bedc9026a673450253", func := "sextant/sextantlaw05.BytevecEnds", spec := "bytevecEnds", unfollowed := true, recurses := true, apart := false }
def BytevecEndsSaid : Prop := bytevecEndsRow.holds Try.pinned (OpenSpec.ofChange bytevecEndsSpec)

/-- ITS FALSE NEIGHBOUR: 'it returns false'. Refute it at one input. -/
def bytevecEndsWrong : ChangeSpec := { name := "bytevecEnds", fn := fun _ => fun
  | [d] => { results := [.lit (.bool false)], args := [d] }
  | _ => none }
def BytevecEndsWrongFalsely : Prop := bytevecEndsRow.holds Try.pinned (OpenSpec.ofChange bytevecEndsWrong)

/- THE SECOND FORM. 'bulk': how many values and letters a reading holds, each counted each time it is reached (what is shared counts as often as it is met; a slice's spare places count too). A statement '..UptoSaid' is the law's where the arguments, and the package variables that the reading takes, are together of bulk at most 1048576: NARROWER than '..Said'. Prove '..Said' where nothing that the law and all that it calls make is longer than what came in: it says more and counts as full. Else prove '..UptoSaid'. A law counts once. -/
mutual
def uptoBulk {H : Type} : DataW H → Nat
  | .lit (.string bytes) => bytes.length + 1
  | .lit _ => 1
  | .nil => 1
  | .ptr d => uptoBulk d + 1
  | .slice elems spare => uptoBulkAll elems + uptoBulkAll spare + 1
  | .agg parts => uptoBulkAll parts + 1
  | .iface _ d => uptoBulk d + 1
  | .map entries => uptoBulkEntries entries + 1
  | .held _ => 1
def uptoBulkAll {H : Type} : List (DataW H) → Nat
  | [] => 0
  | d :: r => uptoBulk d + uptoBulkAll r
def uptoBulkEntries {H : Type} : List (Lit × DataW H) → Nat
  | [] => 0
  | x :: r => uptoBulkEntry x + uptoBulkEntries r
def uptoBulkEntry {H : Type} : Lit × DataW H → Nat
  | (.string bytes, d) => bytes.length + uptoBulk d + 1
  | (_, d) => uptoBulk d + 1
 end
def uptoSmall : (H : Type) → List (DataW H) → Bool := fun _ ds => decide (uptoBulkAll ds ≤ 1048576)
def OpenSpec.upto (s : _root_.Go.ChangeSpec) : _root_.Go.OpenSpec := { _root_.Go.OpenSpec.ofChange s with cond := some uptoSmall }

/-- 'sextantlaw05.BytevecGets', WHERE WHAT IT READS IS OF BULK AT MOST 1048576: true; the input reads as it did. -/
def bytevecGetsUptoRow : OpenClaim := { program := "ytabcnpcfknlmlaa", sum := "a38802ca730cada73ed717531202c3f983058f2b6467f3bedc9026a673450253", func := "sextant/sextantlaw05.BytevecGets", spec := "bytevecGets", unfollowed := true, recurses := true, apart := false, narrowed := true }
def BytevecGetsUptoSaid : Prop := bytevecGetsUptoRow.holds Try.pinned (OpenSpec.upto bytevecGetsSpec)

/-- 'sextantlaw05.BytevecPuts', WHERE WHAT IT READS IS OF BULK AT MOST 1048576: true; the input reads as it did. -/
def bytevecPutsUptoRow : OpenClaim := { program := "ytabcnpcfknlmlaa", sum := "a38802ca730cada73ed717531202c3f983058f2b6467f3bedc9026a673450253", func := "sextant/sextantlaw05.BytevecPuts", spec := "bytevecPuts", unfollowed := true, recurses := true, apart := false, narrowed := true }
def BytevecPutsUptoSaid : Prop := bytevecPutsUptoRow.holds Try.pinned (OpenSpec.upto bytevecPutsSpec)

/-- 'sextantlaw05.BytevecApart', WHERE WHAT IT READS IS OF BULK AT MOST 1048576: true; the input reads as it did. -/
def bytevecApartUptoRow : OpenClaim := { program := "ytabcnpcfknlmlaa", sum := "a38802ca730cada73ed717531202c3f983058f2b6467f3bedc9026a673450253", func := "sextant/sextantlaw05.BytevecApart", spec := "bytevecApart", unfollowed := true, recurses := true, apart := false, narrowed := true }
def BytevecApartUptoSaid : Prop := bytevecApartUptoRow.holds Try.pinned (OpenSpec.upto bytevecApartSpec)

/-- 'sextantlaw05.BytevecLists', WHERE WHAT IT READS IS OF BULK AT MOST 1048576: true; the input reads as it did. -/
def bytevecListsUptoRow : OpenClaim := { program := "ytabcnpcfknlmlaa", sum := "a38802ca730cada73ed717531202c3f983058f2b6467f3bedc9026a673450253", func := "sextant/sextantlaw05.BytevecLists", spec := "bytevecLists", unfollowed := true, recurses := true, apart := false, narrowed := true }
def BytevecListsUptoSaid : Prop := bytevecListsUptoRow.holds Try.pinned (OpenSpec.upto bytevecListsSpec)

/-- 'sextantlaw05.BytevecEnds', WHERE WHAT IT READS IS OF BULK AT MOST 1048576: true; the input reads as it did. -/
def bytevecEndsUptoRow : OpenClaim := { program := "ytabcnpcfknlmlaa", sum := "a38802ca730cada73ed717531202c3f983058f2b6467f3bedc9026a673450253", func := "sextant/sextantlaw05.BytevecEnds", spec := "bytevecEnds", unfollowed := true, recurses := true, apart := false, narrowed := true }
def BytevecEndsUptoSaid : Prop := bytevecEndsUptoRow.holds Try.pinned (OpenSpec.upto bytevecEndsSpec)

end Rows
end Go.Proofs.Ytabcnpcfknlmlaa
