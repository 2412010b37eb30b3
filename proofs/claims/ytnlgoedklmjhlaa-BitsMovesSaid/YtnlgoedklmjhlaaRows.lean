/-
  No cell of these rows narrows 'for every input' (looked for: loops, veiled, ifaces, maps, wideKeys, modest, calm, conditions, laid).
  DERIVED. THE GIVEN ROWS OF THIS SEAT. 5 by the template 'for every input the law returns true; each argument reads behind the call as it read before'; 0 by the template 'total and deterministic' (their statements: YtnlgoedklmjhlaaTotals.lean).
  GIVEN WITH THE SEED: the statements are not yours to turn. If you find one false, say at which input.
  Laid BY PROGRAM, IN A SANDBOX (cutbox-rows.mjs): the forced cells as the released guide's own fill.sh prints them over the translation c00e6f92e2299eb9… (all of the seat's roots in one cut). By AI agents, Wed Nov 11 2026. No macro, syntax, notation, axiom, sorry.
-/
import Derived.Test.YtnlgoedklmjhlaaChecked
import GoSem.Claim
import GoSem.ClaimJoined
import GoSem.ClaimMapViews
import Derived.JoinedTies
import Derived.KernelRfl
namespace Go.Proofs.Ytnlgoedklmjhlaa
/- THE CELL 'sum', in the pinned program and in every row, IS THE sha256 OF THE DUMP (.gsa) THAT YtnlgoedklmjhlaaProg.lean LOADS. Nothing in Lean hashes anything: it is a label: what it is worth is what the hold of that sum in a sandbox is worth. -/
noncomputable def Try.pinned : Pinned := { name := "ytnlgoedklmjhlaa", sum := "c00e6f92e2299eb9cc5fb32bf8d4c7cd57fc81e8c11018a9e246fcabe7732c95", checked := Try.checked }
namespace Rows
def none {H : Type} : Left H := { results := [], args := [] }

/-- 'sextantlaw04.BitsBoth': WHATEVER THE INPUT: true; the input reads as it did. -/
def bitsBothSpec : ChangeSpec := { name := "bitsBoth", fn := fun _ => fun
  | [d1, d2] => { results := [.lit (.bool true)], args := [d1, d2] }
  | _ => none }
def bitsBothRow : OpenClaim := { program := "ytnlgoedklmjhlaa", sum := "c00e6f92e2299eb9cc5fb32bf8d4c7cd57fc81e8c11018a9e246fcabe7732c95", func := "sextant/sextantlaw04.BitsBoth", spec := "bitsBoth", unfollowed := true, recurses := true, apart := false }
def BitsBothSaid : Prop := bitsBothRow.holds Try.pinned (OpenSpec.ofChange bitsBothSpec)

/-- ITS FALSE NEIGHBOUR: 'it returns false'. Refute it at one input. -/
def bitsBothWrong : ChangeSpec := { name := "bitsBoth", fn := fun _ => fun
  | [d1, d2] => { results := [.lit (.bool false)], args := [d1, d2] }
  | _ => none }
def BitsBothWrongFalsely : Prop := bitsBothRow.holds Try.pinned (OpenSpec.ofChange bitsBothWrong)

/-- 'sextantlaw04.BitsFields': WHATEVER THE INPUT: true; the input reads as it did. -/
def bitsFieldsSpec : ChangeSpec := { name := "bitsFields", fn := fun _ => fun
  | [d1, d2, d3] => { results := [.lit (.bool true)], args := [d1, d2, d3] }
  | _ => none }
def bitsFieldsRow : OpenClaim := { program := "ytnlgoedklmjhlaa", sum := "c00e6f92e2299eb9cc5fb32bf8d4c7cd57fc81e8c11018a9e246fcabe7732c95", func := "sextant/sextantlaw04.BitsFields", spec := "bitsFields", unfollowed := true, recurses := true, apart := false }
def BitsFieldsSaid : Prop := bitsFieldsRow.holds Try.pinned (OpenSpec.ofChange bitsFieldsSpec)

/-- ITS FALSE NEIGHBOUR: 'it returns false'. Refute it at one input. -/
def bitsFieldsWrong : ChangeSpec := { name := "bitsFields", fn := fun _ => fun
  | [d1, d2, d3] => { results := [.lit (.bool false)], args := [d1, d2, d3] }
  | _ => none }
def BitsFieldsWrongFalsely : Prop := bitsFieldsRow.holds Try.pinned (OpenSpec.ofChange bitsFieldsWrong)

/-- 'sextantlaw04.BitsShifts': WHATEVER THE INPUT: true; the input reads as it did. -/
def bitsShiftsSpec : ChangeSpec := { name := "bitsShifts", fn := fun _ => fun
  | [d1, d2] => { results := [.lit (.bool true)], args := [d1, d2] }
  | _ => none }
def bitsShiftsRow : OpenClaim := { program := "ytnlgoedklmjhlaa", sum := "c00e6f92e2299eb9cc5fb32bf8d4c7cd57fc81e8c11018a9e246fcabe7732c95", func := "sextant/sextantlaw04.BitsShifts", spec := "bitsShifts", unfollowed := true, recurses := true, apart := false }
def BitsShiftsSaid : Prop := bitsShiftsRow.holds Try.pinned (OpenSpec.ofChange bitsShiftsSpec)

/-- ITS FALSE NEIGHBOUR: 'it returns false'. Refute it at one input. -/
def bitsShiftsWrong : ChangeSpec := { name := "bitsShifts", fn := fun _ => fun
  | [d1, d2] => { results := [.lit (.bool false)], args := [d1, d2] }
  | _ => none }
def BitsShiftsWrongFalsely : Prop := bitsShiftsRow.holds Try.pinned (OpenSpec.ofChange bitsShiftsWrong)

/-- 'sextantlaw04.BitsLaws': WHATEVER THE INPUT: true; the input reads as it did. -/
def bitsLawsSpec : ChangeSpec := { name := "bitsLaws", fn := fun _ => fun
  | [d1, d2] => { results := [.lit (.bool true)], args := [d1, d2] }
  | _ => none }
def bitsLawsRow : OpenClaim := { program := "ytnlgoedklmjhlaa", sum := "c00e6f92e2299eb9cc5fb32bf8d4c7cd57fc81e8c11018a9e246fcabe7732c95", func := "sextant/sextantlaw04.BitsLaws", spec := "bitsLaws", unfollowed := true, recurses := true, apart := false }
def BitsLawsSaid : Prop := bitsLawsRow.holds Try.pinned (OpenSpec.ofChange bitsLawsSpec)

/-- ITS FALSE NEIGHBOUR: 'it returns false'. Refute it at one input. -/
def bitsLawsWrong : ChangeSpec := { name := "bitsLaws", fn := fun _ => fun
  | [d1, d2] => { results := [.lit (.bool false)], args := [d1, d2] }
  | _ => none }
def BitsLawsWrongFalsely : Prop := bitsLawsRow.holds Try.pinned (OpenSpec.ofChange bitsLawsWrong)

/-- 'sextantlaw04.BitsMoves': WHATEVER THE INPUT: true; the input reads as it did. -/
def bitsMovesSpec : ChangeSpec := { name := "bitsMoves", fn := fun _ => fun
  | [d1, d2] => { results := [.lit (.bool true)], args := [d1, d2] }
  | _ => none }
def bitsMovesRow : OpenClaim := { program := "ytnlgoedklmjhlaa", sum := "c00e6f92e2299eb9cc5fb32bf8d4c7cd57fc81e8c11018a9e246fcabe7732c95", func := "sextant/sextantlaw04.BitsMoves", spec := "bitsMoves", unfollowed := true, recurses := true, apart := false }
def BitsMovesSaid : Prop := bitsMovesRow.holds Try.pinned (OpenSpec.ofChange bitsMovesSpec)

/-- ITS FALSE NEIGHBOUR: 'it returns false'. Refute it at one input. -/
def bitsMovesWrong : ChangeSpec := { name := "bitsMoves", fn := fun _ => fun
  | [d1, d2] => { results := [.lit (.bool false)], args := [d1, d2] }
  | _ => none }
def BitsMovesWrongFalsely : Prop := bitsMovesRow.holds Try.pinned (OpenSpec.ofChange bitsMovesWrong)

/- THE SECOND FORM. 'bulk': how many values and letters a reading holds, each counted each time it is reached (what is shared counts as often as it is met; a slice's spare places count too). A statement '..UptoSaid' is the law's where the arguments, and the package variables that the reading takes, are together of bulk at most 1048576: NARROWER than '..Said'. Prove '..Said' where nothing that the law and all that it calls make is longer than what came in: it says more and counts as full. Else prove '..UptoSaid'. A law counts once. -/
mutual
def uptoBulk {H : Type} : DataW H → Nat
  | .lit (.string bytes) => bytes.length + 1
  | .lit _ => 1
  | .nil => 1
  | .ptr d => uptoBulk d + 1
  | .slice elems spare => uptoBulkAll elems + uptoBulkAll spare + 1
  | .agg parts => uptoBulkAll parts + 1
  | .iface _ d => uptoBulk d + 1
  | .map entries => uptoBulkEntries entries + 1
  | .held _ => 1
def uptoBulkAll {H : Type} : List (DataW H) → Nat
  | [] => 0
  | d :: r => uptoBulk d + uptoBulkAll r
def uptoBulkEntries {H : Type} : List (Lit × DataW H) → Nat
  | [] => 0
  | x :: r => uptoBulkEntry x + uptoBulkEntries r
def uptoBulkEntry {H : Type} : Lit × DataW H → Nat
  | (.string bytes, d) => bytes.length + uptoBulk d + 1
  | (_, d) => uptoBulk d + 1
 end
def uptoSmall : (H : Type) → List (DataW H) → Bool := fun _ ds => decide (uptoBulkAll ds ≤ 1048576)
def OpenSpec.upto (s : _root_.Go.ChangeSpec) : _root_.Go.OpenSpec := { _root_.Go.OpenSpec.ofChange s with cond := some uptoSmall }

/-- 'sextantlaw04.BitsBoth', WHERE WHAT IT READS IS OF BULK AT MOST 1048576: true; the input reads as it did. -/
def bitsBothUptoRow : OpenClaim := { program := "ytnlgoedklmjhlaa", sum := "c00e6f92e2299eb9cc5fb32bf8d4c7cd57fc81e8c11018a9e246fcabe7732c95", func := "sextant/sextantlaw04.BitsBoth", spec := "bitsBoth", unfollowed := true, recurses := true, apart := false, narrowed := true }
def BitsBothUptoSaid : Prop := bitsBothUptoRow.holds Try.pinned (OpenSpec.upto bitsBothSpec)

/-- 'sextantlaw04.BitsFields', WHERE WHAT IT READS IS OF BULK AT MOST 1048576: true; the input reads as it did. -/
def bitsFieldsUptoRow : OpenClaim := { program := "ytnlgoedklmjhlaa", sum := "c00e6f92e2299eb9cc5fb32bf8d4c7cd57fc81e8c11018a9e246fcabe7732c95", func := "sextant/sextantlaw04.BitsFields", spec := "bitsFields", unfollowed := true, recurses := true, apart := false, narrowed := true }
def BitsFieldsUptoSaid : Prop := bitsFieldsUptoRow.holds Try.pinned (OpenSpec.upto bitsFieldsSpec)

/-- 'sextantlaw04.BitsShifts', WHERE WHAT IT READS IS OF BULK AT MOST 1048576: true; the input reads as it did. -/
def bitsShiftsUptoRow : OpenClaim := { program := "ytnlgoedklmjhlaa", sum := "c00e6f92e2299eb9cc5fb32bf8d4c7cd57fc81e8c11018a9e246fcabe7732c95", func := "sextant/sextantlaw04.BitsShifts", spec := "bitsShifts", unfollowed := true, recurses := true, apart := false, narrowed := true }
def BitsShiftsUptoSaid : Prop := bitsShiftsUptoRow.holds Try.pinned (OpenSpec.upto bitsShiftsSpec)

/-- 'sextantlaw04.BitsLaws', WHERE WHAT IT READS IS OF BULK AT MOST 1048576: true; the input reads as it did. -/
def bitsLawsUptoRow : OpenClaim := { program := "ytnlgoedklmjhlaa", sum := "c00e6f92e2299eb9cc5fb32bf8d4c7cd57fc81e8c11018a9e246fcabe7732c95", func := "sextant/sextantlaw04.BitsLaws", spec := "bitsLaws", unfollowed := true, recurses := true, apart := false, narrowed := true }
def BitsLawsUptoSaid : Prop := bitsLawsUptoRow.holds Try.pinned (OpenSpec.upto bitsLawsSpec)

/-- 'sextantlaw04.BitsMoves', WHERE WHAT IT READS IS OF BULK AT MOST 1048576: true; the input reads as it did. -/
def bitsMovesUptoRow : OpenClaim := { program := "ytnlgoedklmjhlaa", sum := "c00e6f92e2299eb9cc5fb32bf8d4c7cd57fc81e8c11018a9e246fcabe7732c95", func := "sextant/sextantlaw04.BitsMoves", spec := "bitsMoves", unfollowed := true, recurses := true, apart := false, narrowed := true }
def BitsMovesUptoSaid : Prop := bitsMovesUptoRow.holds Try.pinned (OpenSpec.upto bitsMovesSpec)

end Rows
end Go.Proofs.Ytnlgoedklmjhlaa
