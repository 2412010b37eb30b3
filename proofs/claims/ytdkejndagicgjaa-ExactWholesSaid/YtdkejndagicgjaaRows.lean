/-
  No cell of these rows narrows 'for every input' (looked for: loops, veiled, ifaces, maps, wideKeys, modest, calm, conditions, laid).
  DERIVED. THE GIVEN ROWS OF THIS SEAT. 9 by the template 'for every input the law returns true; each argument reads behind the call as it read before'; 0 by the template 'total and deterministic' (their statements: YtdkejndagicgjaaTotals.lean).
  GIVEN WITH THE SEED: the statements are not yours to turn. If you find one false, say at which input.
  Laid BY PROGRAM, IN A SANDBOX (cutbox-rows.mjs): the forced cells as the released guide's own fill.sh prints them over the translation d0c7232f1c1a073a… (all of the seat's roots in one cut). By AI agents, Wed Nov 11 2026. No macro, syntax, notation, axiom, sorry.
-/
import Derived.Test.YtdkejndagicgjaaChecked
import GoSem.Claim
import GoSem.ClaimJoined
import GoSem.ClaimMapViews
import Derived.JoinedTies
import Derived.KernelRfl
namespace Go.Proofs.Ytdkejndagicgjaa
/- THE CELL 'sum', in the pinned program and in every row, IS THE sha256 OF THE DUMP (.gsa) THAT YtdkejndagicgjaaProg.lean LOADS. Nothing in Lean hashes anything: it is a label: what it is worth is what the hold of that sum in a sandbox is worth. -/
noncomputable def Try.pinned : Pinned := { name := "ytdkejndagicgjaa", sum := "d0c7232f1c1a073a45e15f18ca22cdf39029e3ed251c90e83e29f5f17b27dfc4", checked := Try.checked }
namespace Rows
def none {H : Type} : Left H := { results := [], args := [] }

/-- 'sextantlaw03.ExactProducts': WHATEVER THE INPUT: true; the input reads as it did. -/
def exactProductsSpec : ChangeSpec := { name := "exactProducts", fn := fun _ => fun
  | [d1, d2] => { results := [.lit (.bool true)], args := [d1, d2] }
  | _ => none }
def exactProductsRow : OpenClaim := { program := "ytdkejndagicgjaa", sum := "d0c7232f1c1a073a45e15f18ca22cdf39029e3ed251c90e83e29f5f17b27dfc4", func := "sextant/sextantlaw03.ExactProducts", spec := "exactProducts", unfollowed := true, recurses := true, apart := false }
def ExactProductsSaid : Prop := exactProductsRow.holds Try.pinned (OpenSpec.ofChange exactProductsSpec)

/-- ITS FALSE NEIGHBOUR: 'it returns false'. Refute it at one input. -/
def exactProductsWrong : ChangeSpec := { name := "exactProducts", fn := fun _ => fun
  | [d1, d2] => { results := [.lit (.bool false)], args := [d1, d2] }
  | _ => none }
def ExactProductsWrongFalsely : Prop := exactProductsRow.holds Try.pinned (OpenSpec.ofChange exactProductsWrong)

/-- 'sextantlaw03.ExactWholes': WHATEVER THE INPUT: true; the input reads as it did. -/
def exactWholesSpec : ChangeSpec := { name := "exactWholes", fn := fun _ => fun
  | [d1, d2] => { results := [.lit (.bool true)], args := [d1, d2] }
  | _ => none }
def exactWholesRow : OpenClaim := { program := "ytdkejndagicgjaa", sum := "d0c7232f1c1a073a45e15f18ca22cdf39029e3ed251c90e83e29f5f17b27dfc4", func := "sextant/sextantlaw03.ExactWholes", spec := "exactWholes", unfollowed := true, recurses := true, apart := false }
def ExactWholesSaid : Prop := exactWholesRow.holds Try.pinned (OpenSpec.ofChange exactWholesSpec)

/-- ITS FALSE NEIGHBOUR: 'it returns false'. Refute it at one input. -/
def exactWholesWrong : ChangeSpec := { name := "exactWholes", fn := fun _ => fun
  | [d1, d2] => { results := [.lit (.bool false)], args := [d1, d2] }
  | _ => none }
def ExactWholesWrongFalsely : Prop := exactWholesRow.holds Try.pinned (OpenSpec.ofChange exactWholesWrong)

/-- 'sextantlaw03.ExactField': WHATEVER THE INPUT: true; the input reads as it did. -/
def exactFieldSpec : ChangeSpec := { name := "exactField", fn := fun _ => fun
  | [d1, d2, d3] => { results := [.lit (.bool true)], args := [d1, d2, d3] }
  | _ => none }
def exactFieldRow : OpenClaim := { program := "ytdkejndagicgjaa", sum := "d0c7232f1c1a073a45e15f18ca22cdf39029e3ed251c90e83e29f5f17b27dfc4", func := "sextant/sextantlaw03.ExactField", spec := "exactField", unfollowed := true, recurses := true, apart := false }
def ExactFieldSaid : Prop := exactFieldRow.holds Try.pinned (OpenSpec.ofChange exactFieldSpec)

/-- ITS FALSE NEIGHBOUR: 'it returns false'. Refute it at one input. -/
def exactFieldWrong : ChangeSpec := { name := "exactField", fn := fun _ => fun
  | [d1, d2, d3] => { results := [.lit (.bool false)], args := [d1, d2, d3] }
  | _ => none }
def ExactFieldWrongFalsely : Prop := exactFieldRow.holds Try.pinned (OpenSpec.ofChange exactFieldWrong)

/-- 'sextantlaw03.ExactPowers': WHATEVER THE INPUT: true; the input reads as it did. -/
def exactPowersSpec : ChangeSpec := { name := "exactPowers", fn := fun _ => fun
  | [d1, d2] => { results := [.lit (.bool true)], args := [d1, d2] }
  | _ => none }
def exactPowersRow : OpenClaim := { program := "ytdkejndagicgjaa", sum := "d0c7232f1c1a073a45e15f18ca22cdf39029e3ed251c90e83e29f5f17b27dfc4", func := "sextant/sextantlaw03.ExactPowers", spec := "exactPowers", unfollowed := true, recurses := true, apart := false }
def ExactPowersSaid : Prop := exactPowersRow.holds Try.pinned (OpenSpec.ofChange exactPowersSpec)

/-- ITS FALSE NEIGHBOUR: 'it returns false'. Refute it at one input. -/
def exactPowersWrong : ChangeSpec := { name := "exactPowers", fn := fun _ => fun
  | [d1, d2] => { results := [.lit (.bool false)], args := [d1, d2] }
  | _ => none }
def ExactPowersWrongFalsely : Prop := exactPowersRow.holds Try.pinned (OpenSpec.ofChange exactPowersWrong)

/-- 'sextantlaw03.ExactPowerLaws': WHATEVER THE INPUT: true; the input reads as it did. -/
def exactPowerLawsSpec : ChangeSpec := { name := "exactPowerLaws", fn := fun _ => fun
  | [d1, d2, d3] => { results := [.lit (.bool true)], args := [d1, d2, d3] }
  | _ => none }
def exactPowerLawsRow : OpenClaim := { program := "ytdkejndagicgjaa", sum := "d0c7232f1c1a073a45e15f18ca22cdf39029e3ed251c90e83e29f5f17b27dfc4", func := "sextant/sextantlaw03.ExactPowerLaws", spec := "exactPowerLaws", unfollowed := true, recurses := true, apart := false }
def ExactPowerLawsSaid : Prop := exactPowerLawsRow.holds Try.pinned (OpenSpec.ofChange exactPowerLawsSpec)

/-- ITS FALSE NEIGHBOUR: 'it returns false'. Refute it at one input. -/
def exactPowerLawsWrong : ChangeSpec := { name := "exactPowerLaws", fn := fun _ => fun
  | [d1, d2, d3] => { results := [.lit (.bool false)], args := [d1, d2, d3] }
  | _ => none }
def ExactPowerLawsWrongFalsely : Prop := exactPowerLawsRow.holds Try.pinned (OpenSpec.ofChange exactPowerLawsWrong)

/-- 'sextantlaw03.ExactSums': WHATEVER THE INPUT: true; the input reads as it did. -/
def exactSumsSpec : ChangeSpec := { name := "exactSums", fn := fun _ => fun
  | [d1, d2, d3] => { results := [.lit (.bool true)], args := [d1, d2, d3] }
  | _ => none }
def exactSumsRow : OpenClaim := { program := "ytdkejndagicgjaa", sum := "d0c7232f1c1a073a45e15f18ca22cdf39029e3ed251c90e83e29f5f17b27dfc4", func := "sextant/sextantlaw03.ExactSums", spec := "exactSums", unfollowed := true, recurses := true, apart := false }
def ExactSumsSaid : Prop := exactSumsRow.holds Try.pinned (OpenSpec.ofChange exactSumsSpec)

/-- ITS FALSE NEIGHBOUR: 'it returns false'. Refute it at one input. -/
def exactSumsWrong : ChangeSpec := { name := "exactSums", fn := fun _ => fun
  | [d1, d2, d3] => { results := [.lit (.bool false)], args := [d1, d2, d3] }
  | _ => none }
def ExactSumsWrongFalsely : Prop := exactSumsRow.holds Try.pinned (OpenSpec.ofChange exactSumsWrong)

/-- 'sextantlaw03.ExactOrder': WHATEVER THE INPUT: true; the input reads as it did. -/
def exactOrderSpec : ChangeSpec := { name := "exactOrder", fn := fun _ => fun
  | [d1, d2, d3] => { results := [.lit (.bool true)], args := [d1, d2, d3] }
  | _ => none }
def exactOrderRow : OpenClaim := { program := "ytdkejndagicgjaa", sum := "d0c7232f1c1a073a45e15f18ca22cdf39029e3ed251c90e83e29f5f17b27dfc4", func := "sextant/sextantlaw03.ExactOrder", spec := "exactOrder", unfollowed := true, recurses := true, apart := false }
def ExactOrderSaid : Prop := exactOrderRow.holds Try.pinned (OpenSpec.ofChange exactOrderSpec)

/-- ITS FALSE NEIGHBOUR: 'it returns false'. Refute it at one input. -/
def exactOrderWrong : ChangeSpec := { name := "exactOrder", fn := fun _ => fun
  | [d1, d2, d3] => { results := [.lit (.bool false)], args := [d1, d2, d3] }
  | _ => none }
def ExactOrderWrongFalsely : Prop := exactOrderRow.holds Try.pinned (OpenSpec.ofChange exactOrderWrong)

/-- 'sextantlaw03.ExactReads': WHATEVER THE INPUT: true; the input reads as it did. -/
def exactReadsSpec : ChangeSpec := { name := "exactReads", fn := fun _ => fun
  | [d1, d2] => { results := [.lit (.bool true)], args := [d1, d2] }
  | _ => none }
def exactReadsRow : OpenClaim := { program := "ytdkejndagicgjaa", sum := "d0c7232f1c1a073a45e15f18ca22cdf39029e3ed251c90e83e29f5f17b27dfc4", func := "sextant/sextantlaw03.ExactReads", spec := "exactReads", inPlace := ["internal/bytealg.IndexByteString"], unfollowed := true, recurses := true, apart := false }
def ExactReadsSaid : Prop := exactReadsRow.holds Try.pinned (OpenSpec.ofChange exactReadsSpec)

/-- ITS FALSE NEIGHBOUR: 'it returns false'. Refute it at one input. -/
def exactReadsWrong : ChangeSpec := { name := "exactReads", fn := fun _ => fun
  | [d1, d2] => { results := [.lit (.bool false)], args := [d1, d2] }
  | _ => none }
def ExactReadsWrongFalsely : Prop := exactReadsRow.holds Try.pinned (OpenSpec.ofChange exactReadsWrong)

/-- 'sextantlaw03.ExactTexts': WHATEVER THE INPUT: true; the input reads as it did. -/
def exactTextsSpec : ChangeSpec := { name := "exactTexts", fn := fun _ => fun
  | [d1, d2] => { results := [.lit (.bool true)], args := [d1, d2] }
  | _ => none }
def exactTextsRow : OpenClaim := { program := "ytdkejndagicgjaa", sum := "d0c7232f1c1a073a45e15f18ca22cdf39029e3ed251c90e83e29f5f17b27dfc4", func := "sextant/sextantlaw03.ExactTexts", spec := "exactTexts", inPlace := ["internal/bytealg.IndexByteString"], unfollowed := true, recurses := true, apart := false }
def ExactTextsSaid : Prop := exactTextsRow.holds Try.pinned (OpenSpec.ofChange exactTextsSpec)

/-- ITS FALSE NEIGHBOUR: 'it returns false'. Refute it at one input. -/
def exactTextsWrong : ChangeSpec := { name := "exactTexts", fn := fun _ => fun
  | [d1, d2] => { results := [.lit (.bool false)], args := [d1, d2] }
  | _ => none }
def ExactTextsWrongFalsely : Prop := exactTextsRow.holds Try.pinned (OpenSpec.ofChange exactTextsWrong)

/- THE SECOND FORM. 'bulk': how many values and letters a reading holds, each counted each time it is reached (what is shared counts as often as it is met; a slice's spare places count too). A statement '..UptoSaid' is the law's where the arguments, and the package variables that the reading takes, are together of bulk at most 1048576: NARROWER than '..Said'. Prove '..Said' where nothing that the law and all that it calls make is longer than what came in: it says more and counts as full. Else prove '..UptoSaid'. A law counts once. -/
mutual
def uptoBulk {H : Type} : DataW H → Nat
  | .lit (.string bytes) => bytes.length + 1
  | .lit _ => 1
  | .nil => 1
  | .ptr d => uptoBulk d + 1
  | .slice elems spare => uptoBulkAll elems + uptoBulkAll spare + 1
  | .agg parts => uptoBulkAll parts + 1
  | .iface _ d => uptoBulk d + 1
  | .map entries => uptoBulkEntries entries + 1
  | .held _ => 1
def uptoBulkAll {H : Type} : List (DataW H) → Nat
  | [] => 0
  | d :: r => uptoBulk d + uptoBulkAll r
def uptoBulkEntries {H : Type} : List (Lit × DataW H) → Nat
  | [] => 0
  | x :: r => uptoBulkEntry x + uptoBulkEntries r
def uptoBulkEntry {H : Type} : Lit × DataW H → Nat
  | (.string bytes, d) => bytes.length + uptoBulk d + 1
  | (_, d) => uptoBulk d + 1
 end
def uptoSmall : (H : Type) → List (DataW H) → Bool := fun _ ds => decide (uptoBulkAll ds ≤ 1048576)
def OpenSpec.upto (s : _root_.Go.ChangeSpec) : _root_.Go.OpenSpec := { _root_.Go.OpenSpec.ofChange s with cond := some uptoSmall }

/-- 'sextantlaw03.ExactProducts', WHERE WHAT IT READS IS OF BULK AT MOST 1048576: true; the input reads as it did. -/
def exactProductsUptoRow : OpenClaim := { program := "ytdkejndagicgjaa", sum := "d0c7232f1c1a073a45e15f18ca22cdf39029e3ed251c90e83e29f5f17b27dfc4", func := "sextant/sextantlaw03.ExactProducts", spec := "exactProducts", unfollowed := true, recurses := true, apart := false, narrowed := true }
def ExactProductsUptoSaid : Prop := exactProductsUptoRow.holds Try.pinned (OpenSpec.upto exactProductsSpec)

/-- 'sextantlaw03.ExactWholes', WHERE WHAT IT READS IS OF BULK AT MOST 1048576: true; the input reads as it did. -/
def exactWholesUptoRow : OpenClaim := { program := "ytdkejndagicgjaa", sum := "d0c7232f1c1a073a45e15f18ca22cdf39029e3ed251c90e83e29f5f17b27dfc4", func := "sextant/sextantlaw03.ExactWholes", spec := "exactWholes", unfollowed := true, recurses := true, apart := false, narrowed := true }
def ExactWholesUptoSaid : Prop := exactWholesUptoRow.holds Try.pinned (OpenSpec.upto exactWholesSpec)

/-- 'sextantlaw03.ExactField', WHERE WHAT IT READS IS OF BULK AT MOST 1048576: true; the input reads as it did. -/
def exactFieldUptoRow : OpenClaim := { program := "ytdkejndagicgjaa", sum := "d0c7232f1c1a073a45e15f18ca22cdf39029e3ed251c90e83e29f5f17b27dfc4", func := "sextant/sextantlaw03.ExactField", spec := "exactField", unfollowed := true, recurses := true, apart := false, narrowed := true }
def ExactFieldUptoSaid : Prop := exactFieldUptoRow.holds Try.pinned (OpenSpec.upto exactFieldSpec)

/-- 'sextantlaw03.ExactPowers', WHERE WHAT IT READS IS OF BULK AT MOST 1048576: true; the input reads as it did. -/
def exactPowersUptoRow : OpenClaim := { program := "ytdkejndagicgjaa", sum := "d0c7232f1c1a073a45e15f18ca22cdf39029e3ed251c90e83e29f5f17b27dfc4", func := "sextant/sextantlaw03.ExactPowers", spec := "exactPowers", unfollowed := true, recurses := true, apart := false, narrowed := true }
def ExactPowersUptoSaid : Prop := exactPowersUptoRow.holds Try.pinned (OpenSpec.upto exactPowersSpec)

/-- 'sextantlaw03.ExactPowerLaws', WHERE WHAT IT READS IS OF BULK AT MOST 1048576: true; the input reads as it did. -/
def exactPowerLawsUptoRow : OpenClaim := { program := "ytdkejndagicgjaa", sum := "d0c7232f1c1a073a45e15f18ca22cdf39029e3ed251c90e83e29f5f17b27dfc4", func := "sextant/sextantlaw03.ExactPowerLaws", spec := "exactPowerLaws", unfollowed := true, recurses := true, apart := false, narrowed := true }
def ExactPowerLawsUptoSaid : Prop := exactPowerLawsUptoRow.holds Try.pinned (OpenSpec.upto exactPowerLawsSpec)

/-- 'sextantlaw03.ExactSums', WHERE WHAT IT READS IS OF BULK AT MOST 1048576: true; the input reads as it did. -/
def exactSumsUptoRow : OpenClaim := { program := "ytdkejndagicgjaa", sum := "d0c7232f1c1a073a45e15f18ca22cdf39029e3ed251c90e83e29f5f17b27dfc4", func := "sextant/sextantlaw03.ExactSums", spec := "exactSums", unfollowed := true, recurses := true, apart := false, narrowed := true }
def ExactSumsUptoSaid : Prop := exactSumsUptoRow.holds Try.pinned (OpenSpec.upto exactSumsSpec)

/-- 'sextantlaw03.ExactOrder', WHERE WHAT IT READS IS OF BULK AT MOST 1048576: true; the input reads as it did. -/
def exactOrderUptoRow : OpenClaim := { program := "ytdkejndagicgjaa", sum := "d0c7232f1c1a073a45e15f18ca22cdf39029e3ed251c90e83e29f5f17b27dfc4", func := "sextant/sextantlaw03.ExactOrder", spec := "exactOrder", unfollowed := true, recurses := true, apart := false, narrowed := true }
def ExactOrderUptoSaid : Prop := exactOrderUptoRow.holds Try.pinned (OpenSpec.upto exactOrderSpec)

/-- 'sextantlaw03.ExactReads', WHERE WHAT IT READS IS OF BULK AT MOST 1048576: true; the input reads as it did. -/
def exactReadsUptoRow : OpenClaim := { program := "ytdkejndagicgjaa", sum := "d0c7232f1c1a073a45e15f18ca22cdf39029e3ed251c90e83e29f5f17b27dfc4", func := "sextant/sextantlaw03.ExactReads", spec := "exactReads", inPlace := ["internal/bytealg.IndexByteString"], unfollowed := true, recurses := true, apart := false, narrowed := true }
def ExactReadsUptoSaid : Prop := exactReadsUptoRow.holds Try.pinned (OpenSpec.upto exactReadsSpec)

/-- 'sextantlaw03.ExactTexts', WHERE WHAT IT READS IS OF BULK AT MOST 1048576: true; the input reads as it did. -/
def exactTextsUptoRow : OpenClaim := { program := "ytdkejndagicgjaa", sum := "d0c7232f1c1a073a45e15f18ca22cdf39029e3ed251c90e83e29f5f17b27dfc4", func := "sextant/sextantlaw03.ExactTexts", spec := "exactTexts", inPlace := ["internal/bytealg.IndexByteString"], unfollowed := true, recurses := true, apart := false, narrowed := true }
def ExactTextsUptoSaid : Prop := exactTextsUptoRow.holds Try.pinned (OpenSpec.upto exactTextsSpec)

end Rows
end Go.Proofs.Ytdkejndagicgjaa
