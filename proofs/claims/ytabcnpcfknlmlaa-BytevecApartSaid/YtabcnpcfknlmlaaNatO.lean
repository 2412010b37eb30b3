/- Walks: Shift of both. -/
import Derived.Test.YtabcnpcfknlmlaaNatN
namespace Go.Proofs.Ytabcnpcfknlmlaa
open Go.RowKit

def shiftA (a : List Nat) (i : Int) : Nat × Int :=
  if soundB a then (if i < -16384 ∨ i > 16384 then (0, 1) else if i < 0 then (val a / 2 ^ (-i).toNat, 0) else fitA (val a * 2 ^ i.toNat)) else (0, 2)
theorem down_i (A : Option Addr) (c n : Nat) (a : List Nat) (w : World) (i : Int) (k : Nat) (hi : i = (k : Int)) (hk : k ≤ 1000000) (hn : n = a.length) (ha : RW w w.heap.size A c a) :
    Calls Try.prog 90 #[.slice A n c, .int .i64 i] w (RetW w (val a / 2 ^ k)) := by subst hi; exact down_any A c n a w k hk hn ha
theorem up_i (A : Option Addr) (c n : Nat) (a : List Nat) (w : World) (i : Int) (k : Nat) (hi : i = (k : Int)) (hk : k ≤ 1000000) (hn : n = a.length) (ha : RW w w.heap.size A c a) (hla : a.length ≤ 17592186044416) :
    Calls Try.prog 29 #[.slice A n c, .int .i64 i] w (RetW w (val a * 2 ^ k)) := by subst hi; exact up_any A c n a w k hk hn ha hla
theorem rdown_i (A : Option Addr) (c n : Nat) (a : List Nat) (w : World) (i : Int) (k : Nat) (hi : i = (k : Int)) (hk : k ≤ 1000000) (hn : n = a.length) (ha : RW w w.heap.size A c a) (hla : a.length ≤ 17592186044416) :
    Calls Try.prog 91 #[.slice A n c, .int .i64 i] w (RetW w (val a / 2 ^ k)) := by subst hi; exact rdown_any A c n a w k hk hn ha hla
theorem rup_i (A : Option Addr) (c n : Nat) (a : List Nat) (w : World) (i : Int) (k : Nat) (hi : i = (k : Int)) (hk : k ≤ 1000000) (hn : n = a.length) (ha : RW w w.heap.size A c a) (hla : a.length ≤ 17592186044416) :
    Calls Try.prog 36 #[.slice A n c, .int .i64 i] w (RetW w (val a * 2 ^ k)) := by subst hi; exact rup_any A c n a w k hk hn ha hla

end Go.Proofs.Ytabcnpcfknlmlaa
