/- Walks: awake; the law NatProducts. -/
import Derived.Test.YtabcnpcfknlmlaaNatG
namespace Go.Proofs.Ytabcnpcfknlmlaa
open Go.RowKit

theorem digs_one_ (x : Nat) (h0 : x ≠ 0) (h : x < 4294967296) : [x] = digs (val [x]) := by rw [val_one, digs_one h0 h]
theorem digs_wake : digs 4294967296 = [0, 1] := by
  have h := digs_val (l := [0, 1]) (B32_cons (by omega) (B32_cons (by omega) B32_nil)) (.inr (by simp [wd]))
  simpa [val] using h
theorem wake_add : addA [4294967295] [1] = (4294967296, 0) := by
  have h1 : soundB [4294967295] = true := by simp only [soundB, decide_eq_true_eq]; exact ⟨by simp, digs_one_ _ (by omega) (by omega)⟩
  have h2 : soundB [1] = true := by simp only [soundB, decide_eq_true_eq]; exact ⟨by simp, digs_one_ _ (by omega) (by omega)⟩
  have h3 : chk2 [4294967295] [1] = true := by simp [chk2, h1, h2]
  unfold addA fitA
  rw [if_pos h3, val_one, val_one]
  rw [show 4294967295 + 1 = 4294967296 from rfl, digs_wake]
  rfl

theorem same_eq (A D : Option Addr) (c d n m : Nat) (a : List Nat) (w : World) (hn : n = a.length) (hm : m = a.length) (ha : RW w w.heap.size A c a) (hb : RW w w.heap.size D d a) :
    Calls Try.prog 64 #[.slice A n c, .slice D m d] w fun e w' => e = .returned (.bool true) ∧ ∃ q, w' = w.drewN q := by
  have h := same_any A D c d n m a a w hn hm ha hb
  rw [decide_eq_true rfl] at h
  exact h

end Go.Proofs.Ytabcnpcfknlmlaa
