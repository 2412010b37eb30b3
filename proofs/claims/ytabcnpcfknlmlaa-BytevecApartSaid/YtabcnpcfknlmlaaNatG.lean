/- Walks: Add, Mul, Sub of both. -/
import Derived.Test.YtabcnpcfknlmlaaNatF
namespace Go.Proofs.Ytabcnpcfknlmlaa
open Go.RowKit

/-- an answer with an error's number: a slice of the call's own that holds a number's words -/
def RetE (w : World) (r : Nat × Int) (e : Ending) (w' : World) : Prop :=
  ∃ A' c', e = .returned (.tuple #[.slice A' (digs r.1).length c', .int .i64 r.2]) ∧ OW w' w.heap.size A' c' (digs r.1) ∧ Below w.heap.size w w'
def fitA (N : Nat) : Nat × Int := if (digs N).length ≤ 512 then (N, 0) else (0, 4)
theorem ret_nil {w w' : World} (k : Int) (hb : Below w.heap.size w w') : RetE w (0, k) (.returned (.tuple #[.slice none 0 0, .int .i64 k])) w' := by
  refine ⟨none, 0, ?_, ?_, hb⟩
  · rw [digs_zero]; rfl
  · rw [digs_zero]; exact OW.nil _ _

/-- fit of an answer -/
theorem fit_ret {w w1 w2 : World} {N : Nat} {A' : Option Addr} {c' : Nat} (hO : OW w1 w.heap.size A' c' (digs N)) (hb : Below w.heap.size w w1) {e : Ending}
    (he : e = .returned (if (digs N).length ≤ 512 then .tuple #[.slice A' (digs N).length c', .int .i64 0] else .tuple #[.slice none 0 0, .int .i64 4]) ∧ w1 = w2) : RetE w (fitA N) e w2 := by
  obtain ⟨rfl, rfl⟩ := he
  unfold fitA
  by_cases h : (digs N).length ≤ 512
  · rw [if_pos h, if_pos h]; exact ⟨A', c', rfl, hO, hb⟩
  · rw [if_neg h, if_neg h]; exact ret_nil 4 hb
theorem big_of_chk {a b : List Nat} (h : chk2 a b = true) : a.length ≤ 512 ∧ b.length ≤ 512 ∧ a = digs (val a) ∧ b = digs (val b) := by
  simp only [chk2, soundB, Bool.and_eq_true, decide_eq_true_eq] at h
  exact ⟨h.1.1, h.2.1, h.1.2, h.2.2⟩

def addA (a b : List Nat) : Nat × Int := if chk2 a b then fitA (val a + val b) else (0, 2)
def mulA (a b : List Nat) : Nat × Int := if chk2 a b then fitA (val a * val b) else (0, 2)
end Go.Proofs.Ytabcnpcfknlmlaa
