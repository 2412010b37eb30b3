/- Plain law of WholeNumbers: a whole number is put together of its low bits and what is above them. -/
import Derived.Test.YtbgggepdlkbpoaaGreatDoorGO
import Derived.Test.YtbgggepdlkbpoaaGreatDoorGS
namespace Go.Proofs.YtbgggepdlkbpoaaGreatDoor

theorem two_pos (n : Nat) : (0 : Int) < ((2 ^ n : Nat) : Int) := by
  have : 0 < 2 ^ n := Nat.pow_pos (by omega)
  omega
theorem up_low (X : Int) (n : Nat) : X / ((2 ^ n : Nat) : Int) * ((2 ^ n : Nat) : Int) + (fieldN X 0 n : Int) = X := by
  rw [fieldN_zero]; exact Int.ediv_mul_add_emod X _
theorem ib_up (Y : Int) (n k : Nat) : ib (Y * ((2 ^ n : Nat) : Int)) k = (decide (n ≤ k) && ib Y (k - n)) := by
  by_cases h : n ≤ k
  · have h1 := ib_down (Y * ((2 ^ n : Nat) : Int)) n (k - n)
    rw [Int.mul_ediv_cancel _ (by have := two_pos n; omega), show n + (k - n) = k by omega] at h1
    rw [decide_eq_true h, ← h1]; rfl
  · have h1 := lowN_bit n (Y * ((2 ^ n : Nat) : Int)) k
    have h2 : lowN n (Y * ((2 ^ n : Nat) : Int)) = 0 := by unfold lowN; rw [Int.mul_emod_left]; rfl
    rw [h2, decide_eq_true (show k < n by omega)] at h1
    rw [decide_eq_false h]
    simpa using h1.symm
/-- what is above n bits, or the bits themselves: the number -/
theorem or_up_low {X O : Int} {n : Nat} (h : isOp (fun p q => p || q) O (X / ((2 ^ n : Nat) : Int) * ((2 ^ n : Nat) : Int)) (fieldN X 0 n : Int)) : O = X := by
  refine ib_ext fun k => (h k).trans ?_
  rw [ib_up, ib_nat, fieldN_bit]
  by_cases hk : n ≤ k
  · rw [decide_eq_true hk, decide_eq_false (show ¬ k < n by omega), ib_down, show n + (k - n) = k by omega]
    simp
  · rw [decide_eq_false hk, decide_eq_true (show k < n by omega)]
    simp
end Go.Proofs.YtbgggepdlkbpoaaGreatDoor
