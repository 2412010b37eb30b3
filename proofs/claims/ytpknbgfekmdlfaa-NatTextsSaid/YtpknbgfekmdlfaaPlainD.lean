/- The plain texts of numbers. -/
import Derived.Test.YtpknbgfekmdlfaaPlain
namespace Go.Proofs.Ytpknbgfekmdlfaa

/-- a digit's byte -/
def dch (r : Nat) : UInt8 := if r < 10 then UInt8.ofNat (48 + r) else UInt8.ofNat (87 + r)
theorem dch_nat {r : Nat} (h : r < 36) : (dch r).toNat = if r < 10 then 48 + r else 87 + r := by
  unfold dch
  split <;> simp <;> omega
/-- the digits from the lowest up -/
def rdg (b n : Nat) : List UInt8 := if h : n = 0 ∨ b < 2 then [] else dch (n % b) :: rdg b (n / b)
termination_by n
decreasing_by exact Nat.div_lt_self (by omega) (by omega)
theorem rdg_zero (b : Nat) : rdg b 0 = [] := by rw [rdg]; simp
theorem rdg_pos {b n : Nat} (hb : 2 ≤ b) (h : n ≠ 0) : rdg b n = dch (n % b) :: rdg b (n / b) := by rw [rdg]; simp [h, show ¬ b < 2 by omega]
/-- a number's text -/
def txt (b n : Nat) : List UInt8 := if n = 0 then [48] else (rdg b n).reverse
def rtx (b n : Nat) : List UInt8 := if n = 0 then [48] else rdg b n
theorem rtx_rev (b n : Nat) : (rtx b n).reverse = txt b n := by unfold rtx txt; split <;> simp
theorem rtx_first {b n : Nat} (hb : 2 ≤ b) : rtx b n = dch (n % b) :: rdg b (n / b) := by
  unfold rtx
  split
  · rename_i h; subst h; simp [rdg_zero, dch]
  · rename_i h; exact rdg_pos hb h
theorem rdg_len {b : Nat} (hb : 2 ≤ b) (n k : Nat) (h : n < 2 ^ k) : (rdg b n).length ≤ k := by
  induction k generalizing n with
  | zero => have : n = 0 := by simpa using h
            subst this; simp [rdg_zero]
  | succ k ih =>
    by_cases h0 : n = 0
    · subst h0; simp [rdg_zero]
    · rw [rdg_pos hb h0, List.length_cons]
      have h1 : n / b ≤ n / 2 := Nat.div_le_div_left hb (by omega)
      have := ih (n / b) (by rw [Nat.pow_succ] at h; omega)
      omega

/-- a byte's value as a digit -/
def dval (b : Nat) : Nat := if 48 ≤ b ∧ b ≤ 57 then b - 48 else if 97 ≤ b ∧ b ≤ 122 then b - 87 else if 65 ≤ b ∧ b ≤ 90 then b - 55 else 99
theorem dval_le (b : Nat) : dval b ≤ 99 := by unfold dval; split <;> (try split) <;> (try split) <;> omega
theorem dval_36 (b : Nat) : dval b < 36 ∨ dval b = 99 := by unfold dval; split <;> (try split) <;> (try split) <;> omega
theorem dval_dch {r : Nat} (h : r < 36) : dval (dch r).toNat = r := by
  rw [dch_nat h]; unfold dval; split <;> (repeat' split) <;> omega
end Go.Proofs.Ytpknbgfekmdlfaa
