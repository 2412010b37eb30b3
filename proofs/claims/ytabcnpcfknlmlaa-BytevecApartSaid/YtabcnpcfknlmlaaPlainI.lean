/- The greatest common divisor by halves and differences. -/
import Derived.Test.YtabcnpcfknlmlaaPlainH
namespace Go.Proofs.Ytabcnpcfknlmlaa

theorem bit_zero_dvd {n k : Nat} (h : 2 ^ k ∣ n) (h0 : bitN n k = 0) : 2 ^ (k + 1) ∣ n := by
  obtain ⟨m, rfl⟩ := h
  unfold bitN at h0
  rw [Nat.mul_div_cancel_left _ (Nat.pow_pos (by omega))] at h0
  obtain ⟨q, rfl⟩ := Nat.dvd_of_mod_eq_zero h0
  exact ⟨q, by rw [Nat.pow_succ, Nat.mul_assoc]⟩
theorem bit_one_odd {n k : Nat} (h0 : bitN n k ≠ 0) : n / 2 ^ k % 2 = 1 := by unfold bitN at h0; omega
theorem bit_some {n k : Nat} (hn : n ≠ 0) (h : 2 ^ k ∣ n) : k < blen n := by
  have h1 := Nat.le_of_dvd (by omega) h
  rcases Nat.lt_or_ge k (blen n) with h2 | h2
  · exact h2
  · have := blen_le.1 h2; omega
theorem cop_two {n : Nat} (h : n % 2 = 1) (k : Nat) : Nat.Coprime (2 ^ k) n := by
  apply Nat.Coprime.pow_left
  unfold Nat.Coprime
  rw [Nat.gcd_rec, h]
  rfl
/-- what is left of n without its factors of 2 -/
def oddp (n k : Nat) : Prop := 2 ^ k ∣ n ∧ n / 2 ^ k % 2 = 1
theorem gcd_odd_left {n m k : Nat} (h : oddp n k) (hm : m % 2 = 1) : Nat.gcd (n / 2 ^ k) m = Nat.gcd n m := by
  obtain ⟨h1, _⟩ := h
  obtain ⟨q, rfl⟩ := h1
  rw [Nat.mul_div_cancel_left _ (Nat.pow_pos (by omega)), Nat.Coprime.gcd_mul_left_cancel _ (cop_two hm k)]
theorem oddp_bit {n k : Nat} (h : 2 ^ k ∣ n) (h0 : bitN n k ≠ 0) : oddp n k := ⟨h, bit_one_odd h0⟩
/-- the start: the common twos -/
theorem gcd_twos {a b t i j : Nat} (ha : 2 ^ t ∣ a) (hb : 2 ^ t ∣ b) (hor : bitN a t ≠ 0 ∨ bitN b t ≠ 0) (hi : oddp a i) (hj : oddp b j) : Nat.gcd (a / 2 ^ i) (b / 2 ^ j) * 2 ^ t = Nat.gcd a b := by
  obtain ⟨a', rfl⟩ := ha
  obtain ⟨b', rfl⟩ := hb
  have hp : 0 < 2 ^ t := Nat.pow_pos (by omega)
  have uniq : ∀ {n i : Nat}, n % 2 = 1 → oddp (2 ^ t * n) i → 2 ^ t * n / 2 ^ i = n := by
    intro n i hn ⟨h1, h2⟩
    have hle : i ≤ t := by
      rcases Nat.lt_or_ge t i with h | h
      · exfalso
        obtain ⟨d, rfl⟩ := Nat.exists_eq_add_of_lt h
        rw [show t + d + 1 = t + (d + 1) by omega, Nat.pow_add] at h1
        obtain ⟨q, hq⟩ := Nat.dvd_of_mul_dvd_mul_left hp h1
        rw [Nat.pow_succ, Nat.mul_comm (2 ^ d) 2, Nat.mul_assoc] at hq
        omega
      · exact h
    rcases Nat.lt_or_ge i t with h | h
    · exfalso
      obtain ⟨d, rfl⟩ := Nat.exists_eq_add_of_lt h
      rw [show i + d + 1 = i + (d + 1) by omega, Nat.pow_add, Nat.mul_assoc, Nat.mul_div_cancel_left _ (Nat.pow_pos (by omega)), Nat.pow_succ, Nat.mul_comm (2 ^ d) 2, Nat.mul_assoc] at h2
      omega
    · obtain rfl : i = t := by omega
      rw [Nat.mul_div_cancel_left _ hp]
  have half : ∀ {n i : Nat}, oddp (2 ^ t * n) i → Nat.gcd (2 ^ t * n / 2 ^ i) 1 = 1 ∧ ∃ d, n = 2 ^ d * (2 ^ t * n / 2 ^ i) := by
    intro n i ⟨h1, h2⟩
    refine ⟨Nat.gcd_one_right _, ?_⟩
    obtain ⟨q, hq⟩ := h1
    rw [hq, Nat.mul_div_cancel_left _ (Nat.pow_pos (by omega))] at h2 ⊢
    rcases Nat.lt_or_ge i t with h | h
    · exfalso
      obtain ⟨d, rfl⟩ := Nat.exists_eq_add_of_lt h
      rw [show i + d + 1 = i + (d + 1) by omega, Nat.pow_add, Nat.mul_assoc] at hq
      have := Nat.eq_of_mul_eq_mul_left (Nat.pow_pos (by omega)) hq
      rw [← this, Nat.pow_succ, Nat.mul_comm (2 ^ d) 2, Nat.mul_assoc] at h2
      omega
    · obtain ⟨d, rfl⟩ := Nat.exists_eq_add_of_le h
      rw [Nat.pow_add, Nat.mul_assoc] at hq
      exact ⟨d, Nat.eq_of_mul_eq_mul_left hp hq⟩
  rw [Nat.gcd_mul_left, Nat.mul_comm]
  congr 1
  unfold bitN at hor
  rw [Nat.mul_div_cancel_left _ hp, Nat.mul_div_cancel_left _ hp] at hor
  obtain ⟨_, da, ea⟩ := half hi
  obtain ⟨_, db, eb⟩ := half hj
  rcases hor with h | h
  · have e1 := uniq (show a' % 2 = 1 by omega) hi
    rw [e1]
    have hb1 := hj.2
    generalize 2 ^ t * b' / 2 ^ j = v at *
    rw [eb, Nat.gcd_comm a' v, Nat.gcd_comm a' (2 ^ db * v), Nat.Coprime.gcd_mul_left_cancel _ (cop_two (by omega) db)]
  · have e1 := uniq (show b' % 2 = 1 by omega) hj
    rw [e1]
    generalize 2 ^ t * a' / 2 ^ i = v at *
    rw [ea, Nat.Coprime.gcd_mul_left_cancel _ (cop_two (by omega) da)]
theorem gcd_sub {a b k : Nat} (hb : b % 2 = 1) (h : b ≤ a) (ho : oddp (a - b) k) : Nat.gcd ((a - b) / 2 ^ k) b = Nat.gcd a b := by
  rw [gcd_odd_left ho hb]
  exact Nat.gcd_sub_self_left h
theorem odd_lt {a b k : Nat} (hb : 0 < b) (h : b < a) : (a - b) / 2 ^ k < a := Nat.lt_of_le_of_lt (Nat.div_le_self _ _) (by omega)
end Go.Proofs.Ytabcnpcfknlmlaa
