/- Roots: the whole part of a square root, Newton's way to it, and bit by bit; quotients bit by bit. -/
import Derived.Test.YtabcnpcfknlmlaaPlainB
namespace Go.Proofs.Ytabcnpcfknlmlaa

/-- the whole part of the square root -/
def isq (N : Nat) : Nat := if _h : N = 0 then 0 else if (2 * isq (N / 4) + 1) * (2 * isq (N / 4) + 1) ≤ N then 2 * isq (N / 4) + 1 else 2 * isq (N / 4)
termination_by N
decreasing_by all_goals omega

theorem sq_two (m : Nat) : (2 * m) * (2 * m) = 4 * (m * m) := by rw [Nat.mul_mul_mul_comm]
theorem isq_spec (N : Nat) : isq N * isq N ≤ N ∧ N < (isq N + 1) * (isq N + 1) := by
  induction N using Nat.strongRecOn with
  | _ N ih =>
    by_cases h : N = 0
    · subst h; rw [isq, dif_pos rfl]; omega
    · obtain ⟨h1, h2⟩ := ih (N / 4) (by omega)
      rw [isq, dif_neg h]
      generalize isq (N / 4) = m at *
      have e1 := sq_two m
      have e2 := sq_two (m + 1)
      rw [show 2 * (m + 1) = 2 * m + 1 + 1 by omega] at e2
      split
      · refine ⟨by assumption, ?_⟩
        rw [e2]; omega
      · refine ⟨by rw [e1]; omega, by omega⟩
theorem isq_unique {N s : Nat} (h1 : s * s ≤ N) (h2 : N < (s + 1) * (s + 1)) : s = isq N := by
  obtain ⟨h3, h4⟩ := isq_spec N
  generalize isq N = t at *
  rcases Nat.lt_trichotomy s t with h | h | h
  · have := Nat.mul_le_mul (show s + 1 ≤ t from h) (show s + 1 ≤ t from h); omega
  · exact h
  · have := Nat.mul_le_mul (show t + 1 ≤ s from h) (show t + 1 ≤ s from h); omega
theorem isq_zero : isq 0 = 0 := by rw [isq, dif_pos rfl]
theorem isq_pos {N : Nat} (h : N ≠ 0) : 0 < isq N := by
  rcases Nat.eq_zero_or_pos (isq N) with h0 | h0
  · have := (isq_spec N).2; rw [h0] at this; omega
  · exact h0
theorem isq_le (N : Nat) : isq N ≤ N := by
  have h := (isq_spec N).1
  rcases Nat.eq_zero_or_pos (isq N) with h0 | h0
  · omega
  · have := Nat.le_mul_of_pos_right (isq N) h0; omega
theorem isq_sq (n : Nat) : isq (n * n) = n := (isq_unique (Nat.le_refl _) (Nat.mul_lt_mul_of_lt_of_le (Nat.lt_succ_self n) (Nat.le_succ n) (Nat.succ_pos n))).symm

theorem four_mul_le (x y : Nat) : 4 * (x * y) ≤ (x + y) * (x + y) := by
  have key : ∀ x d : Nat, 4 * (x * (x + d)) ≤ (x + (x + d)) * (x + (x + d)) := by
    intro x d
    rw [show x + (x + d) = 2 * x + d by omega, Nat.add_mul, Nat.mul_add (2 * x), Nat.mul_add d, Nat.mul_add x, Nat.mul_add 4, sq_two, Nat.mul_comm d (2 * x), Nat.mul_assoc 2 x d]
    omega
  rcases Nat.le_total x y with h | h
  · obtain ⟨d, rfl⟩ := Nat.exists_eq_add_of_le h; exact key x d
  · obtain ⟨d, rfl⟩ := Nat.exists_eq_add_of_le h
    rw [Nat.mul_comm (y + d) y, Nat.add_comm (y + d) y]; exact key y d
def nxt (N s : Nat) : Nat := (s + N / s) / 2
theorem newton_step {N s : Nat} (hs : 0 < s) : N < (nxt N s + 1) * (nxt N s + 1) := by
  unfold nxt
  have h1 : N < s * (N / s + 1) := Nat.lt_mul_div_succ N hs
  have h2 := four_mul_le s (N / s + 1)
  generalize N / s = q at *
  have h3 : s + (q + 1) ≤ 2 * ((s + q) / 2 + 1) := by omega
  have h4 := Nat.mul_le_mul h3 h3
  rw [sq_two] at h4
  omega
theorem newton_exit {N s : Nat} (h : s ≤ nxt N s) : s * s ≤ N := by
  unfold nxt at h
  have h1 : s ≤ N / s := by omega
  have h2 := Nat.mul_le_mul_left s h1
  have h3 := Nat.mul_div_le N s
  omega
theorem nxt_pos {N s : Nat} (hN : N ≠ 0) (hs : 0 < s) : 0 < nxt N s := by
  unfold nxt
  rcases Nat.lt_or_ge s 2 with h | h
  · obtain rfl : s = 1 := by omega
    rw [Nat.div_one]; omega
  · generalize N / s = q
    omega
theorem pow_sq {N k : Nat} (h : blen N ≤ 2 * k) : N < 2 ^ k * 2 ^ k := by
  rw [← Nat.pow_add, show k + k = 2 * k by omega]
  exact blen_le.1 h
theorem newton_start {N k : Nat} (h : blen N ≤ 2 * k) : N < (2 ^ k + 1) * (2 ^ k + 1) := by
  have h1 := pow_sq h
  have := Nat.mul_le_mul (Nat.le_add_right (2 ^ k) 1) (Nat.le_add_right (2 ^ k) 1)
  omega

/-- bit by bit from the highest -/
def Rt (N s left k : Nat) : Prop := s * s + left = N ∧ N < (s + 2 ^ k) * (s + 2 ^ k)
def rmore (s k : Nat) : Nat := s * 2 ^ (k + 1) + 2 ^ (2 * k)
theorem sq_add (s k : Nat) : (s + 2 ^ k) * (s + 2 ^ k) = s * s + rmore s k := by
  unfold rmore
  have e1 : 2 ^ (2 * k) = 2 ^ k * 2 ^ k := by rw [← Nat.pow_add]; congr 1; omega
  rw [e1, Nat.pow_succ]
  generalize 2 ^ k = p
  rw [Nat.add_mul, Nat.mul_add, Nat.mul_add, ← Nat.mul_assoc, Nat.mul_comm p s]
  omega
theorem rt_yes {N s left k : Nat} (h : Rt N s left (k + 1)) (hm : rmore s k ≤ left) : Rt N (s + 2 ^ k) (left - rmore s k) k := by
  refine ⟨?_, ?_⟩
  · have := h.1; rw [sq_add]; omega
  · rw [show s + 2 ^ k + 2 ^ k = s + 2 ^ (k + 1) by rw [Nat.pow_succ]; omega]; exact h.2
theorem rt_no {N s left k : Nat} (h : Rt N s left (k + 1)) (hm : left < rmore s k) : Rt N s left k := by
  refine ⟨h.1, ?_⟩
  have := h.1; rw [sq_add]; omega
theorem rt_end {N s left : Nat} (h : Rt N s left 0) : s = isq N ∧ left = N - isq N * isq N := by
  have h1 : s = isq N := isq_unique (by have := h.1; omega) (by have := h.2; rwa [Nat.pow_zero] at this)
  refine ⟨h1, ?_⟩
  rw [← h1]; have := h.1; omega

/-- quotients bit by bit -/
theorem half_bit (N k : Nat) : N / 2 ^ k = 2 * (N / 2 ^ (k + 1)) + bitN N k := by
  unfold bitN
  rw [Nat.pow_succ, ← Nat.div_div_eq_div_mul]
  omega
theorem bq_no {N D k : Nat} (hD : 0 < D) (h : 2 * (N / 2 ^ (k + 1) % D) + bitN N k < D) : N / 2 ^ k / D = 2 * (N / 2 ^ (k + 1) / D) ∧ N / 2 ^ k % D = 2 * (N / 2 ^ (k + 1) % D) + bitN N k := by
  have e := half_bit N k
  generalize N / 2 ^ k = x at *
  generalize N / 2 ^ (k + 1) = y at *
  generalize bitN N k = c at *
  have h1 := Nat.div_add_mod y D
  generalize y / D = u at *
  generalize y % D = r at *
  have e2 : x = (2 * r + c) + D * (2 * u) := by rw [e, ← h1, Nat.mul_add, ← Nat.mul_assoc, Nat.mul_comm 2 D, Nat.mul_assoc]; omega
  rw [e2, Nat.add_mul_div_left _ _ hD, Nat.add_mul_mod_self_left, Nat.div_eq_of_lt h, Nat.mod_eq_of_lt h]
  exact ⟨by omega, rfl⟩
theorem bq_yes {N D k : Nat} (hD : 0 < D) (hb : bitN N k ≤ 1) (h : D ≤ 2 * (N / 2 ^ (k + 1) % D) + bitN N k) :
    N / 2 ^ k / D = 2 * (N / 2 ^ (k + 1) / D) + 1 ∧ N / 2 ^ k % D = 2 * (N / 2 ^ (k + 1) % D) + bitN N k - D := by
  have e := half_bit N k
  generalize N / 2 ^ k = x at *
  generalize N / 2 ^ (k + 1) = y at *
  generalize bitN N k = c at *
  have h1 := Nat.div_add_mod y D
  have h2 := Nat.mod_lt y hD
  generalize y / D = u at *
  generalize y % D = r at *
  obtain ⟨z, hz⟩ : ∃ z, z = 2 * r + c - D := ⟨_, rfl⟩
  have hz1 : z < D := by omega
  have e2 : x = z + D * (2 * u + 1) := by
    rw [e, ← h1, Nat.mul_add D, Nat.mul_one, Nat.mul_add 2, ← Nat.mul_assoc, Nat.mul_comm 2 D, Nat.mul_assoc]; omega
  rw [← hz, e2, Nat.add_mul_div_left _ _ hD, Nat.add_mul_mod_self_left, Nat.div_eq_of_lt hz1, Nat.mod_eq_of_lt hz1]
  exact ⟨by omega, rfl⟩
/-- a bit is set where there is none yet -/
theorem or_bit {o : List Nat} {k y : Nat} (hb : B32 o) (h : val o = 2 ^ (k + 1) * y) (hk : k / 32 < o.length) :
    wd o (k / 32) ||| 2 ^ (k % 32) = wd o (k / 32) + 2 ^ (k % 32) ∧ wd o (k / 32) + 2 ^ (k % 32) < 4294967296 ∧ val (o.set (k / 32) (wd o (k / 32) + 2 ^ (k % 32))) = val o + 2 ^ k := by
  have hs : k % 32 < 32 := Nat.mod_lt _ (by omega)
  have h1 := val_set (o := o) (k := k / 32) (wd o (k / 32) + 2 ^ (k % 32)) hk
  have e0 : 2 ^ k = 2 ^ (k % 32) * Wp (k / 32) := by rw [Wp_eq, ← Nat.pow_add]; congr 1; omega
  have e1 : 2 ^ (k + 1) * y = Wp (k / 32) * (2 ^ (k % 32 + 1) * y) := by
    rw [Wp_eq, ← Nat.mul_assoc, ← Nat.pow_add]; congr 2; omega
  have e2 : (4294967296 : Nat) = 2 ^ (k % 32 + 1) * 2 ^ (31 - k % 32) := by
    rw [← Nat.pow_add, show k % 32 + 1 + (31 - k % 32) = 32 by omega]
  have e3 : wd o (k / 32) = 2 ^ (k % 32 + 1) * (y % 2 ^ (31 - k % 32)) := by
    rw [wd_val hb, h, e1, Nat.mul_div_cancel_left _ (Wp_pos _), e2, Nat.mul_mod_mul_left]
  have e4 := Nat.mod_lt y (show 0 < 2 ^ (31 - k % 32) from Nat.pow_pos (by omega))
  have e5 : (2 : Nat) ^ (k % 32) < 2 ^ (k % 32 + 1) := Nat.pow_lt_pow_right (by omega) (by omega)
  refine ⟨?_, ?_, ?_⟩
  · rw [e3]; exact (Nat.two_pow_add_eq_or_of_lt e5 _).symm
  · rw [e3, e2]
    have := Nat.mul_le_mul_left (2 ^ (k % 32 + 1)) (show y % 2 ^ (31 - k % 32) + 1 ≤ 2 ^ (31 - k % 32) from e4)
    rw [Nat.mul_add, Nat.mul_one] at this
    omega
  · rw [Nat.add_mul, ← e0] at h1; omega
/-- twice, and a bit -/
def dbw (x c : Nat) : Nat := (2 * x + c) % 4294967296
def dbc (x : Nat) : Nat := x / 2147483648
theorem dbc_le {x : Nat} (h : x < 4294967296) : dbc x ≤ 1 := by unfold dbc; omega
theorem dbw_lt (x c : Nat) : dbw x c < 4294967296 := Nat.mod_lt _ (by omega)
theorem dbw_or {x c : Nat} (hc : c ≤ 1) : (x * 2 % 4294967296) ||| c = dbw x c := by
  unfold dbw
  have e1 : x * 2 % 4294967296 = 2 ^ 1 * (x % 2147483648) := by omega
  rw [e1, ← Nat.two_pow_add_eq_or_of_lt (show c < 2 ^ 1 by omega)]
  omega
theorem dbl_step {o a : List Nat} {i c bit : Nat} (hi : i < a.length) (hl : o.length = i) (hc : c ≤ 1) (h : val o + c * Wp i = 2 * val (a.take i) + bit) :
    val (o ++ [dbw (wd a i) c]) + dbc (wd a i) * Wp (i + 1) = 2 * val (a.take (i + 1)) + bit := by
  rw [val_append, val_one, hl, take_succ_wd hi, val_append, val_one, List.length_take, Nat.min_eq_left (by omega), Wp_succ]
  have e : dbw (wd a i) c + dbc (wd a i) * 4294967296 = 2 * wd a i + c := by unfold dbw dbc; omega
  have e2 : Wp i * dbw (wd a i) c + dbc (wd a i) * (4294967296 * Wp i) = Wp i * (2 * wd a i + c) := by
    rw [← e, Nat.mul_add, Nat.mul_comm (Wp i) (dbc _ * _), Nat.mul_assoc]
  rw [Nat.mul_add, Nat.mul_comm c] at *
  rw [show Wp i * (2 * wd a i) = 2 * (Wp i * wd a i) by rw [← Nat.mul_assoc, Nat.mul_comm (Wp i) 2, Nat.mul_assoc]] at e2
  omega
end Go.Proofs.Ytabcnpcfknlmlaa
