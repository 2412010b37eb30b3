/- The plain arithmetic of shifts: lists of words times, and over, a power of 2. -/
import Derived.Test.YtabcnpcfknlmlaaPlain
namespace Go.Proofs.Ytabcnpcfknlmlaa

def shlo (x s : Nat) : Nat := x * 2 ^ s % 4294967296
def shhi (x s : Nat) : Nat := x * 2 ^ s / 4294967296
theorem pow_split {s : Nat} (h : s ≤ 32) : 4294967296 = 2 ^ (32 - s) * 2 ^ s := by rw [← Nat.pow_add, Nat.sub_add_cancel h]
theorem sh_eq (x s : Nat) : shlo x s + shhi x s * 4294967296 = x * 2 ^ s := by unfold shlo shhi; omega
theorem shlo_form {x s : Nat} (h : s < 32) : shlo x s = x % 2 ^ (32 - s) * 2 ^ s := by
  unfold shlo
  conv => lhs; rw [pow_split (Nat.le_of_lt h)]
  rw [Nat.mul_mod_mul_right]
theorem shlo_lt (x s : Nat) : shlo x s < 4294967296 := Nat.mod_lt _ (by omega)
theorem shhi_lt {x s : Nat} (hx : x < 4294967296) : shhi x s < 2 ^ s := by
  unfold shhi
  rw [Nat.div_lt_iff_lt_mul (by omega), Nat.mul_comm (2 ^ s)]
  exact Nat.mul_lt_mul_of_pos_right hx (Nat.pow_pos (by omega))
theorem pow_le32 {s : Nat} (h : s < 32) : 2 ^ s ≤ 2147483648 := by
  have := Nat.pow_le_pow_right (n := 2) (by omega) (show s ≤ 31 by omega)
  simpa using this
theorem or_shlo {y x s : Nat} (h : s < 32) (hy : y < 2 ^ s) : y ||| shlo x s = y + shlo x s ∧ y + shlo x s < 4294967296 := by
  rw [shlo_form h]
  constructor
  · have := Nat.two_pow_add_eq_or_of_lt hy (x % 2 ^ (32 - s))
    rw [Nat.or_comm, Nat.mul_comm _ (2 ^ s), ← this, Nat.add_comm]
  · have h1 : x % 2 ^ (32 - s) + 1 ≤ 2 ^ (32 - s) := Nat.mod_lt _ (Nat.pow_pos (by omega))
    have h2 := Nat.mul_le_mul_right (2 ^ s) h1
    rw [← pow_split (Nat.le_of_lt h), Nat.add_mul] at h2
    omega
theorem two_pow_kq (k : Nat) : 2 ^ k = 2 ^ (k % 32) * Wp (k / 32) := by
  rw [Wp_eq, ← Nat.pow_add]; congr 1; omega
/-- one word more of a list times a power of 2 -/
theorem up_step {a o : List Nat} {i k : Nat} (hok : i + k / 32 + 1 < o.length) (hz : wd o (i + k / 32 + 1) = 0) (h : val o = val (a.take i) * 2 ^ k) :
    val ((o.set (i + k / 32) (wd o (i + k / 32) + shlo (wd a i) (k % 32))).set (i + k / 32 + 1) (shhi (wd a i) (k % 32))) = val (a.take (i + 1)) * 2 ^ k := by
  have h1 := val_set (o := o) (k := i + k / 32) (wd o (i + k / 32) + shlo (wd a i) (k % 32)) (by omega)
  have h2 := val_set (o := o.set (i + k / 32) (wd o (i + k / 32) + shlo (wd a i) (k % 32))) (k := i + k / 32 + 1) (shhi (wd a i) (k % 32)) (by rw [List.length_set]; exact hok)
  rw [wd_set_ne (by omega), hz] at h2
  have e := sh_eq (wd a i) (k % 32)
  generalize shlo (wd a i) (k % 32) = lo at *
  generalize shhi (wd a i) (k % 32) = hi at *
  rw [val_take_succ', Nat.add_mul, ← h]
  have e2 : wd a i * Wp i * 2 ^ k = (lo + hi * 4294967296) * Wp (i + k / 32) := by
    rw [e, two_pow_kq k, Wp_add, Nat.mul_assoc, Nat.mul_assoc]
    congr 1
    rw [← Nat.mul_assoc, Nat.mul_comm (Wp i), Nat.mul_assoc]
  rw [e2, Nat.add_mul, Nat.mul_assoc, ← Wp_succ]
  rw [Nat.add_mul] at h1
  omega
/-- the reference's way: behind the words there is a carry -/
theorem rup_step {a o : List Nat} {i k c : Nat} (ho : o.length = k / 32 + i) (h : val o + c * Wp (k / 32 + i) = val (a.take i) * 2 ^ k) :
    val (o ++ [c + shlo (wd a i) (k % 32)]) + shhi (wd a i) (k % 32) * Wp (k / 32 + (i + 1)) = val (a.take (i + 1)) * 2 ^ k := by
  have e := sh_eq (wd a i) (k % 32)
  generalize shlo (wd a i) (k % 32) = lo at *
  generalize shhi (wd a i) (k % 32) = hi at *
  rw [val_append, ho, val_one, val_take_succ', Nat.add_mul, ← h]
  have e2 : wd a i * Wp i * 2 ^ k = (lo + hi * 4294967296) * Wp (k / 32 + i) := by
    rw [e, two_pow_kq k, Nat.add_comm (k / 32), Wp_add, Nat.mul_assoc, Nat.mul_assoc]
    congr 1
    rw [← Nat.mul_assoc, Nat.mul_comm (Wp i), Nat.mul_assoc]
  rw [e2, Nat.add_mul, Nat.mul_assoc, ← Nat.add_assoc, Wp_succ, Nat.mul_add, Nat.mul_comm (Wp (k / 32 + i)) c, Nat.mul_comm (Wp (k / 32 + i)) lo]
  omega

/-- a word of the quotient by a power of 2 -/
def dnw (x y s : Nat) : Nat := (x + y * 4294967296) / 2 ^ s % 4294967296
theorem dnw_lt (x y s : Nat) : dnw x y s < 4294967296 := Nat.mod_lt _ (by omega)
theorem or_hi {x y : Nat} (h : x < 4294967296) : x ||| (y * 4294967296) = x + y * 4294967296 := by
  have := Nat.two_pow_add_eq_or_of_lt (i := 32) h y
  rw [Nat.or_comm, Nat.mul_comm y, ← this, Nat.add_comm]
theorem two_words {l : List Nat} (h : B32 l) (i : Nat) : wd l i + wd l (i + 1) * 4294967296 = val l / Wp i % (4294967296 * 4294967296) := by
  rw [wd_val h, wd_val h, Wp_succ, Nat.mul_comm 4294967296 (Wp i), ← Nat.div_div_eq_div_mul, Nat.mod_mul]
  omega
theorem dn_word {l : List Nat} (h : B32 l) (k j : Nat) : dnw (wd l (k / 32 + j)) (wd l (k / 32 + j + 1)) (k % 32) = val l / 2 ^ k / Wp j % 4294967296 := by
  unfold dnw
  rw [two_words h, two_pow_kq k, Wp_add]
  generalize val l = n
  have hs : k % 32 < 32 := Nat.mod_lt _ (by omega)
  generalize k % 32 = s at *
  have e1 : n / (2 ^ s * Wp (k / 32)) / Wp j = n / (Wp (k / 32) * Wp j) / 2 ^ s := by
    rw [Nat.div_div_eq_div_mul, Nat.div_div_eq_div_mul]; congr 1
    rw [Nat.mul_assoc, Nat.mul_comm]
  rw [e1]
  generalize n / (Wp (k / 32) * Wp j) = m
  have e2 : 4294967296 * 4294967296 = 2 ^ s * (2 ^ (32 - s) * 4294967296) := by
    rw [← Nat.mul_assoc, Nat.mul_comm (2 ^ s), ← pow_split (Nat.le_of_lt hs)]
  rw [e2, Nat.mod_mul_right_div_self, Nat.mod_mul_left_mod]
theorem val_words {o : List Nat} {r : Nat} (h : ∀ j, j < o.length → wd o j = r / Wp j % 4294967296) (k : Nat) (hk : k ≤ o.length) : val (o.take k) = r % Wp k := by
  induction k with
  | zero => rw [Wp_zero]; simp [val, Nat.mod_one]
  | succ k ih =>
    rw [val_take_succ', ih (by omega), h k (by omega), Wp_succ, Nat.mul_comm 4294967296, Nat.mod_mul, Nat.mul_comm (Wp k)]
theorem val_words_all {o : List Nat} {r : Nat} (h : ∀ j, j < o.length → wd o j = r / Wp j % 4294967296) (hr : r < Wp o.length) : val o = r := by
  have := val_words h o.length (Nat.le_refl _)
  rw [List.take_length, Nat.mod_eq_of_lt hr] at this
  exact this
theorem dn_lt {l : List Nat} (h : B32 l) (k : Nat) : val l / 2 ^ k < Wp (l.length - k / 32) := by
  have h1 := val_lt h
  rw [two_pow_kq k, ← Nat.div_div_eq_div_mul, Nat.div_div_eq_div_mul, Nat.mul_comm, ← Nat.div_div_eq_div_mul]
  refine Nat.lt_of_le_of_lt (Nat.div_le_self _ _) ?_
  by_cases hk : k / 32 ≤ l.length
  · rw [Nat.div_lt_iff_lt_mul (Wp_pos _), ← Wp_add, Nat.sub_add_cancel hk]; exact h1
  · rw [Nat.div_eq_of_lt (Nat.lt_of_lt_of_le h1 (Wp_mono (by omega)))]; exact Wp_pos _
theorem mulpow_cast (x s : Nat) : (x : Int) * 2 ^ s = ((x * 2 ^ s : Nat) : Int) := by simp
theorem shI {x s : Nat} (hx : x < 4294967296) (hs : s < 32) : 0 ≤ (x : Int) * 2 ^ s ∧ (x : Int) * 2 ^ s ≤ 9223372034707292160 := by
  rw [mulpow_cast]
  have h1 := Nat.mul_le_mul (show x ≤ 4294967295 by omega) (pow_le32 hs)
  generalize x * 2 ^ s = p at *
  omega
theorem shlo_int (x s : Nat) : ((x : Int) * 2 ^ s) % 4294967296 = (shlo x s : Int) := by
  rw [mulpow_cast]; unfold shlo; generalize x * 2 ^ s = p; omega
theorem shhi_int (x s : Nat) : ((x : Int) * 2 ^ s) / 4294967296 = (shhi x s : Int) := by
  rw [mulpow_cast]; unfold shhi; generalize x * 2 ^ s = p; omega

def upv (c x s : Nat) : Nat := c + x * 2 ^ s
def uplo (c x s : Nat) : Nat := c + shlo x s
theorem upv_or {c x s : Nat} (h : c < 2 ^ s) : c ||| (x * 2 ^ s) = upv c x s := by
  have := Nat.two_pow_add_eq_or_of_lt h x
  unfold upv
  rw [Nat.or_comm, Nat.mul_comm x, ← this, Nat.add_comm]
theorem uplo_lt {c x s : Nat} (hs : s < 32) (h : c < 2 ^ s) : uplo c x s < 4294967296 := (or_shlo hs h).2
theorem upv_lo {c x s : Nat} (hs : s < 32) (h : c < 2 ^ s) : (upv c x s : Int) % 4294967296 = (uplo c x s : Int) := by
  have h1 := uplo_lt (x := x) hs h
  have h2 := sh_eq x s
  unfold upv; unfold uplo at *
  rw [← h2]; omega
theorem upv_hi {c x s : Nat} (hs : s < 32) (h : c < 2 ^ s) : (upv c x s : Int) / 4294967296 = (shhi x s : Int) := by
  have h1 := uplo_lt (x := x) hs h
  have h2 := sh_eq x s
  unfold upv; unfold uplo at *
  rw [← h2]; omega
theorem shhi_zero (s : Nat) : shhi 0 s = 0 := by unfold shhi; simp
def x2 (x y : Nat) : Nat := x + y * 4294967296
theorem x2_lt {x y : Nat} (hx : x < 4294967296) (hy : y < 4294967296) : x2 x y < 18446744073709551616 := by unfold x2; omega
theorem div_cast (x s : Nat) : (x : Int) / 2 ^ s = ((x / 2 ^ s : Nat) : Int) := by simp
theorem dnw_int (x y s : Nat) : ((x2 x y : Int) / 2 ^ s) % 4294967296 = (dnw x y s : Int) := by
  rw [div_cast]; unfold dnw x2; generalize (x + y * 4294967296) / 2 ^ s = p; omega
theorem dnw_int0 (x s : Nat) : ((x : Int) / 2 ^ s) % 4294967296 = (dnw x 0 s : Int) := by
  rw [div_cast]; unfold dnw; rw [Nat.zero_mul, Nat.add_zero]; generalize x / 2 ^ s = p; omega
/-- the words of a quotient by a power of 2 -/
theorem down_all {a o : List Nat} {k : Nat} (ha : B32 a) (hl : o.length = a.length - k / 32) (h : ∀ j, j < o.length → wd o j = dnw (wd a (k / 32 + j)) (wd a (k / 32 + j + 1)) (k % 32)) : val o = val a / 2 ^ k :=
  val_words_all (fun j hj => by rw [h j hj, dn_word ha]) (by rw [hl]; exact dn_lt ha k)
end Go.Proofs.Ytabcnpcfknlmlaa
