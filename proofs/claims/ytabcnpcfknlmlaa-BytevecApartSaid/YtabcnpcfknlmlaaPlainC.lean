/- The plain arithmetic of long division. -/
import Derived.Test.YtabcnpcfknlmlaaPlainB
namespace Go.Proofs.Ytabcnpcfknlmlaa

theorem val_drop {l : List Nat} {k : Nat} (h : k < l.length) : val (l.drop k) = wd l k + 4294967296 * val (l.drop (k + 1)) := by
  rw [drop_wd h]; rfl
theorem val_drop_out {l : List Nat} {k : Nat} (h : l.length ≤ k) : val (l.drop k) = 0 := by rw [List.drop_of_length_le h]; rfl
theorem val_drop_set {o : List Nat} {k j x : Nat} (h : k < j) : val ((o.set k x).drop j) = val (o.drop j) := by rw [List.drop_set_of_lt h]

/-! ### over one word -/
theorem short_step {a o : List Nat} {k d r : Nat} (_hd : 0 < d) (hk : k < a.length) (ho : o.length = a.length) (h : val (a.drop (k + 1)) = val (o.drop (k + 1)) * d + r) :
    val (a.drop k) = val ((o.set k ((r * 4294967296 + wd a k) / d)).drop k) * d + (r * 4294967296 + wd a k) % d := by
  rw [val_drop hk, val_drop (l := o.set k _) (k := k) (by rw [List.length_set]; omega), wd_set_eq (by omega), val_drop_set (by omega), h]
  have e := Nat.div_add_mod (r * 4294967296 + wd a k) d
  generalize (r * 4294967296 + wd a k) / d = q at *
  generalize (r * 4294967296 + wd a k) % d = m at *
  rw [Nat.add_mul, Nat.mul_comm q d, Nat.mul_assoc]
  generalize val (o.drop (k + 1)) * d = x at *
  omega
theorem short_lt {r d x : Nat} (hd : 0 < d) (hr : r < d) (hx : x < 4294967296) : (r * 4294967296 + x) / d < 4294967296 := by
  rw [Nat.div_lt_iff_lt_mul hd]
  have := Nat.mul_le_mul_right 4294967296 (show r + 1 ≤ d by omega)
  rw [Nat.add_mul] at this
  omega
theorem short_end {n o d r : Nat} (hd : 0 < d) (hr : r < d) (h : n = o * d + r) : o = n / d ∧ r = n % d := by
  subst h
  rw [Nat.mul_comm, Nat.mul_add_div hd, Nat.div_eq_of_lt hr, Nat.mul_add_mod, Nat.mod_eq_of_lt hr]
  exact ⟨by omega, rfl⟩

/-! ### the estimate of a digit. X: what is left from the place j on (n + 1 words); d: the divisor, of n words; v1, v2: its two highest; top, u2: X's three highest -/
theorem est_start {X d top v1 P : Nat} (hX : X < (top + 1) * P) (hd : v1 * P ≤ d) (hv : 0 < v1) : X < (top / v1 + 1) * d := by
  have h1 : top + 1 ≤ (top / v1 + 1) * v1 := by
    have := Nat.div_add_mod top v1
    have := Nat.mod_lt top hv
    rw [Nat.add_mul, Nat.mul_comm (top / v1)]; omega
  calc X < (top + 1) * P := hX
    _ ≤ (top / v1 + 1) * v1 * P := Nat.mul_le_mul_right _ h1
    _ = (top / v1 + 1) * (v1 * P) := by rw [Nat.mul_assoc]
    _ ≤ (top / v1 + 1) * d := Nat.mul_le_mul_left _ hd
/-- a digit that is too large by the test of the second word -/
theorem est_dec {X d top rest t v1 v2 u2 P : Nat} (hX : X < (top * 4294967296 + u2 + 1) * P) (hd : (v1 * 4294967296 + v2) * P ≤ d) (hr : t * v1 + rest = top) (h : rest * 4294967296 + u2 < t * v2) : X < t * d := by
  have h1 : top * 4294967296 + u2 + 1 ≤ t * (v1 * 4294967296 + v2) := by
    rw [Nat.mul_add, ← Nat.mul_assoc, ← hr, Nat.add_mul]; omega
  calc X < (top * 4294967296 + u2 + 1) * P := hX
    _ ≤ t * (v1 * 4294967296 + v2) * P := Nat.mul_le_mul_right _ h1
    _ = t * ((v1 * 4294967296 + v2) * P) := by rw [Nat.mul_assoc]
    _ ≤ t * d := Nat.mul_le_mul_left _ hd
/-- a digit that passes the test is at most one too large -/
theorem est_end {X d top rest t v1 v2 u2 P : Nat} (hX : (top * 4294967296 + u2) * P ≤ X) (hd : d ≤ (v1 * 4294967296 + v2 + 1) * P) (hr : t * v1 + rest = top) (ht : t ≤ 4294967295) (hv1 : 1 ≤ v1) (h : t * v2 ≤ rest * 4294967296 + u2) : (t - 1) * d ≤ X := by
  have h1 : (t - 1) * (v1 * 4294967296 + v2 + 1) ≤ top * 4294967296 + u2 := by
    rcases Nat.eq_zero_or_pos t with h0 | h0
    · subst h0; simp
    · have e : t * (v1 * 4294967296 + v2) ≤ top * 4294967296 + u2 := by
        rw [Nat.mul_add, ← Nat.mul_assoc, ← hr, Nat.add_mul]; omega
      obtain ⟨s, rfl⟩ : ∃ s, t = s + 1 := ⟨t - 1, by omega⟩
      rw [Nat.add_sub_cancel, Nat.mul_add, Nat.mul_one]
      rw [Nat.add_mul, Nat.one_mul] at e
      have : 1 * 4294967296 ≤ v1 * 4294967296 := Nat.mul_le_mul_right _ hv1
      omega
  calc (t - 1) * d ≤ (t - 1) * ((v1 * 4294967296 + v2 + 1) * P) := Nat.mul_le_mul_left _ hd
    _ = (t - 1) * (v1 * 4294967296 + v2 + 1) * P := by rw [Nat.mul_assoc]
    _ ≤ (top * 4294967296 + u2) * P := Nat.mul_le_mul_right _ h1
    _ ≤ X := hX
/-- where the rest has passed a word the test is passed -/
theorem est_brk {top rest t v1 v2 u2 : Nat} (hr : t * v1 + rest = top) (htop : top ≤ v1 * 4294967296 + 4294967295) (_hv1 : 0 < v1) (hv2 : v2 < 4294967296) (hb : 4294967296 ≤ rest) : t ≤ 4294967295 ∧ t * v2 ≤ rest * 4294967296 + u2 := by
  have h1 : t * v1 < 4294967296 * v1 := by rw [Nat.mul_comm 4294967296]; omega
  have h2 : t < 4294967296 := Nat.lt_of_mul_lt_mul_right h1
  refine ⟨by omega, ?_⟩
  have h3 : t * v2 ≤ 4294967296 * 4294967296 := Nat.mul_le_mul (by omega) (by omega)
  have h4 : 4294967296 * 4294967296 ≤ rest * 4294967296 := Nat.mul_le_mul_right _ hb
  omega

/-! ### a digit times the divisor, taken away -/
def msC (c t x : Nat) : Nat := c + t * x
/-- the word that is left -/
def msF (u c b : Nat) : Nat := (u + 18446744073709551616 - c % 4294967296 - b) % 4294967296
def msB (u c b : Nat) : Nat := if u < c % 4294967296 + b then 1 else 0
theorem ms_eq {u c b : Nat} (hu : u < 4294967296) (hb : b ≤ 1) : msF u c b + c + b = u + 4294967296 * (c / 4294967296 + msB u c b) := by
  unfold msF msB; split <;> omega
theorem ms_step {u u' d : List Nat} {i j t c b : Nat} (hk : i + j < u'.length) (hu : B32 u') (hb : b ≤ 1) (h : val u' + t * val (d.take i) * Wp j = val u + (c + b) * Wp (i + j)) :
    val (u'.set (i + j) (msF (wd u' (i + j)) (msC c t (wd d i)) b)) + t * val (d.take (i + 1)) * Wp j = val u + (msC c t (wd d i) / 4294967296 + msB (wd u' (i + j)) (msC c t (wd d i)) b) * Wp (i + 1 + j) := by
  have h1 := val_set (msF (wd u' (i + j)) (msC c t (wd d i)) b) hk
  have e := ms_eq (c := msC c t (wd d i)) (wd_lt hu (i + j)) hb
  have e0 : msC c t (wd d i) = c + t * wd d i := rfl
  generalize msF (wd u' (i + j)) (msC c t (wd d i)) b = f at *
  generalize msB (wd u' (i + j)) (msC c t (wd d i)) b = g at *
  generalize msC c t (wd d i) = C at *
  rw [val_take_succ', Nat.mul_add, Nat.add_mul, show i + 1 + j = (i + j) + 1 by omega, Wp_succ]
  have e2 : (f + C + b) * Wp (i + j) = (wd u' (i + j) + 4294967296 * (C / 4294967296 + g)) * Wp (i + j) := by rw [e]
  rw [e0, Nat.add_mul, Nat.add_mul, Nat.add_mul, Nat.add_mul (wd u' (i + j))] at e2
  rw [e0]
  have e3 : t * (wd d i * Wp i) * Wp j = t * wd d i * Wp (i + j) := by rw [Wp_add, Nat.mul_assoc, Nat.mul_assoc, Nat.mul_assoc]
  have e4 : ((c + t * wd d i) / 4294967296 + g) * (4294967296 * Wp (i + j)) = 4294967296 * ((c + t * wd d i) / 4294967296 + g) * Wp (i + j) := by rw [← Nat.mul_assoc, Nat.mul_comm _ 4294967296]
  rw [e3, e4]
  rw [Nat.add_mul] at h
  generalize 4294967296 * ((c + t * wd d i) / 4294967296 + g) * Wp (i + j) = Z at *
  generalize t * wd d i * Wp (i + j) = Y at *
  generalize t * val (d.take i) * Wp j = V at *
  omega
end Go.Proofs.Ytabcnpcfknlmlaa
