/- The plain arithmetic of long division: a digit is taken away; one digit too many is put back; the whole loop. -/
import Derived.Test.YtabcnpcfknlmlaaPlainC
namespace Go.Proofs.Ytabcnpcfknlmlaa

/-- the state of the loop: what is left (u) and the quotient's words (q), behind the places from k on -/
def Ov (U : Nat) (u d q : List Nat) (k : Nat) : Prop :=
  val u + val d * val q = U ∧ val (u.drop k) < val d ∧ ∀ t, t < k → wd q t = 0

theorem val_take_drop (l : List Nat) (k : Nat) (h : k ≤ l.length) : val l = val (l.take k) + Wp k * val (l.drop k) := by
  have := val_split l k; rwa [Nat.min_eq_left h] at this
theorem take_eq_of_wd {a b : List Nat} {k : Nat} (hl : a.length = b.length) (h : ∀ t, t < k → wd a t = wd b t) : a.take k = b.take k := by
  refine wd_ext (by rw [List.length_take, List.length_take, hl]) fun t ht => ?_
  rw [List.length_take] at ht
  rw [wd_take (by omega), wd_take (by omega)]
  exact h t (by omega)

/-- what is left from a place on is less than a word times the divisor -/
theorem Ov_lt {U : Nat} {u d q : List Nat} {j : Nat} (hu : B32 u) (hj : j < u.length) (h : Ov U u d q (j + 1)) : val (u.drop j) < 4294967296 * val d := by
  rw [val_drop hj]
  have h1 := h.2.1
  have h2 := wd_lt hu j
  have := Nat.mul_le_mul_left 4294967296 (show val (u.drop (j + 1)) + 1 ≤ val d by omega)
  omega

/-- behind a digit: the words below the place are as they were, and what is left from it on is less than the divisor -/
theorem Ov_step {U : Nat} {u u' d q : List Nat} {j t : Nat} (hj : j < u.length) (hq : j < q.length) (hl : u'.length = u.length) (ht : ∀ i, i < j → wd u' i = wd u i)
    (h : Ov U u d q (j + 1)) (hv : val u' + t * val d * Wp j = val u) (hX : val (u.drop j) < (t + 1) * val d) : Ov U u' d (q.set j t) j := by
  have h1 := val_set (o := q) (k := j) t hq
  rw [h.2.2 j (by omega), Nat.zero_mul, Nat.add_zero] at h1
  refine ⟨?_, ?_, fun i hi => ?_⟩
  · rw [h1, Nat.mul_add, ← h.1, ← hv]
    have : val d * (t * Wp j) = t * val d * Wp j := by rw [← Nat.mul_assoc, Nat.mul_comm (val d) t]
    omega
  · have e1 := val_take_drop u j (by omega)
    have e2 := val_take_drop u' j (by omega)
    rw [take_eq_of_wd hl ht] at e2
    have hp := Wp_pos j
    have e3 : Wp j * (val (u'.drop j) + t * val d) = Wp j * val (u.drop j) := by
      rw [Nat.mul_add, Nat.mul_comm (Wp j) (t * val d)]; omega
    have e4 := Nat.eq_of_mul_eq_mul_left hp e3
    rw [Nat.add_mul, Nat.one_mul] at hX
    omega
  · rw [wd_set_ne (by omega)]; exact h.2.2 i (by omega)
theorem Ov_end {U : Nat} {u d q : List Nat} (h : Ov U u d q 0) : val q = U / val d ∧ val u = U % val d := by
  have h2 := h.2.1
  rw [List.drop_zero] at h2
  have h1 := h.1
  have hd : 0 < val d := by omega
  exact short_end hd h2 (by rw [Nat.mul_comm]; omega)

/-! ### the digit is taken away -/
def Ms (u d u' : List Nat) (j t i c b : Nat) : Prop :=
  u'.length = u.length ∧ (∀ k, k < j → wd u' k = wd u k) ∧ (∀ k, i + j ≤ k → wd u' k = wd u k) ∧ val u' + t * val (d.take i) * Wp j = val u + (c + b) * Wp (i + j)
theorem Ms_start (u d : List Nat) (j t : Nat) : Ms u d u j t 0 0 0 := ⟨rfl, fun _ _ => rfl, fun _ _ => rfl, by simp [val]⟩
theorem Ms_step {u d u' : List Nat} {j t i c b : Nat} (hk : i + j < u.length) (hu : B32 u') (hb : b ≤ 1) (h : Ms u d u' j t i c b) :
    Ms u d (u'.set (i + j) (msF (wd u' (i + j)) (msC c t (wd d i)) b)) j t (i + 1) (msC c t (wd d i) / 4294967296) (msB (wd u' (i + j)) (msC c t (wd d i)) b) := by
  refine ⟨by rw [List.length_set]; exact h.1, fun k hk => by rw [wd_set_ne (by omega)]; exact h.2.1 k hk, fun k hk => by rw [wd_set_ne (by omega)]; exact h.2.2.1 k (by omega), ?_⟩
  exact ms_step (by rw [h.1]; exact hk) hu hb h.2.2.2
theorem msC_lt {c t x : Nat} (hc : c < 4294967296) (ht : t ≤ 4294967295) (hx : x < 4294967296) : msC c t x ≤ 18446744069414584320 ∧ msC c t x / 4294967296 < 4294967296 := by
  have := Nat.mul_le_mul ht (show x ≤ 4294967295 by omega)
  unfold msC; omega
theorem msF_lt (u c b : Nat) : msF u c b < 4294967296 := Nat.mod_lt _ (by omega)
theorem msB_le (u c b : Nat) : msB u c b ≤ 1 := by unfold msB; split <;> omega
/-- the highest word: nothing is owed -/
theorem Ms_no {u d u' : List Nat} {j t n c b : Nat} (hn : d.length = n) (hk : n + j < u.length) (h : Ms u d u' j t n c b) (hc : c + b ≤ wd u' (n + j)) :
    val (u'.set (n + j) (wd u' (n + j) - (c + b))) + t * val d * Wp j = val u := by
  have h1 := val_set (o := u') (k := n + j) (wd u' (n + j) - (c + b)) (by rw [h.1]; exact hk)
  have h2 := h.2.2.2
  rw [← hn, List.take_length, hn] at h2
  have e : wd u' (n + j) * Wp (n + j) = (wd u' (n + j) - (c + b)) * Wp (n + j) + (c + b) * Wp (n + j) := by rw [← Nat.add_mul]; congr 1; omega
  omega
/-- .. or a word above is owed -/
theorem Ms_yes {u d u' : List Nat} {j t n c b : Nat} (hn : d.length = n) (hk : n + j < u.length) (h : Ms u d u' j t n c b) (_hc : wd u' (n + j) < c + b) (hw : c + b ≤ 4294967296) :
    val (u'.set (n + j) (wd u' (n + j) + 4294967296 - (c + b))) + t * val d * Wp j = val u + Wp (n + j + 1) := by
  have h1 := val_set (o := u') (k := n + j) (wd u' (n + j) + 4294967296 - (c + b)) (by rw [h.1]; exact hk)
  have h2 := h.2.2.2
  rw [← hn, List.take_length, hn] at h2
  have e : wd u' (n + j) * Wp (n + j) + 4294967296 * Wp (n + j) = (wd u' (n + j) + 4294967296 - (c + b)) * Wp (n + j) + (c + b) * Wp (n + j) := by rw [← Nat.add_mul, ← Nat.add_mul]; congr 1; omega
  rw [Wp_succ]
  omega

/-! ### one digit too many is put back -/
def Ab (u d u' : List Nat) (j i c : Nat) : Prop :=
  u'.length = u.length ∧ (∀ k, k < j → wd u' k = wd u k) ∧ (∀ k, i + j ≤ k → wd u' k = wd u k) ∧ val u' + c * Wp (i + j) = val u + val (d.take i) * Wp j
theorem Ab_start (u d : List Nat) (j : Nat) : Ab u d u j 0 0 := ⟨rfl, fun _ _ => rfl, fun _ _ => rfl, by simp [val]⟩
theorem Ab_step {u d u' : List Nat} {j i c : Nat} (hk : i + j < u.length) (h : Ab u d u' j i c) :
    Ab u d (u'.set (i + j) (addf (wd u' (i + j)) (wd d i) c)) j (i + 1) (addc (wd u' (i + j)) (wd d i) c) := by
  refine ⟨by rw [List.length_set]; exact h.1, fun k hk => by rw [wd_set_ne (by omega)]; exact h.2.1 k hk, fun k hk => by rw [wd_set_ne (by omega)]; exact h.2.2.1 k (by omega), ?_⟩
  have h1 := val_set (o := u') (k := i + j) (addf (wd u' (i + j)) (wd d i) c) (by rw [h.1]; exact hk)
  have h3 := h.2.2.2
  have e := add_eq (wd u' (i + j)) (wd d i) c
  generalize addf (wd u' (i + j)) (wd d i) c = f at *
  generalize addc (wd u' (i + j)) (wd d i) c = g at *
  have e2 : (f + g * 4294967296) * Wp (i + j) = (wd u' (i + j) + wd d i + c) * Wp (i + j) := by rw [e]
  rw [Nat.add_mul, Nat.add_mul, Nat.add_mul] at e2
  rw [val_take_succ', Nat.add_mul, show i + 1 + j = (i + j) + 1 by omega, Wp_succ]
  have e3 : g * (4294967296 * Wp (i + j)) = g * 4294967296 * Wp (i + j) := by rw [Nat.mul_assoc]
  have e4 : wd d i * Wp i * Wp j = wd d i * Wp (i + j) := by rw [Wp_add, Nat.mul_assoc]
  rw [e3, e4]
  omega
/-- the highest word takes the carry and falls over -/
theorem Ab_end {u d u' : List Nat} {j n c V : Nat} (hB : B32 u') (hn : d.length = n) (hk : n + j < u.length) (hz : ∀ k, n + j + 1 ≤ k → wd u k = 0) (h : Ab u d u' j n c) (hc : c ≤ 1)
    (hV : val u + val d * Wp j = V + Wp (n + j + 1)) : val (u'.set (n + j) ((wd u' (n + j) + c) % 4294967296)) = V := by
  have h1 := val_set (o := u') (k := n + j) ((wd u' (n + j) + c) % 4294967296) (by rw [h.1]; exact hk)
  have h2 := h.2.2.2
  rw [← hn, List.take_length, hn] at h2
  have hx := wd_lt hB (n + j)
  -- above the highest word there is nothing
  have h3 := val_take_drop u' (n + j + 1) (by rw [h.1]; omega)
  have hz2 : val (u'.drop (n + j + 1)) = 0 := by
    have : u'.drop (n + j + 1) = List.replicate (u'.length - (n + j + 1)) 0 := by
      refine wd_ext (by simp) fun k hk => ?_
      rw [wd_replicate, wd_drop, h.2.2.1 _ (by omega), hz _ (by omega)]
    rw [this, val_replicate]
  rw [hz2, Nat.mul_zero, Nat.add_zero] at h3
  have h4 := val_take_lt hB (n + j + 1)
  rw [val_take_succ'] at h3
  have h5 := val_take_lt hB (n + j)
  rw [Wp_succ] at hV h4
  by_cases ho : wd u' (n + j) + c < 4294967296
  · exfalso
    have e : (wd u' (n + j) + c) * Wp (n + j) ≤ 4294967295 * Wp (n + j) := Nat.mul_le_mul_right _ (by omega)
    rw [Nat.add_mul] at e
    omega
  · have e0 : wd u' (n + j) + c = 4294967296 := by omega
    rw [e0, Nat.mod_self, Nat.zero_mul, Nat.add_zero] at h1
    have e : (wd u' (n + j) + c) * Wp (n + j) = 4294967296 * Wp (n + j) := by rw [e0]
    rw [Nat.add_mul] at e
    rw [e0, Nat.mod_self]
    omega
end Go.Proofs.Ytabcnpcfknlmlaa
