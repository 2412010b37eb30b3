/- Plain: fractions as the rational numbers (core's Rat): sign, top, bottom; sums, products, order; how many words they have. -/
import Derived.Test.YtabcnpcfknlmlaaPlain
namespace Go.Proofs.Ytabcnpcfknlmlaa

/-- below 0? -/
def qn (q : Rat) : Bool := decide (q.num < 0)
/-- the top, without its sign -/
def qt (q : Rat) : Nat := q.num.natAbs
/-- the bottom -/
def qd (q : Rat) : Nat := q.den
/-- a fraction in lowest terms -/
def ratN (neg : Bool) (n d : Nat) : Rat := mkRat (if neg = true then -(n : Int) else n) d
/-- its words -/
def qw (q : Rat) : Nat := max (digs (qt q)).length (digs (qd q)).length

theorem qd_pos (q : Rat) : qd q ≠ 0 := q.den_nz
theorem q_num (q : Rat) : q.num = if qn q = true then -(qt q : Int) else (qt q : Int) := by
  unfold qn qt
  by_cases h : q.num < 0
  · rw [if_pos (by simp [h])]; omega
  · rw [if_neg (by simp [h])]; omega
theorem q_cop (q : Rat) : Nat.gcd (qt q) (qd q) = 1 := q.reduced
theorem qn_zero {q : Rat} (h : qt q = 0) : qn q = false := by
  unfold qt at h; unfold qn; rw [decide_eq_false_iff_not]; omega
theorem q_ext {p q : Rat} (h1 : qn p = qn q) (h2 : qt p = qt q) (h3 : qd p = qd q) : p = q := by
  apply Rat.ext
  · rw [q_num, q_num, h1, h2]
  · exact h3
theorem q_self (q : Rat) : ratN (qn q) (qt q) (qd q) = q := by
  unfold ratN; rw [← q_num]; exact Rat.mkRat_self q
theorem ratN_d (neg : Bool) (n d : Nat) (hd : d ≠ 0) : qd (ratN neg n d) = d / Nat.gcd n d := by
  unfold qd ratN
  rw [Rat.den_mkRat, if_neg hd]
  congr 1
  rw [Nat.gcd_comm]
  congr 1
  cases neg <;> simp
theorem gcd_dvd_top {n d : Nat} : ((Nat.gcd n d : Nat) : Int) ∣ (n : Int) := Int.ofNat_dvd.2 (Nat.gcd_dvd_left n d)
theorem ratN_num (neg : Bool) (n d : Nat) (hd : d ≠ 0) : (ratN neg n d).num = if neg = true then -((n / Nat.gcd n d : Nat) : Int) else ((n / Nat.gcd n d : Nat) : Int) := by
  unfold ratN
  rw [Rat.num_mkRat, if_neg hd]
  have e : d.gcd (if neg = true then -(n : Int) else (n : Int)).natAbs = Nat.gcd n d := by
    rw [Nat.gcd_comm]; congr 1; cases neg <;> simp
  rw [e]
  cases neg with
  | true => rw [if_pos rfl, if_pos rfl, Int.neg_ediv_of_dvd gcd_dvd_top]; simp
  | false => rw [if_neg (by simp), if_neg (by simp)]; simp
theorem ratN_t (neg : Bool) (n d : Nat) (hd : d ≠ 0) : qt (ratN neg n d) = n / Nat.gcd n d := by
  unfold qt; rw [ratN_num neg n d hd]; cases neg
  · rw [if_neg (by simp)]; exact Int.natAbs_natCast _
  · rw [if_pos rfl, Int.natAbs_neg]; exact Int.natAbs_natCast _
theorem ratN_n (neg : Bool) (n d : Nat) (hd : d ≠ 0) : qn (ratN neg n d) = (neg && decide (0 < n / Nat.gcd n d)) := by
  unfold qn; rw [ratN_num neg n d hd]; cases neg
  · rw [if_neg (by simp), Bool.false_and, decide_eq_false_iff_not]; exact Int.not_lt.2 (Int.natCast_nonneg _)
  · rw [if_pos rfl, Bool.true_and]
    by_cases h : 0 < n / Nat.gcd n d
    · rw [decide_eq_true h, decide_eq_true_eq]; generalize n / Nat.gcd n d = k at h ⊢; omega
    · rw [decide_eq_false h, decide_eq_false_iff_not]; generalize n / Nat.gcd n d = k at h ⊢; omega
theorem q_sum_same {p q : Rat} (h : qn p = qn q) : ratN (qn p) (qt p * qd q + qt q * qd p) (qd p * qd q) = p + q := by
  rw [Rat.add_def']
  unfold ratN
  rw [q_num p, q_num q, ← h]
  show mkRat _ (p.den * q.den) = _
  congr 1
  unfold qd
  cases qn p
  · simp
  · simp only [if_true, Int.natCast_add, Int.natCast_mul, Int.neg_mul]; omega
theorem q_sum_left {p q : Rat} (h : qn p ≠ qn q) (hle : qt q * qd p ≤ qt p * qd q) : ratN (qn p) (qt p * qd q - qt q * qd p) (qd p * qd q) = p + q := by
  rw [Rat.add_def']
  unfold ratN
  rw [q_num p, q_num q]
  show mkRat _ (p.den * q.den) = _
  congr 1
  rw [Int.ofNat_sub hle]
  unfold qd
  unfold qd at hle
  rw [Int.natCast_mul, Int.natCast_mul]
  revert h
  cases qn p <;> cases qn q <;> intro h
  · exact absurd rfl h
  · rw [if_neg (by simp), if_neg (by simp), if_pos rfl, Int.neg_mul]; omega
  · rw [if_pos rfl, if_pos rfl, if_neg (by simp), Int.neg_mul]; omega
  · exact absurd rfl h
theorem q_sum_right {p q : Rat} (h : qn p ≠ qn q) (hle : qt p * qd q ≤ qt q * qd p) : ratN (qn q) (qt q * qd p - qt p * qd q) (qd p * qd q) = p + q := by
  rw [Rat.add_comm, Nat.mul_comm (qd p)]
  exact q_sum_left (fun e => h e.symm) hle
theorem q_mul (p q : Rat) : ratN (qn p != qn q) (qt p * qt q) (qd p * qd q) = p * q := by
  rw [Rat.mul_def']
  unfold ratN
  rw [q_num p, q_num q]
  show mkRat _ (p.den * q.den) = _
  congr 1
  rw [Int.natCast_mul]
  cases qn p <;> cases qn q
  · rfl
  · exact (Int.mul_neg _ _).symm
  · exact (Int.neg_mul _ _).symm
  · exact (Int.neg_mul_neg _ _).symm
theorem q_neg_t (p : Rat) : qt (-p) = qt p := by unfold qt; rw [Rat.neg_num, Int.natAbs_neg]
theorem q_neg_d (p : Rat) : qd (-p) = qd p := rfl
theorem q_neg_n (p : Rat) : qn (-p) = (!qn p && decide (0 < qt p)) := by
  unfold qn qt; rw [Rat.neg_num]
  by_cases h1 : p.num < 0
  · simp [h1]; omega
  · by_cases h2 : p.num = 0
    · simp [h2]
    · have h3 : 0 < p.num := by omega
      simp [h1, h2]; exact h3
theorem ratN_facts (neg : Bool) (n d : Nat) (hd : d ≠ 0) : qn (ratN neg n d) = (neg && decide (0 < n / Nat.gcd n d)) ∧ qt (ratN neg n d) = n / Nat.gcd n d ∧ qd (ratN neg n d) = d / Nat.gcd n d := ⟨ratN_n _ _ _ hd, ratN_t _ _ _ hd, ratN_d _ _ _ hd⟩
/-- a fraction that is sound is a rational number -/
theorem q_of {neg : Bool} {n d : Nat} (hd : d ≠ 0) (hg : Nat.gcd n d = 1) (h0 : n = 0 → neg = false) : ∃ q : Rat, qn q = neg ∧ qt q = n ∧ qd q = d := by
  refine ⟨ratN neg n d, ?_, ?_, ?_⟩
  · rw [ratN_n _ _ _ hd, hg, Nat.div_one]
    cases neg
    · rfl
    · have : n ≠ 0 := fun h => by have := h0 h; cases this
      rw [decide_eq_true (by omega)]; rfl
  · rw [ratN_t _ _ _ hd, hg, Nat.div_one]
  · rw [ratN_d _ _ _ hd, hg, Nat.div_one]
theorem q_inv_t {q : Rat} (h : qn q = false) (h0 : qt q ≠ 0) : qt q⁻¹ = qd q ∧ qd q⁻¹ = qt q ∧ qn q⁻¹ = false := by
  have hn : q.num = (qt q : Int) := by rw [q_num, h]; rfl
  have e : q⁻¹ = ratN false (qd q) (qt q) := by
    rw [Rat.inv_def, hn, Rat.divInt_ofNat]; rfl
  have hg : Nat.gcd (qd q) (qt q) = 1 := by rw [Nat.gcd_comm]; exact q_cop q
  rw [e, ratN_t _ _ _ h0, ratN_d _ _ _ h0, ratN_n _ _ _ h0, hg, Nat.div_one, Nat.div_one]
  exact ⟨rfl, rfl, rfl⟩
theorem qt_zero {q : Rat} : qt q = 0 ↔ q = 0 := by
  unfold qt; rw [Int.natAbs_eq_zero]; exact Rat.num_eq_zero
theorem qn_iff {q : Rat} : qn q = true ↔ q < 0 := by
  unfold qn; rw [decide_eq_true_eq, Rat.lt_iff]; simp
/-- whole numbers -/
theorem qt_int (i : Int) : qt (i : Rat) = i.natAbs := rfl
theorem qd_int (i : Int) : qd (i : Rat) = 1 := rfl
theorem qn_int (i : Int) : qn (i : Rat) = decide (i < 0) := rfl
theorem ratN_whole (neg : Bool) (n : Nat) : ratN neg n 1 = ((if neg = true then -(n : Int) else (n : Int) : Int) : Rat) := by
  unfold ratN
  exact Rat.mkRat_one _
/-- words -/
theorem digs_mono {a b : Nat} (h : a ≤ b) : (digs a).length ≤ (digs b).length := by
  rw [digs_len_le]
  exact Nat.lt_of_le_of_lt h (digs_len_le.1 (Nat.le_refl _))
theorem digs_mul (a b : Nat) : (digs (a * b)).length ≤ (digs a).length + (digs b).length := by
  rw [digs_len_le, Wp_add]
  have ha := digs_len_le.1 (Nat.le_refl (digs a).length)
  have hb := digs_len_le.1 (Nat.le_refl (digs b).length)
  exact Nat.mul_lt_mul'' ha hb
theorem digs_add {a b k : Nat} (ha : (digs a).length ≤ k) (hb : (digs b).length ≤ k) : (digs (a + b)).length ≤ k + 1 := by
  rw [digs_len_le, Wp_succ]
  have h1 := digs_len_le.1 ha
  have h2 := digs_len_le.1 hb
  have := Wp_pos k
  omega
theorem qw_ratN (neg : Bool) (n d : Nat) (hd : d ≠ 0) {k : Nat} (h1 : (digs n).length ≤ k) (h2 : (digs d).length ≤ k) : qw (ratN neg n d) ≤ k := by
  unfold qw
  rw [ratN_t _ _ _ hd, ratN_d _ _ _ hd]
  have := digs_mono (Nat.div_le_self n (Nat.gcd n d))
  have := digs_mono (Nat.div_le_self d (Nat.gcd n d))
  omega
theorem qw_t (q : Rat) : (digs (qt q)).length ≤ qw q := Nat.le_max_left ..
theorem qw_d (q : Rat) : (digs (qd q)).length ≤ qw q := Nat.le_max_right ..
theorem qw_neg (q : Rat) : qw (-q) = qw q := by unfold qw; rw [q_neg_t, q_neg_d]
theorem qw_mul (p q : Rat) : qw (p * q) ≤ qw p + qw q := by
  rw [← q_mul]
  refine qw_ratN _ _ _ (Nat.mul_ne_zero (qd_pos p) (qd_pos q)) ?_ ?_
  · have := digs_mul (qt p) (qt q); have := qw_t p; have := qw_t q; omega
  · have := digs_mul (qd p) (qd q); have := qw_d p; have := qw_d q; omega
theorem q_xy (p q : Rat) : (digs (qt p * qd q)).length ≤ qw p + qw q := by
  have := digs_mul (qt p) (qd q); have := qw_t p; have := qw_d q; omega
theorem q_bb (p q : Rat) : (digs (qd p * qd q)).length ≤ qw p + qw q := by
  have := digs_mul (qd p) (qd q); have := qw_d p; have := qw_d q; omega
theorem qw_add (p q : Rat) : qw (p + q) ≤ qw p + qw q + 1 := by
  have hd := Nat.mul_ne_zero (qd_pos p) (qd_pos q)
  have h1 := q_xy p q
  have h2 := q_xy q p
  have h3 := q_bb p q
  by_cases h : qn p = qn q
  · rw [← q_sum_same h]
    exact qw_ratN _ _ _ hd (digs_add h1 (by omega)) (by omega)
  · rcases Nat.le_total (qt q * qd p) (qt p * qd q) with hl | hl
    · rw [← q_sum_left h hl]
      refine qw_ratN _ _ _ hd ?_ (by omega)
      have := digs_mono (Nat.sub_le (qt p * qd q) (qt q * qd p)); omega
    · rw [← q_sum_right h hl]
      refine qw_ratN _ _ _ hd ?_ (by omega)
      have := digs_mono (Nat.sub_le (qt q * qd p) (qt p * qd q)); omega
/-- order -/
def cmpQ (p q : Rat) : Int := if qn (p + -q) = true then -1 else if 0 < qt (p + -q) then 1 else 0
theorem q_sub (p q : Rat) : p + -q = p - q := (Rat.sub_eq_add_neg p q).symm
end Go.Proofs.Ytabcnpcfknlmlaa
