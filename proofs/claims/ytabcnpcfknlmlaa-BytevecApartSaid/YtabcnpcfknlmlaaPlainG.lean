/- The plain arithmetic of long division: the estimate of a digit, from the words. -/
import Derived.Test.YtabcnpcfknlmlaaPlainF
namespace Go.Proofs.Ytabcnpcfknlmlaa

theorem wd_zero_of {l : List Nat} {k t : Nat} (hb : B32 l) (h : val l < Wp k) (ht : k ≤ t) : wd l t = 0 := by
  rw [wd_val hb, Nat.div_eq_of_lt (Nat.lt_of_lt_of_le h (Wp_mono ht))]
theorem val_take_of {l : List Nat} {k : Nat} (hb : B32 l) (h : val l < Wp k) : val (l.take k) = val l := by
  by_cases hk : l.length ≤ k
  · exact val_take_all hk
  · have h1 := val_take_drop l k (by omega)
    have h2 : val (l.drop k) = 0 := by
      have : l.drop k = List.replicate (l.length - k) 0 := by
        refine wd_ext (by simp) fun t ht => ?_
        rw [wd_replicate, wd_drop, wd_zero_of hb h (by omega)]
      rw [this, val_replicate]
    rw [h2] at h1; omega
/-- a number of at most p + 3 words by its three highest -/
theorem three_top {l : List Nat} {p : Nat} (hb : B32 l) (h : val l < Wp (p + 3)) :
    ∃ low, low < Wp p ∧ val l = low + ((wd l (p + 2) * 4294967296 + wd l (p + 1)) * 4294967296 + wd l p) * Wp p := by
  refine ⟨val (l.take p), val_take_lt hb p, ?_⟩
  rw [← val_take_of hb h, val_take_succ', val_take_succ', val_take_succ', Wp_succ (p + 1), Wp_succ p]
  generalize wd l (p + 2) = x
  generalize wd l (p + 1) = y
  generalize wd l p = z
  rw [Nat.add_mul, Nat.add_mul, Nat.add_mul]
  have e1 : y * (4294967296 * Wp p) = y * 4294967296 * Wp p := by rw [Nat.mul_assoc]
  have e2 : x * (4294967296 * (4294967296 * Wp p)) = x * 4294967296 * 4294967296 * Wp p := by rw [← Nat.mul_assoc, ← Nat.mul_assoc]
  rw [e1, e2]
  omega
theorem two_top {l : List Nat} {p : Nat} (hb : B32 l) (h : l.length = p + 2) : ∃ low, low < Wp p ∧ val l = low + (wd l (p + 1) * 4294967296 + wd l p) * Wp p := by
  refine ⟨val (l.take p), val_take_lt hb p, ?_⟩
  rw [← val_take_all (l := l) (k := p + 2) (by omega), val_take_succ', val_take_succ', Wp_succ, Nat.add_mul]
  have e1 : wd l (p + 1) * (4294967296 * Wp p) = wd l (p + 1) * 4294967296 * Wp p := by rw [Nat.mul_assoc]
  rw [e1]
  omega

/-- what is known of a digit's estimate: X is what is left from the place j on, d the divisor -/
structure Est (X d top u2 v1 v2 P : Nat) : Prop where
  hi : X < (top * 4294967296 + u2 + 1) * P
  lo : (top * 4294967296 + u2) * P ≤ X
  dlo : (v1 * 4294967296 + v2) * P ≤ d
  dhi : d ≤ (v1 * 4294967296 + v2 + 1) * P
  top : top ≤ v1 * 4294967296 + 4294967295
  v1 : 2147483648 ≤ v1
  v2 : v2 < 4294967296
  XW : X < 4294967296 * d
  u2 : u2 < 4294967296

theorem low_lt {low P T : Nat} (h : low < P) : low + T * P < (T + 1) * P := by rw [Nat.add_mul, Nat.one_mul]; omega
theorem est_of {u d : List Nat} {j p : Nat} (hu : B32 u) (hd : B32 d) (hl : d.length = p + 2) (h1 : 2147483648 ≤ wd d (p + 1)) (hX : val (u.drop j) < 4294967296 * val d) (hI : val (u.drop (j + 1)) < val d) :
    Est (val (u.drop j)) (val d) (wd u (j + (p + 2)) * 4294967296 + wd u (j + (p + 1))) (wd u (j + p)) (wd d (p + 1)) (wd d p) (Wp p) := by
  have hdl := val_lt hd
  rw [hl] at hdl
  have hbu : B32 (u.drop j) := B32_drop hu j
  obtain ⟨lowd, hld, ed⟩ := two_top hd hl
  have hXW : val (u.drop j) < Wp (p + 3) := by
    have := Nat.mul_le_mul_left 4294967296 (Nat.le_of_lt hdl)
    rw [Wp_succ]; omega
  obtain ⟨low, hlo, eX⟩ := three_top hbu hXW
  rw [wd_drop, wd_drop, wd_drop] at eX
  -- the highest word is at most the divisor's
  have htop : wd u (j + (p + 2)) ≤ wd d (p + 1) := by
    have hbu1 : B32 (u.drop (j + 1)) := B32_drop hu _
    have a1 := val_take_of hbu1 (Nat.lt_trans hI hdl)
    have a2 := val_take_succ' (u.drop (j + 1)) (p + 1)
    rw [a1, wd_drop, show j + 1 + (p + 1) = j + (p + 2) by omega] at a2
    have a3 : val d < (wd d (p + 1) + 1) * Wp (p + 1) := by
      have b1 := val_take_succ' d (p + 1)
      rw [val_take_all (by omega)] at b1
      have b2 := val_take_lt hd (p + 1)
      rw [Nat.add_mul]; omega
    have a4 : wd u (j + (p + 2)) * Wp (p + 1) < (wd d (p + 1) + 1) * Wp (p + 1) := by omega
    have := Nat.lt_of_mul_lt_mul_right a4
    omega
  have hx1 := wd_lt hu (j + (p + 1))
  have hx2 := wd_lt hu (j + p)
  have hv2 := wd_lt hd p
  generalize wd u (j + (p + 2)) = x0 at *
  generalize wd u (j + (p + 1)) = x1 at *
  generalize wd u (j + p) = x2 at *
  generalize wd d (p + 1) = v1 at *
  generalize wd d p = v2 at *
  refine ⟨?_, ?_, ?_, ?_, by omega, h1, hv2, hX, hx2⟩
  · rw [eX]; exact low_lt hlo
  · omega
  · omega
  · rw [ed]; exact Nat.le_of_lt (low_lt hld)

theorem Es_t0 {top v1 q r : Nat} (e : v1 * q + r = top) (hv : 2147483648 ≤ v1) (ht : top ≤ v1 * 4294967296 + 4294967295) : q ≤ 4294967297 := by
  rcases Nat.lt_or_ge 4294967297 q with h3 | h3
  · have h4 : v1 * 4294967298 ≤ v1 * q := Nat.mul_le_mul_left _ h3
    omega
  · exact h3
/-- the estimate's state -/
def Es (X d top v1 t r : Nat) : Prop := t * v1 + r = top ∧ X < (t + 1) * d
theorem Es_start {X d top u2 v1 v2 P : Nat} (E : Est X d top u2 v1 v2 P) : Es X d top v1 (top / v1) (top % v1) ∧ top / v1 ≤ 4294967297 ∧ top % v1 < v1 := by
  have hv := E.v1
  have e := Nat.div_add_mod top v1
  refine ⟨⟨by rw [Nat.mul_comm]; exact e, ?_⟩, ?_, Nat.mod_lt _ (by omega)⟩
  · refine est_start (P := 4294967296 * P) ?_ ?_ (by omega)
    · have := E.hi
      have h2 : (top * 4294967296 + u2 + 1) * P ≤ ((top + 1) * 4294967296) * P := Nat.mul_le_mul_right _ (by have := E.u2; omega)
      rw [← Nat.mul_assoc]
      omega
    · have := E.dlo
      rw [Nat.add_mul] at this
      rw [← Nat.mul_assoc]; omega
  · have ht := E.top
    have hm := Nat.mod_lt top (show v1 > 0 by omega)
    exact Es_t0 e hv ht
theorem Es_dec {X d top u2 v1 v2 P t r : Nat} (E : Est X d top u2 v1 v2 P) (h : Es X d top v1 t r) (hc : 4294967295 < t ∨ r * 4294967296 + u2 < t * v2) : 1 ≤ t ∧ Es X d top v1 (t - 1) (r + v1) := by
  have ht : 1 ≤ t := by
    rcases Nat.eq_zero_or_pos t with h0 | h0
    · subst h0; simp at hc
    · exact h0
  have h1 : X < t * d := by
    rcases hc with hc | hc
    · have h2 := E.XW
      have : 4294967296 * d ≤ t * d := Nat.mul_le_mul_right _ (by omega)
      omega
    · exact est_dec E.hi E.dlo h.1 hc
  obtain ⟨s, rfl⟩ : ∃ s, t = s + 1 := ⟨t - 1, by omega⟩
  refine ⟨ht, ?_, by rw [Nat.add_sub_cancel]; exact h1⟩
  have h3 := h.1
  rw [Nat.add_sub_cancel]
  rw [Nat.add_mul, Nat.one_mul] at h3; omega
/-- a digit as it leaves the estimate -/
def Dg (X d t : Nat) : Prop := t ≤ 4294967295 ∧ X < (t + 1) * d ∧ (t - 1) * d ≤ X
theorem Es_end {X d top u2 v1 v2 P t r : Nat} (E : Est X d top u2 v1 v2 P) (h : Es X d top v1 t r) (ht : t ≤ 4294967295) (hc : t * v2 ≤ r * 4294967296 + u2) : Dg X d t :=
  ⟨ht, h.2, est_end E.lo E.dhi h.1 ht (by have := E.v1; omega) hc⟩
theorem Es_brk {X d top u2 v1 v2 P t r : Nat} (E : Est X d top u2 v1 v2 P) (h : Es X d top v1 t r) (hb : 4294967296 ≤ r) : Dg X d t := by
  obtain ⟨h1, h2⟩ := est_brk (u2 := u2) h.1 E.top (by have := E.v1; omega) E.v2 hb
  exact Es_end E h h1 h2
theorem Es_t {X d top v1 t r : Nat} (h : Es X d top v1 t r) (hv : 2147483648 ≤ v1) (ht : top ≤ v1 * 4294967296 + 4294967295) : t ≤ 4294967297 :=
  Es_t0 (by have := h.1; rw [Nat.mul_comm]; exact this) hv ht

def tq (top v1 : Nat) : Nat := top / v1
def tr (top v1 : Nat) : Nat := top % v1
def tv (t v2 : Nat) : Nat := t * v2
def rw2 (r u2 : Nat) : Nat := r * 4294967296 + u2
theorem tv_le {t v2 : Nat} (ht : t ≤ 4294967295) (hv : v2 < 4294967296) : tv t v2 ≤ 18446744065119617025 := Nat.mul_le_mul ht (show v2 ≤ 4294967295 by omega)
end Go.Proofs.Ytabcnpcfknlmlaa
