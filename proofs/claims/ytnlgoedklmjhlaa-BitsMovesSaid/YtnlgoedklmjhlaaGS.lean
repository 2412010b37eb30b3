/- Merged texts: EyF, EyG, EyH, EyI, EyJ. -/
import Derived.Test.YtnlgoedklmjhlaaHP
import Derived.Test.YtnlgoedklmjhlaaGH
import Derived.Test.YtnlgoedklmjhlaaGF
namespace Go.Proofs.Ytnlgoedklmjhlaa

theorem mul_cop {p q : Rat} (h : Nat.gcd (qt p * qt q) (qd p * qd q) = 1) :
    qt (p * q) = qt p * qt q ∧ qd (p * q) = qd p * qd q ∧ qn (p * q) = ((qn p != qn q) && decide (0 < qt p * qt q)) := by
  have hd : qd p * qd q ≠ 0 := Nat.mul_ne_zero (qd_pos p) (qd_pos q)
  obtain ⟨h1, h2, h3⟩ := ratN_facts (qn p != qn q) (qt p * qt q) (qd p * qd q) hd
  rw [q_mul, h, Nat.div_one] at h1 h2
  rw [q_mul, h, Nat.div_one] at h3
  exact ⟨h2, h3, h1⟩
/-- a real number's powers -/
def rp (x : Rat) : Nat → Rat
  | 0 => 1
  | k + 1 => rp x k * x
theorem rp_facts (x : Rat) (k : Nat) : qt (rp x k) = qt x ^ k ∧ qd (rp x k) = qd x ^ k ∧ qn (rp x k) = (qn x && decide (k % 2 = 1)) := by
  induction k with
  | zero => exact ⟨rfl, rfl, by simp [rp]; rfl⟩
  | succ k ih =>
    obtain ⟨h1, h2, h3⟩ := ih
    have hc : Nat.gcd (qt (rp x k) * qt x) (qd (rp x k) * qd x) = 1 := by
      rw [h1, h2, ← Nat.pow_succ, ← Nat.pow_succ]
      exact Nat.Coprime.pow _ _ (q_cop x)
    obtain ⟨m1, m2, m3⟩ := mul_cop hc
    refine ⟨by show qt (rp x k * x) = _; rw [m1, h1, Nat.pow_succ], by show qd (rp x k * x) = _; rw [m2, h2, Nat.pow_succ], ?_⟩
    show qn (rp x k * x) = _
    rw [m3, h1, h3, ← Nat.pow_succ]
    by_cases h0 : qt x = 0
    · rw [qn_zero h0, h0]
      simp
    · have hp : 0 < qt x ^ (k + 1) := Nat.pow_pos (Nat.pos_of_ne_zero h0)
      rw [decide_eq_true hp]
      cases qn x
      · simp
      · rcases Nat.mod_two_eq_zero_or_one k with h | h
        · have e : (k + 1) % 2 = 1 := by omega
          simp [h, e]
        · have e : (k + 1) % 2 = 0 := by omega
          simp [h, e]
theorem q_inv_s {q : Rat} (h0 : qt q ≠ 0) : qt q⁻¹ = qd q ∧ qd q⁻¹ = qt q ∧ qn q⁻¹ = qn q := by
  cases h : qn q with
  | false => exact q_inv_t h h0
  | true =>
    have hn : qn (-q) = false := by rw [q_neg_n, h]; rfl
    have ht : qt (-q) ≠ 0 := by rw [q_neg_t]; exact h0
    obtain ⟨h1, h2, h3⟩ := q_inv_t hn ht
    have e : q⁻¹ = -(-q)⁻¹ := by
      have hq : q ≠ 0 := fun h => h0 (by rw [h]; rfl)
      have hm : -q ≠ 0 := fun h => hq (by grind)
      have e1 : q * q⁻¹ = 1 := by grind
      have e2 : -q * (-q)⁻¹ = 1 := by grind
      grind
    rw [e]
    refine ⟨by rw [q_neg_t, h1, q_neg_d], by rw [q_neg_d, h2, q_neg_t], ?_⟩
    rw [q_neg_n, h3, h1]
    have := qd_pos (-q)
    simp only [Bool.not_false, Bool.true_and, decide_eq_true_eq]
    omega
/-- a product of two numbers -/
def cmul (p q : Rat × Rat) : Rat × Rat := (p.1 * q.1 + -(p.2 * q.2), p.1 * q.2 + p.2 * q.1)
/-- a number's powers -/
def cpow (x y : Rat) : Nat → Rat × Rat
  | 0 => (1, 0)
  | k + 1 => cmul (cpow x y k) (x, y)
/-- one over a number -/
def invQ (p : Rat × Rat) : Rat × Rat := (p.1 * (p.1 * p.1 + p.2 * p.2)⁻¹, -p.2 * (p.1 * p.1 + p.2 * p.2)⁻¹)
theorem cpow_one (x y : Rat) : cpow x y 1 = (x, y) := by
  show cmul (1, 0) (x, y) = _
  unfold cmul
  refine Prod.ext ?_ ?_ <;> grind
theorem cpow_real (x : Rat) (k : Nat) : cpow x 0 k = (rp x k, 0) := by
  induction k with
  | zero => rfl
  | succ k ih =>
    show cmul (cpow x 0 k) (x, 0) = _
    rw [ih]
    refine Prod.ext ?_ ?_
    · show rp x k * x + -(0 * 0) = rp x k * x
      grind
    · show rp x k * 0 + 0 * x = 0
      grind
theorem inv_real (p : Rat) : invQ (p, 0) = (p⁻¹, 0) := by
  unfold invQ
  refine Prod.ext ?_ ?_
  · show p * (p * p + 0 * 0)⁻¹ = p⁻¹
    grind
  · show -0 * (p * p + 0 * 0)⁻¹ = 0
    grind
theorem cpow_add (x y : Rat) (i j : Nat) : cmul (cpow x y i) (cpow x y j) = cpow x y (i + j) := by
  induction j with
  | zero =>
    show cmul (cpow x y i) (1, 0) = cpow x y i
    unfold cmul
    refine Prod.ext ?_ ?_ <;> grind
  | succ j ih =>
    show cmul (cpow x y i) (cmul (cpow x y j) (x, y)) = cmul (cpow x y (i + j)) (x, y)
    rw [← ih]
    unfold cmul
    refine Prod.ext ?_ ?_ <;> grind
theorem norm_mul (p q : Rat × Rat) : (cmul p q).1 * (cmul p q).1 + (cmul p q).2 * (cmul p q).2 = (p.1 * p.1 + p.2 * p.2) * (q.1 * q.1 + q.2 * q.2) := by
  unfold cmul
  grind
theorem sq_sum {x y : Rat} (h : x * x + y * y = 0) : x = 0 ∧ y = 0 := by
  have h1 : 0 ≤ x * x := by
    rcases Rat.le_total (a := 0) (b := x) with h | h
    · exact Rat.mul_nonneg h h
    · have h' : 0 ≤ -x := by grind
      have := Rat.mul_nonneg h' h'
      grind
  have h2 : 0 ≤ y * y := by
    rcases Rat.le_total (a := 0) (b := y) with h | h
    · exact Rat.mul_nonneg h h
    · have h' : 0 ≤ -y := by grind
      have := Rat.mul_nonneg h' h'
      grind
  have h3 : x * x = 0 := by grind
  have h4 : y * y = 0 := by grind
  exact ⟨by grind, by grind⟩
theorem cpow_ne {x y : Rat} (h : ¬ (x = 0 ∧ y = 0)) (k : Nat) : ¬ ((cpow x y k).1 = 0 ∧ (cpow x y k).2 = 0) := by
  induction k with
  | zero => intro h0; have h1 : (1 : Rat) = 0 := h0.1; grind
  | succ k ih =>
    intro h0
    have h1 := norm_mul (cpow x y k) (x, y)
    have e1 : (cmul (cpow x y k) (x, y)).1 = 0 := h0.1
    have e2 : (cmul (cpow x y k) (x, y)).2 = 0 := h0.2
    rw [e1, e2] at h1
    have h2 : ((cpow x y k).1 * (cpow x y k).1 + (cpow x y k).2 * (cpow x y k).2) * (x * x + y * y) = 0 := by rw [← h1]; grind
    have h3 : x * x + y * y ≠ 0 := fun e => h (sq_sum e)
    have h4 : (cpow x y k).1 * (cpow x y k).1 + (cpow x y k).2 * (cpow x y k).2 = 0 := by grind
    exact ih (sq_sum h4)
theorem mul_inv {p : Rat × Rat} (h : ¬ (p.1 = 0 ∧ p.2 = 0)) : cmul p (invQ p) = (1, 0) := by
  have h3 : p.1 * p.1 + p.2 * p.2 ≠ 0 := fun e => h (sq_sum e)
  unfold cmul invQ
  refine Prod.ext ?_ ?_
  · show p.1 * (p.1 * (p.1 * p.1 + p.2 * p.2)⁻¹) + -(p.2 * (-p.2 * (p.1 * p.1 + p.2 * p.2)⁻¹)) = 1
    have e : (p.1 * p.1 + p.2 * p.2) * (p.1 * p.1 + p.2 * p.2)⁻¹ = 1 := by grind
    grind
  · show p.1 * (-p.2 * (p.1 * p.1 + p.2 * p.2)⁻¹) + p.2 * (p.1 * (p.1 * p.1 + p.2 * p.2)⁻¹) = 0
    grind
/-- is a number too large? -/
def bigB (p : Rat × Rat) : Bool := !decide (qw p.1 ≤ 512 ∧ qw p.2 ≤ 512)
/-- is a power up to the k-th too large? -/
def stopB (x y : Rat) : Nat → Bool
  | 0 => false
  | k + 1 => stopB x y k || bigB (cpow x y (k + 1))
theorem stop_mono {x y : Rat} {k : Nat} (h : stopB x y k = true) (d : Nat) : stopB x y (k + d) = true := by
  induction d with
  | zero => exact h
  | succ d ih => show (stopB x y (k + d) || _) = true; rw [ih]; rfl
theorem stop_le {x y : Rat} {k m : Nat} (h : stopB x y k = true) (hk : k ≤ m) : stopB x y m = true := by
  obtain ⟨d, rfl⟩ := Nat.exists_eq_add_of_le hk
  exact stop_mono h d
theorem stop_fits {x y : Rat} {k : Nat} (h : stopB x y k = false) (hk : 0 < k) : bigB (cpow x y k) = false := by
  obtain ⟨j, rfl⟩ : ∃ j, k = j + 1 := ⟨k - 1, by omega⟩
  have h' : (stopB x y j || bigB (cpow x y (j + 1))) = false := h
  exact (Bool.or_eq_false_iff.1 h').2
theorem big_false {p : Rat × Rat} (h : bigB p = false) : qw p.1 ≤ 512 ∧ qw p.2 ≤ 512 := by
  unfold bigB at h
  simpa using h
theorem big_true {p : Rat × Rat} (h : bigB p = true) : ¬ (qw p.1 ≤ 512 ∧ qw p.2 ≤ 512) := by
  intro hq
  unfold bigB at h
  rw [decide_eq_true hq] at h
  exact absurd h (by simp)
/-- a number to a power -/
def exptQ (x y : Rat) (n : Int) : Rw × Rw × Int :=
  if n < -1024 ∨ 1024 < n then (rw0, rw0, 1) else if n = 0 then (rwq 1, rwq 0, 0) else if (x = 0 ∧ y = 0) ∧ n < 0 then (rw0, rw0, 3)
  else if stopB x y n.natAbs = true then (rw0, rw0, 4) else if n < 0 then fitQ (invQ (cpow x y n.natAbs)).1 (invQ (cpow x y n.natAbs)).2 else fitQ (cpow x y n.natAbs).1 (cpow x y n.natAbs).2
def qexptA (r i : Rw) (n : Int) : Rw × Rw × Int := if nB r i = true then exptQ (qv r) (qv i) n else (rw0, rw0, 2)
end Go.Proofs.Ytnlgoedklmjhlaa
namespace Go.Proofs.Ytnlgoedklmjhlaa
open Go.RowKit

theorem chk_ok {x y : Rat} (bx : qw x ≤ 512) (by_ : qw y ≤ 512) : chkN1 false (rwq x) (rwq y) = 0 := by
  unfold chkN1
  rw [if_pos (nB_rwq bx by_), if_neg (by simp)]


set_option maxRecDepth 100000 in
set_option maxHeartbeats 4000000 in
theorem expt_bad (V : Value) (r i : Rw) (n : Int) (w : World) (hV : VN w w.heap.size V r i) (hb : ¬ nB r i = true) :
    Calls Try.prog 28 #[V, .int .i64 n] w (RetNE w (rw0, rw0, 2)) := by
  obtain ⟨s1, a1, b1⟩ := r
  obtain ⟨s2, a2, b2⟩ := i
  obtain ⟨A1, c1, D1, d1, A2, c2, D2, d2, rfl, p1, p2, p3, p4⟩ := hV
  dsimp only at p1 p2 p3 p4
  have k0 := S2.new w [.bool s1, .slice A1 a1.length c1, .slice D1 b1.length d1, .bool s2, .slice A2 a2.length c2, .slice D2 b2.length d2] [.bool false, .slice none 0 0, .slice none 0 0, .bool false, .slice none 0 0, .slice none 0 0] 26 26 6
  have C0 := k0.2.2
  have z3 : ((w.alloc (.cells #[.bool s1, .slice A1 a1.length c1, .slice D1 b1.length d1, .bool s2, .slice A2 a2.length c2, .slice D2 b2.length d2] 26)).alloc (.cells #[.bool false, .slice none 0 0, .slice none 0 0, .bool false, .slice none 0 0, .slice none 0 0] 26)).heap.size = w.heap.size + 2 := by simp
  have Bs := bal ((w.alloc (.cells #[.bool s1, .slice A1 a1.length c1, .slice D1 b1.length d1, .bool s2, .slice A2 a2.length c2, .slice D2 b2.length d2] 26)).alloc (.cells #[.bool false, .slice none 0 0, .slice none 0 0, .bool false, .slice none 0 0, .slice none 0 0] 26)) (.cells #[.bool s1, .slice A1 a1.length c1, .slice D1 b1.length d1, .bool s2, .slice A2 a2.length c2, .slice D2 b2.length d2] 26)
  have sg := SB.new ((w.alloc (.cells #[.bool s1, .slice A1 a1.length c1, .slice D1 b1.length d1, .bool s2, .slice A2 a2.length c2, .slice D2 b2.length d2] 26)).alloc (.cells #[.bool false, .slice none 0 0, .slice none 0 0, .bool false, .slice none 0 0, .slice none 0 0] 26)) [.bool s1, .slice A1 a1.length c1, .slice D1 b1.length d1, .bool s2, .slice A2 a2.length c2, .slice D2 b2.length d2] 26
  rw [z3] at sg
  have C1 := bt C0 Bs
  have k1 := k0.nx Bs
  have hck := check1x_any false (w.heap.size + 2) _ _ _ _ _ _ _ _ _ _ _ _ _ _ _ sg (st p1 C1) (st p2 C1) (st p3 C1) (st p4 C1)
  rw [show chkN1 false ⟨s1, a1, b1⟩ ⟨s2, a2, b2⟩ = 2 by unfold chkN1; rw [if_neg hb]] at hck
  clear sg p1 p2 p3 p4 hb
  go_enter Try.func28, Try.ntmps28
  go_wp2_with fail
  refine hck.mono ?_; rintro e w3 ⟨rfl, B3⟩
  clear hck
  have k3 := k1.nx B3
  have hRC := k3.2.1
  go_wp2_with (refine wp_st6 rfl (.tmp 4) (.tmp 19) rfl _ rfl _ _ _ _ _ _ rfl hRC rfl rfl rfl rfl rfl rfl ?_)
  have s6 := hRC.put6 (.bool false) (.slice none 0 0) (.slice none 0 0) (.bool false) (.slice none 0 0) (.slice none 0 0)
  have B6 := wr6_below (b := w.heap.size + 1) k3.2.2 (by omega) (.bool false) (.slice none 0 0) (.slice none 0 0) (.bool false) (.slice none 0 0) (.slice none 0 0)
  have r0' := s6.cell 0
  have r1' := s6.cell 1
  have r2' := s6.cell 2
  have r3' := s6.cell 3
  have r4' := s6.cell 4
  have r5' := s6.cell 5
  refine bodyPost_ret (v := .tuple #[.agg #[.bool false, .slice none 0 0, .slice none 0 0, .bool false, .slice none 0 0, .slice none 0 0], .int .i64 2]) (by simp [results, r0', r1', r2', r3', r4', r5', go_sem]) rfl ?_
  exact retNE_nil 2 B6


set_option maxRecDepth 100000 in
set_option maxHeartbeats 16000000 in
theorem expt_arg (V : Value) (x y : Rat) (n : Int) (w : World) (hV : RN w w.heap.size V x y) (bx : qw x ≤ 512) (by_ : qw y ≤ 512) (hn : n < -1024 ∨ 1024 < n) :
    Calls Try.prog 28 #[V, .int .i64 n] w (RetNE w (rw0, rw0, 1)) := by
  obtain ⟨A1, c1, D1, d1, A2, c2, D2, d2, rfl, p1, p2, p3, p4⟩ := hV
  have Ha : VN w w.heap.size (.agg #[.bool (qn x), .slice A1 (digs (qt x)).length c1, .slice D1 (digs (qd x)).length d1, .bool (qn y), .slice A2 (digs (qt y)).length c2, .slice D2 (digs (qd y)).length d2]) (rwq x) (rwq y) := ⟨A1, c1, D1, d1, A2, c2, D2, d2, rfl, p1, p2, p3, p4⟩
  simp only [rwq] at p1 p2 p3 p4
  have k0 := S2.new w [.bool (qn x), .slice A1 (digs (qt x)).length c1, .slice D1 (digs (qd x)).length d1, .bool (qn y), .slice A2 (digs (qt y)).length c2, .slice D2 (digs (qd y)).length d2] [.bool false, .slice none 0 0, .slice none 0 0, .bool false, .slice none 0 0, .slice none 0 0] 26 26 6
  have C0 := k0.2.2
  have z3 : ((w.alloc (.cells #[.bool (qn x), .slice A1 (digs (qt x)).length c1, .slice D1 (digs (qd x)).length d1, .bool (qn y), .slice A2 (digs (qt y)).length c2, .slice D2 (digs (qd y)).length d2] 26)).alloc (.cells #[.bool false, .slice none 0 0, .slice none 0 0, .bool false, .slice none 0 0, .slice none 0 0] 26)).heap.size = w.heap.size + 2 := by simp
  have Bs := bal ((w.alloc (.cells #[.bool (qn x), .slice A1 (digs (qt x)).length c1, .slice D1 (digs (qd x)).length d1, .bool (qn y), .slice A2 (digs (qt y)).length c2, .slice D2 (digs (qd y)).length d2] 26)).alloc (.cells #[.bool false, .slice none 0 0, .slice none 0 0, .bool false, .slice none 0 0, .slice none 0 0] 26)) (.cells #[.bool (qn x), .slice A1 (digs (qt x)).length c1, .slice D1 (digs (qd x)).length d1, .bool (qn y), .slice A2 (digs (qt y)).length c2, .slice D2 (digs (qd y)).length d2] 26)
  have sg := SB.new ((w.alloc (.cells #[.bool (qn x), .slice A1 (digs (qt x)).length c1, .slice D1 (digs (qd x)).length d1, .bool (qn y), .slice A2 (digs (qt y)).length c2, .slice D2 (digs (qd y)).length d2] 26)).alloc (.cells #[.bool false, .slice none 0 0, .slice none 0 0, .bool false, .slice none 0 0, .slice none 0 0] 26)) [.bool (qn x), .slice A1 (digs (qt x)).length c1, .slice D1 (digs (qd x)).length d1, .bool (qn y), .slice A2 (digs (qt y)).length c2, .slice D2 (digs (qd y)).length d2] 26
  rw [z3] at sg
  have C1 := bt C0 Bs
  have k1 := k0.nx Bs
  have hck := check1x_any false (w.heap.size + 2) _ _ _ _ _ _ _ _ _ _ _ _ _ _ _ sg (st p1 C1) (st p2 C1) (st p3 C1) (st p4 C1)
  rw [show chkN1 false ⟨qn x, digs (qt x), digs (qd x)⟩ ⟨qn y, digs (qt y), digs (qd y)⟩ = 0 from chk_ok bx by_] at hck
  clear sg
  clear Ha p1 p2 p3 p4 bx by_
  by_cases h1 : n < -1024
  · clear hn
    go_enter Try.func28, Try.ntmps28
    go_wp2_with fail
    refine hck.mono ?_; rintro e w3 ⟨rfl, B3⟩
    clear hck
    have k3 := k1.nx B3
    have hRC := k3.2.1
    go_wp2_with (refine wp_st6 rfl (.tmp 4) (.tmp 28) rfl _ rfl _ _ _ _ _ _ rfl hRC rfl rfl rfl rfl rfl rfl ?_)
    have s6 := hRC.put6 (.bool false) (.slice none 0 0) (.slice none 0 0) (.bool false) (.slice none 0 0) (.slice none 0 0)
    have B6 := wr6_below (b := w.heap.size + 1) k3.2.2 (by omega) (.bool false) (.slice none 0 0) (.slice none 0 0) (.bool false) (.slice none 0 0) (.slice none 0 0)
    have r0' := s6.cell 0
    have r1' := s6.cell 1
    have r2' := s6.cell 2
    have r3' := s6.cell 3
    have r4' := s6.cell 4
    have r5' := s6.cell 5
    refine bodyPost_ret (v := .tuple #[.agg #[.bool false, .slice none 0 0, .slice none 0 0, .bool false, .slice none 0 0, .slice none 0 0], .int .i64 1]) (by simp [results, r0', r1', r2', r3', r4', r5', go_sem]) rfl ?_
    exact retNE_nil 1 B6
  · have h2 : 1024 < n := by omega
    clear hn
    go_enter Try.func28, Try.ntmps28
    go_wp2_with fail
    refine hck.mono ?_; rintro e w3 ⟨rfl, B3⟩
    clear hck
    have k3 := k1.nx B3
    have hRC := k3.2.1
    go_wp2_with (refine wp_st6 rfl (.tmp 4) (.tmp 28) rfl _ rfl _ _ _ _ _ _ rfl hRC rfl rfl rfl rfl rfl rfl ?_)
    have s6 := hRC.put6 (.bool false) (.slice none 0 0) (.slice none 0 0) (.bool false) (.slice none 0 0) (.slice none 0 0)
    have B6 := wr6_below (b := w.heap.size + 1) k3.2.2 (by omega) (.bool false) (.slice none 0 0) (.slice none 0 0) (.bool false) (.slice none 0 0) (.slice none 0 0)
    have r0' := s6.cell 0
    have r1' := s6.cell 1
    have r2' := s6.cell 2
    have r3' := s6.cell 3
    have r4' := s6.cell 4
    have r5' := s6.cell 5
    refine bodyPost_ret (v := .tuple #[.agg #[.bool false, .slice none 0 0, .slice none 0 0, .bool false, .slice none 0 0, .slice none 0 0], .int .i64 1]) (by simp [results, r0', r1', r2', r3', r4', r5', go_sem]) rfl ?_
    exact retNE_nil 1 B6


set_option maxRecDepth 100000 in
set_option maxHeartbeats 16000000 in
theorem expt_one (V : Value) (x y : Rat) (w : World) (hV : RN w w.heap.size V x y) (bx : qw x ≤ 512) (by_ : qw y ≤ 512) :
    Calls Try.prog 28 #[V, .int .i64 0] w (RetNE w (rwq 1, rwq 0, 0)) := by
  obtain ⟨A1, c1, D1, d1, A2, c2, D2, d2, rfl, p1, p2, p3, p4⟩ := hV
  have Ha : VN w w.heap.size (.agg #[.bool (qn x), .slice A1 (digs (qt x)).length c1, .slice D1 (digs (qd x)).length d1, .bool (qn y), .slice A2 (digs (qt y)).length c2, .slice D2 (digs (qd y)).length d2]) (rwq x) (rwq y) := ⟨A1, c1, D1, d1, A2, c2, D2, d2, rfl, p1, p2, p3, p4⟩
  simp only [rwq] at p1 p2 p3 p4
  have k0 := S2.new w [.bool (qn x), .slice A1 (digs (qt x)).length c1, .slice D1 (digs (qd x)).length d1, .bool (qn y), .slice A2 (digs (qt y)).length c2, .slice D2 (digs (qd y)).length d2] [.bool false, .slice none 0 0, .slice none 0 0, .bool false, .slice none 0 0, .slice none 0 0] 26 26 6
  have C0 := k0.2.2
  have z3 : ((w.alloc (.cells #[.bool (qn x), .slice A1 (digs (qt x)).length c1, .slice D1 (digs (qd x)).length d1, .bool (qn y), .slice A2 (digs (qt y)).length c2, .slice D2 (digs (qd y)).length d2] 26)).alloc (.cells #[.bool false, .slice none 0 0, .slice none 0 0, .bool false, .slice none 0 0, .slice none 0 0] 26)).heap.size = w.heap.size + 2 := by simp
  have Bs := bal ((w.alloc (.cells #[.bool (qn x), .slice A1 (digs (qt x)).length c1, .slice D1 (digs (qd x)).length d1, .bool (qn y), .slice A2 (digs (qt y)).length c2, .slice D2 (digs (qd y)).length d2] 26)).alloc (.cells #[.bool false, .slice none 0 0, .slice none 0 0, .bool false, .slice none 0 0, .slice none 0 0] 26)) (.cells #[.bool (qn x), .slice A1 (digs (qt x)).length c1, .slice D1 (digs (qd x)).length d1, .bool (qn y), .slice A2 (digs (qt y)).length c2, .slice D2 (digs (qd y)).length d2] 26)
  have sg := SB.new ((w.alloc (.cells #[.bool (qn x), .slice A1 (digs (qt x)).length c1, .slice D1 (digs (qd x)).length d1, .bool (qn y), .slice A2 (digs (qt y)).length c2, .slice D2 (digs (qd y)).length d2] 26)).alloc (.cells #[.bool false, .slice none 0 0, .slice none 0 0, .bool false, .slice none 0 0, .slice none 0 0] 26)) [.bool (qn x), .slice A1 (digs (qt x)).length c1, .slice D1 (digs (qd x)).length d1, .bool (qn y), .slice A2 (digs (qt y)).length c2, .slice D2 (digs (qd y)).length d2] 26
  rw [z3] at sg
  have C1 := bt C0 Bs
  have k1 := k0.nx Bs
  have hck := check1x_any false (w.heap.size + 2) _ _ _ _ _ _ _ _ _ _ _ _ _ _ _ sg (st p1 C1) (st p2 C1) (st p3 C1) (st p4 C1)
  rw [show chkN1 false ⟨qn x, digs (qt x), digs (qd x)⟩ ⟨qn y, digs (qt y), digs (qd y)⟩ = 0 from chk_ok bx by_] at hck
  clear sg
  clear Ha p1 p2 p3 p4 bx by_
  have hI := fun w' => int_any 1 w' (by omega) (by omega)
  rw [show ((1 : Int) : Rat) = 1 from rfl] at hI
  generalize rwq 1 = u1 at *
  generalize rwq 0 = u0 at *
  go_enter Try.func28, Try.ntmps28
  go_wp2_with fail
  refine hck.mono ?_; rintro e w3 ⟨rfl, B3⟩
  clear hck
  have k3 := k1.nx B3
  go_wp2_with fail
  refine (hI _).mono ?_; rintro e w5 ⟨A5, c5, D5, d5, A6, c6, D6, d6, rfl, O1, O2, O3, O4, B5⟩
  have sz := k3.2.1.2
  have k5 := k3.nx B5
  have hRC := k5.2.1
  go_wp2_with (refine wp_st6 rfl (.tmp 4) (.tmp 32) rfl _ rfl _ _ _ _ _ _ rfl hRC rfl rfl rfl rfl rfl rfl ?_)
  have s6 := hRC.put6 (.bool u1.s) (.slice A5 u1.a.length c5) (.slice D5 u1.b.length d5) (.bool u0.s) (.slice A6 u0.a.length c6) (.slice D6 u0.b.length d6)
  have B6 := wr6_below (b := w.heap.size + 1) k5.2.2 (by omega) (.bool u1.s) (.slice A5 u1.a.length c5) (.slice D5 u1.b.length d5) (.bool u0.s) (.slice A6 u0.a.length c6) (.slice D6 u0.b.length d6)
  have O1 := O1.put6 (b := w.heap.size + 1) sz (.bool u1.s) (.slice A5 u1.a.length c5) (.slice D5 u1.b.length d5) (.bool u0.s) (.slice A6 u0.a.length c6) (.slice D6 u0.b.length d6)
  have O2 := O2.put6 (b := w.heap.size + 1) sz (.bool u1.s) (.slice A5 u1.a.length c5) (.slice D5 u1.b.length d5) (.bool u0.s) (.slice A6 u0.a.length c6) (.slice D6 u0.b.length d6)
  have O3 := O3.put6 (b := w.heap.size + 1) sz (.bool u1.s) (.slice A5 u1.a.length c5) (.slice D5 u1.b.length d5) (.bool u0.s) (.slice A6 u0.a.length c6) (.slice D6 u0.b.length d6)
  have O4 := O4.put6 (b := w.heap.size + 1) sz (.bool u1.s) (.slice A5 u1.a.length c5) (.slice D5 u1.b.length d5) (.bool u0.s) (.slice A6 u0.a.length c6) (.slice D6 u0.b.length d6)
  have r0' := s6.cell 0
  have r1' := s6.cell 1
  have r2' := s6.cell 2
  have r3' := s6.cell 3
  have r4' := s6.cell 4
  have r5' := s6.cell 5
  refine bodyPost_ret (v := .tuple #[.agg #[.bool u1.s, .slice A5 u1.a.length c5, .slice D5 u1.b.length d5, .bool u0.s, .slice A6 u0.a.length c6, .slice D6 u0.b.length d6], .int .i64 0]) (by simp [results, r0', r1', r2', r3', r4', r5', go_sem]) rfl ?_
  have hle := Nat.le_of_lt (Nat.lt_of_succ_lt sz)
  exact ⟨A5, c5, D5, d5, A6, c6, D6, d6, rfl, O1.base_le hle, O2.base_le hle, O3.base_le hle, O4.base_le hle, B6⟩


set_option maxRecDepth 100000 in
set_option maxHeartbeats 16000000 in
theorem expt_zero (V : Value) (x y : Rat) (n : Int) (w : World) (hV : RN w w.heap.size V x y) (bx : qw x ≤ 512) (by_ : qw y ≤ 512) (h0 : x = 0 ∧ y = 0) (hn : n < 0) (h1 : -1024 ≤ n) :
    Calls Try.prog 28 #[V, .int .i64 n] w (RetNE w (rw0, rw0, 3)) := by
  obtain ⟨A1, c1, D1, d1, A2, c2, D2, d2, rfl, p1, p2, p3, p4⟩ := hV
  have Ha : VN w w.heap.size (.agg #[.bool (qn x), .slice A1 (digs (qt x)).length c1, .slice D1 (digs (qd x)).length d1, .bool (qn y), .slice A2 (digs (qt y)).length c2, .slice D2 (digs (qd y)).length d2]) (rwq x) (rwq y) := ⟨A1, c1, D1, d1, A2, c2, D2, d2, rfl, p1, p2, p3, p4⟩
  simp only [rwq] at p1 p2 p3 p4
  have k0 := S2.new w [.bool (qn x), .slice A1 (digs (qt x)).length c1, .slice D1 (digs (qd x)).length d1, .bool (qn y), .slice A2 (digs (qt y)).length c2, .slice D2 (digs (qd y)).length d2] [.bool false, .slice none 0 0, .slice none 0 0, .bool false, .slice none 0 0, .slice none 0 0] 26 26 6
  have C0 := k0.2.2
  have z3 : ((w.alloc (.cells #[.bool (qn x), .slice A1 (digs (qt x)).length c1, .slice D1 (digs (qd x)).length d1, .bool (qn y), .slice A2 (digs (qt y)).length c2, .slice D2 (digs (qd y)).length d2] 26)).alloc (.cells #[.bool false, .slice none 0 0, .slice none 0 0, .bool false, .slice none 0 0, .slice none 0 0] 26)).heap.size = w.heap.size + 2 := by simp
  have Bs := bal ((w.alloc (.cells #[.bool (qn x), .slice A1 (digs (qt x)).length c1, .slice D1 (digs (qd x)).length d1, .bool (qn y), .slice A2 (digs (qt y)).length c2, .slice D2 (digs (qd y)).length d2] 26)).alloc (.cells #[.bool false, .slice none 0 0, .slice none 0 0, .bool false, .slice none 0 0, .slice none 0 0] 26)) (.cells #[.bool (qn x), .slice A1 (digs (qt x)).length c1, .slice D1 (digs (qd x)).length d1, .bool (qn y), .slice A2 (digs (qt y)).length c2, .slice D2 (digs (qd y)).length d2] 26)
  have sg := SB.new ((w.alloc (.cells #[.bool (qn x), .slice A1 (digs (qt x)).length c1, .slice D1 (digs (qd x)).length d1, .bool (qn y), .slice A2 (digs (qt y)).length c2, .slice D2 (digs (qd y)).length d2] 26)).alloc (.cells #[.bool false, .slice none 0 0, .slice none 0 0, .bool false, .slice none 0 0, .slice none 0 0] 26)) [.bool (qn x), .slice A1 (digs (qt x)).length c1, .slice D1 (digs (qd x)).length d1, .bool (qn y), .slice A2 (digs (qt y)).length c2, .slice D2 (digs (qd y)).length d2] 26
  rw [z3] at sg
  have C1 := bt C0 Bs
  have k1 := k0.nx Bs
  have hck := check1x_any false (w.heap.size + 2) _ _ _ _ _ _ _ _ _ _ _ _ _ _ _ sg (st p1 C1) (st p2 C1) (st p3 C1) (st p4 C1)
  rw [show chkN1 false ⟨qn x, digs (qt x), digs (qd x)⟩ ⟨qn y, digs (qt y), digs (qd y)⟩ = 0 from chk_ok bx by_] at hck
  clear sg
  have hZ := fun w' h => zero_any (.agg #[.bool (qn x), .slice A1 (digs (qt x)).length c1, .slice D1 (digs (qd x)).length d1, .bool (qn y), .slice A2 (digs (qt y)).length c2, .slice D2 (digs (qd y)).length d2]) (rwq x) (rwq y) w' h
  rw [zeroB_q] at hZ
  rw [decide_eq_true h0] at hZ
  clear h0 p1 p2 p3 p4 bx by_
  have e1 : ¬ n < -1024 := by omega
  have e2 : ¬ 1024 < n := by omega
  have e3 : (n == 0) = false := beq_eq_false_iff_ne.2 (by omega)
  go_enter Try.func28, Try.ntmps28
  go_wp2_with fail
  refine hck.mono ?_; rintro e w3 ⟨rfl, B3⟩
  clear hck
  have k3 := k1.nx B3
  have C3 := k3.2.2
  have j0 := k3.1.cell 0
  have j1 := k3.1.cell 1
  have j2 := k3.1.cell 2
  have j3 := k3.1.cell 3
  have j4 := k3.1.cell 4
  have j5 := k3.1.cell 5
  go_wp2_with fail
  refine (hZ _ (Ha.st C3)).mono ?_; rintro e w4 ⟨rfl, B4⟩
  have k4 := k3.nx B4
  clear hZ j0 j1 j2 j3 j4 j5
  have hRC := k4.2.1
  go_wp2_with (refine wp_st6 rfl (.tmp 4) (.tmp 40) rfl _ rfl _ _ _ _ _ _ rfl hRC rfl rfl rfl rfl rfl rfl ?_)
  have s6 := hRC.put6 (.bool false) (.slice none 0 0) (.slice none 0 0) (.bool false) (.slice none 0 0) (.slice none 0 0)
  have B6 := wr6_below (b := w.heap.size + 1) k4.2.2 (by omega) (.bool false) (.slice none 0 0) (.slice none 0 0) (.bool false) (.slice none 0 0) (.slice none 0 0)
  have r0' := s6.cell 0
  have r1' := s6.cell 1
  have r2' := s6.cell 2
  have r3' := s6.cell 3
  have r4' := s6.cell 4
  have r5' := s6.cell 5
  refine bodyPost_ret (v := .tuple #[.agg #[.bool false, .slice none 0 0, .slice none 0 0, .bool false, .slice none 0 0, .slice none 0 0], .int .i64 3]) (by simp [results, r0', r1', r2', r3', r4', r5', go_sem]) rfl ?_
  exact retNE_nil 3 B6

end Go.Proofs.Ytnlgoedklmjhlaa
namespace Go.Proofs.Ytnlgoedklmjhlaa
open Go.RowKit

/-- a round's world besides -/
def S2R (w wr : World) (b : Nat) (l1 : List Value) (n : Nat) (w' : World) : Prop := S2 w b l1 n w' ∧ Below wr.heap.size wr w'
theorem S2R.nx {w wr w1 w2 : World} {b n : Nat} {l1 : List Value} (h : S2R w wr b l1 n w1) (hb : Below w1.heap.size w1 w2) : S2R w wr b l1 n w2 := ⟨h.1.nx hb, bt h.2 hb⟩
theorem S2R.dr {w w1 wr : World} {b n : Nat} {l1 : List Value} (h : S2R w wr b l1 n w1) : S2R w wr b l1 n w1.drew := h.nx (Below.drew (Below.refl _ _))


set_option maxRecDepth 100000 in
set_option maxHeartbeats 16000000 in
theorem expt_real_a (x y : Rat) (n : Int) (w : World) (s : Bool) (t d : Nat) (A1 D1 A2 D2 : Option Addr) (c1 d1 c2 d2 : Nat) (p1 : RW w w.heap.size A1 c1 (digs t)) (p2 : RW w w.heap.size D1 d1 (digs d)) (p3 : RW w w.heap.size A2 c2 (digs (qt y))) (p4 : RW w w.heap.size D2 d2 (digs (qd y)))
    (hck : ∀ w' g, SB w' g [.bool s, .slice A1 (digs t).length c1, .slice D1 (digs d).length d1, .bool (qn y), .slice A2 (digs (qt y)).length c2, .slice D2 (digs (qd y)).length d2] → RW w' w'.heap.size A1 c1 (digs t) → RW w' w'.heap.size D1 d1 (digs d) → RW w' w'.heap.size A2 c2 (digs (qt y)) → RW w' w'.heap.size D2 d2 (digs (qd y)) → Calls Try.prog 55 #[.bool false, .slice (some ⟨g, 0, none⟩) 1 1] w' fun e w2 => e = .returned (.int .i64 0) ∧ Below w'.heap.size w' w2)
    (hZ : ∀ w', RW w' w'.heap.size A1 c1 (digs t) → RW w' w'.heap.size D1 d1 (digs d) → RW w' w'.heap.size A2 c2 (digs (qt y)) → RW w' w'.heap.size D2 d2 (digs (qd y)) → Calls Try.prog 61 #[(.agg #[.bool s, .slice A1 (digs t).length c1, .slice D1 (digs d).length d1, .bool (qn y), .slice A2 (digs (qt y)).length c2, .slice D2 (digs (qd y)).length d2])] w' fun e w2 => e = .returned (.bool false) ∧ Below w'.heap.size w' w2)
    (hy : (digs (qt y)).length = 0) (h1 : ¬ n < -1024) (h2 : ¬ 1024 < n) (h3 : n ≠ 0) (hn : ¬ n < 0) (m : Nat) (hm : n.natAbs = m) (lt : (digs t).length ≤ 512) (ld : (digs d).length ≤ 512) (fr fi : Rw) (fk : Int) (ans : Rw × Rw × Int) (sgn : Bool) (hsg : sgn = (s && (n % 2 != 0)))
    (hF : ∀ T ct D cd w', RW w' w'.heap.size T ct (digs (t ^ m)) → RW w' w'.heap.size D cd (digs (d ^ m)) → RW w' w'.heap.size A2 c2 (digs (qt y)) → RW w' w'.heap.size D2 d2 (digs (qd y)) → Calls Try.prog 56 #[.agg #[.bool sgn, .slice T (digs (t ^ m)).length ct, .slice D (digs (d ^ m)).length cd], (.agg #[.bool (qn y), .slice A2 (digs (qt y)).length c2, .slice D2 (digs (qd y)).length d2])] w' (RetNE w' (fr, fi, fk)))
    (hbig : ∀ k, 1 ≤ k → k < m → (512 < (digs (t ^ (k + 1))).length ∨ 512 < (digs (d ^ (k + 1))).length) → ans = (rw0, rw0, 4)) (hfit : (∀ k, 1 ≤ k → k ≤ m → (digs (t ^ k)).length ≤ 512 ∧ (digs (d ^ k)).length ≤ 512) → ans = (fr, fi, fk)) :
    Calls Try.prog 28 #[(.agg #[.bool s, .slice A1 (digs t).length c1, .slice D1 (digs d).length d1, .bool (qn y), .slice A2 (digs (qt y)).length c2, .slice D2 (digs (qd y)).length d2]), .int .i64 n] w (RetNE w ans) := by
  have k0 := S2.new w [.bool s, .slice A1 (digs t).length c1, .slice D1 (digs d).length d1, .bool (qn y), .slice A2 (digs (qt y)).length c2, .slice D2 (digs (qd y)).length d2] [.bool false, .slice none 0 0, .slice none 0 0, .bool false, .slice none 0 0, .slice none 0 0] 26 26 6
  have C0 := k0.2.2
  have z3 : ((w.alloc (.cells #[.bool s, .slice A1 (digs t).length c1, .slice D1 (digs d).length d1, .bool (qn y), .slice A2 (digs (qt y)).length c2, .slice D2 (digs (qd y)).length d2] 26)).alloc (.cells #[.bool false, .slice none 0 0, .slice none 0 0, .bool false, .slice none 0 0, .slice none 0 0] 26)).heap.size = w.heap.size + 2 := by simp
  have Bs := bal ((w.alloc (.cells #[.bool s, .slice A1 (digs t).length c1, .slice D1 (digs d).length d1, .bool (qn y), .slice A2 (digs (qt y)).length c2, .slice D2 (digs (qd y)).length d2] 26)).alloc (.cells #[.bool false, .slice none 0 0, .slice none 0 0, .bool false, .slice none 0 0, .slice none 0 0] 26)) (.cells #[.bool s, .slice A1 (digs t).length c1, .slice D1 (digs d).length d1, .bool (qn y), .slice A2 (digs (qt y)).length c2, .slice D2 (digs (qd y)).length d2] 26)
  have sg := SB.new ((w.alloc (.cells #[.bool s, .slice A1 (digs t).length c1, .slice D1 (digs d).length d1, .bool (qn y), .slice A2 (digs (qt y)).length c2, .slice D2 (digs (qd y)).length d2] 26)).alloc (.cells #[.bool false, .slice none 0 0, .slice none 0 0, .bool false, .slice none 0 0, .slice none 0 0] 26)) [.bool s, .slice A1 (digs t).length c1, .slice D1 (digs d).length d1, .bool (qn y), .slice A2 (digs (qt y)).length c2, .slice D2 (digs (qd y)).length d2] 26
  rw [z3] at sg
  have C1 := bt C0 Bs
  have k1 := k0.nx Bs
  have hck := hck _ _ sg (st p1 C1) (st p2 C1) (st p3 C1) (st p4 C1)
  clear sg
  have hl : (((digs (qt y)).length : Int) == 0) = true := beq_iff_eq.2 (by omega)
  have e3 : (n == 0) = false := beq_eq_false_iff_ne.2 h3
  have hm1 : 1 ≤ m := by omega
  have hmx : max n (-n) = (m : Int) := by rw [Int.max_def]; split <;> omega
  clear h3 hy
  have q1 := p1
  have q2 := p2
  have hT1 := fun k T ct (w' : World) (h : RW w' w'.heap.size T ct (digs (t ^ k))) (h2 : RW w' w'.heap.size A1 c1 (digs t)) (hk : (digs (t ^ k)).length ≤ 512) => (show Calls Try.prog 62 #[.slice T (digs (t ^ k)).length ct, .slice A1 (digs t).length c1] w' (RetW w' (t ^ (k + 1))) from by
    have hh := times_any T A1 ct c1 _ _ _ _ w' rfl rfl h h2 (by omega) (by omega)
    rw [val_digs, val_digs, ← Nat.pow_succ] at hh
    exact hh)
  have hT2 := fun k T ct (w' : World) (h : RW w' w'.heap.size T ct (digs (d ^ k))) (h2 : RW w' w'.heap.size D1 d1 (digs d)) (hk : (digs (d ^ k)).length ≤ 512) => (show Calls Try.prog 62 #[.slice T (digs (d ^ k)).length ct, .slice D1 (digs d).length d1] w' (RetW w' (d ^ (k + 1))) from by
    have hh := times_any T D1 ct d1 _ _ _ _ w' rfl rfl h h2 (by omega) (by omega)
    rw [val_digs, val_digs, ← Nat.pow_succ] at hh
    exact hh)
  go_enter Try.func28, Try.ntmps28
  go_wp2_with fail
  refine hck.mono ?_; rintro e w3 ⟨rfl, B3⟩
  clear hck
  have k3 := k1.nx B3
  have C3 := k3.2.2
  have j0 := k3.1.cell 0
  have j1 := k3.1.cell 1
  have j2 := k3.1.cell 2
  have j3 := k3.1.cell 3
  have j4 := k3.1.cell 4
  have j5 := k3.1.cell 5
  go_wp2_with fail
  refine (hZ _ (st p1 C3) (st p2 C3) (st p3 C3) (st p4 C3)).mono ?_; rintro e w4 ⟨rfl, B4⟩
  have k4 := k3.nx B4
  clear hZ j0 j1 j2 j3 j4 j5
  have i1 := k4.1.cell 1
  have i2 := k4.1.cell 2
  have i3 := k4.1.cell 3
  have i4 := k4.1.cell 4
  go_upto_region 11 with fail
  go_quiet (fail)
  have B5 := bdN (Below.refl w4.heap.size w4) nq
  obtain ⟨w5, hw5⟩ : ∃ w5, w5 = w4.drewN nq := ⟨_, rfl⟩
  rw [← hw5] at B5 ⊢
  have k5 := k4.nx B5
  have C5 := k5.2.2
  clear hw5 i1 i2 i3 i4
  go_wp2_with fail
  go_loopg [7, 8, 9] (m - 1) (fun gg tv dv kv wr => ∃ (k : Nat) (T : Option Addr) (ct : Nat) (D : Option Addr) (cd : Nat), 1 ≤ k ∧ k ≤ m ∧ m - k = gg ∧ tv = .slice T (digs (t ^ k)).length ct ∧ dv = .slice D (digs (d ^ k)).length cd ∧ kv = .int .i64 (k : Int) ∧ RW wr wr.heap.size T ct (digs (t ^ k)) ∧ RW wr wr.heap.size D cd (digs (d ^ k)) ∧ Hid (∀ j, 1 ≤ j → j ≤ k → (digs (t ^ j)).length ≤ 512 ∧ (digs (d ^ j)).length ≤ 512) ∧ S2 w w.heap.size [.bool s, .slice A1 (digs t).length c1, .slice D1 (digs d).length d1, .bool (qn y), .slice A2 (digs (qt y)).length c2, .slice D2 (digs (qd y)).length d2] 6 wr)
  case atStart =>
    refine ⟨1, A1, c1, D1, d1, Nat.le_refl _, by omega, rfl, ?_, ?_, rfl, ?_, ?_, ?_, k5⟩
    · rw [Nat.pow_one]
    · rw [Nat.pow_one]
    · rw [Nat.pow_one]; exact st p1 C5
    · rw [Nat.pow_one]; exact st p2 C5
    · refine Lib.hid (fun j hj1 hj2 => ?_)
      obtain rfl : j = 1 := by omega
      rw [Nat.pow_one, Nat.pow_one]
      exact ⟨lt, ld⟩
  case round =>
    obtain ⟨k, T, ct, D, cd, hk1, hkm, rfl, rfl, rfl, rfl, hT, hD, hle, kr⟩ := hrel
    by_cases hlt : k < m
    · go_wp2_with fail
      obtain ⟨hlt1, hlt2⟩ := hle.out k hk1 (Nat.le_refl _)
      have hT1 := fun T ct w' h h2 => hT1 k T ct w' h h2 hlt1
      have hT2 := fun T ct w' h h2 => hT2 k T ct w' h h2 hlt2
      have q1 := fun (w' : World) (B : Below w.heap.size w w') => st p1 B
      have q2 := fun (w' : World) (B : Below w.heap.size w w') => st p2 B
      have kr2 : S2R w wr w.heap.size [.bool s, .slice A1 (digs t).length c1, .slice D1 (digs d).length d1, .bool (qn y), .slice A2 (digs (qt y)).length c2, .slice D2 (digs (qd y)).length d2] 6 wr := ⟨kr, Below.refl _ _⟩
      have kr2d := kr2.dr
      have kr2s := And.intro (kr2d.1.1.cell 1) (And.intro (kr2d.1.1.cell 2) (kr2d))
      go_region_held3 (fun w' => w'.cell? ⟨w.heap.size, 1, none⟩ = some (.slice A1 (digs t).length c1) ∧ w'.cell? ⟨w.heap.size, 2, none⟩ = some (.slice D1 (digs d).length d1) ∧ S2R w wr w.heap.size [.bool s, .slice A1 (digs t).length c1, .slice D1 (digs d).length d1, .bool (qn y), .slice A2 (digs (qt y)).length c2, .slice D2 (digs (qd y)).length d2] 6 w')
        (first
          | with_reducible exact kr2s
          | (have s1 := (by with_reducible assumption : _ ∧ _ ∧ S2R w wr w.heap.size [.bool s, .slice A1 (digs t).length c1, .slice D1 (digs d).length d1, .bool (qn y), .slice A2 (digs (qt y)).length c2, .slice D2 (digs (qd y)).length d2] 6 _).2.2.nx BX; have q0_ := s1.1.1.cell 1; have q1_ := s1.1.1.cell 2; with_reducible exact ⟨q0_, q1_, s1⟩))
        (first
          | (go_at_call_of 62 (Value.slice T (digs (t ^ k)).length ct); have hh := (by with_reducible assumption : _ ∧ _ ∧ S2R w wr w.heap.size [.bool s, .slice A1 (digs t).length c1, .slice D1 (digs d).length d1, .bool (qn y), .slice A2 (digs (qt y)).length c2, .slice D2 (digs (qd y)).length d2] 6 _).2.2; refine (hT1 T ct _ (st hT hh.2) (q1 _ hh.1.2.2)).mono ?_; rintro e w21 ⟨T2, ct2, rfl, O1, BX⟩)
          | (go_at_call_of 62 (Value.slice D (digs (d ^ k)).length cd); have hh := (by with_reducible assumption : _ ∧ _ ∧ S2R w wr w.heap.size [.bool s, .slice A1 (digs t).length c1, .slice D1 (digs d).length d1, .bool (qn y), .slice A2 (digs (qt y)).length c2, .slice D2 (digs (qd y)).length d2] 6 _).2.2; refine (hT2 D cd _ (st hD hh.2) (q2 _ hh.1.2.2)).mono ?_; rintro e w22 ⟨U2, cu2, rfl, O2, BX⟩; have O1 := O1.below BX (Nat.le_refl _); have kk := hh.nx BX))
      clear hT1 hT2 q1 q2 kr2 kr2d kr2s
      have kk := kk.1
      by_cases l1 : 512 < (digs (t ^ (k + 1))).length
      rotate_left
      by_cases l2 : 512 < (digs (d ^ (k + 1))).length
      rotate_left
      rotate_left
      · have hans := hbig k hk1 hlt (.inl l1)
        subst hans
        clear hbig hfit
        have hRC := kk.2.1
        go_wp2_with (refine wp_st6 rfl (.tmp 4) (.tmp 78) rfl _ rfl _ _ _ _ _ _ rfl hRC rfl rfl rfl rfl rfl rfl ?_)
        have s6 := hRC.put6 (.bool false) (.slice none 0 0) (.slice none 0 0) (.bool false) (.slice none 0 0) (.slice none 0 0)
        have B6 := wr6_below (b := w.heap.size + 1) kk.2.2 (by omega) (.bool false) (.slice none 0 0) (.slice none 0 0) (.bool false) (.slice none 0 0) (.slice none 0 0)
        have r0' := s6.cell 0
        have r1' := s6.cell 1
        have r2' := s6.cell 2
        have r3' := s6.cell 3
        have r4' := s6.cell 4
        have r5' := s6.cell 5
        refine bodyPost_ret (v := .tuple #[.agg #[.bool false, .slice none 0 0, .slice none 0 0, .bool false, .slice none 0 0, .slice none 0 0], .int .i64 4]) (by simp [results, r0', r1', r2', r3', r4', r5', go_sem]) rfl ?_
        exact retNE_nil 4 B6
      · have hans := hbig k hk1 hlt (.inr l2)
        subst hans
        clear hbig hfit
        have hRC := kk.2.1
        go_wp2_with (refine wp_st6 rfl (.tmp 4) (.tmp 78) rfl _ rfl _ _ _ _ _ _ rfl hRC rfl rfl rfl rfl rfl rfl ?_)
        have s6 := hRC.put6 (.bool false) (.slice none 0 0) (.slice none 0 0) (.bool false) (.slice none 0 0) (.slice none 0 0)
        have B6 := wr6_below (b := w.heap.size + 1) kk.2.2 (by omega) (.bool false) (.slice none 0 0) (.slice none 0 0) (.bool false) (.slice none 0 0) (.slice none 0 0)
        have r0' := s6.cell 0
        have r1' := s6.cell 1
        have r2' := s6.cell 2
        have r3' := s6.cell 3
        have r4' := s6.cell 4
        have r5' := s6.cell 5
        refine bodyPost_ret (v := .tuple #[.agg #[.bool false, .slice none 0 0, .slice none 0 0, .bool false, .slice none 0 0, .slice none 0 0], .int .i64 4]) (by simp [results, r0', r1', r2', r3', r4', r5', go_sem]) rfl ?_
        exact retNE_nil 4 B6
      · go_wp2_with fail
        go_roundg (m - (k + 1))
        case measure => omega
        case rel => exact ⟨k + 1, T2, ct2, U2, cu2, by omega, by omega, rfl, rfl, rfl, by go_num, O1.rw, O2.rw, Lib.hid (fun j hj1 hj2 => by
          by_cases hj : j ≤ k
          · exact hle.out j hj1 hj
          · obtain rfl : j = k + 1 := by omega
            exact ⟨by omega, by omega⟩), kk⟩
    · have hkm' : k = m := by omega
      clear hlt hm1 hkm hk1
      subst hkm'
      have hans := hfit (fun j h1 h2 => hle.out j h1 h2)
      subst hans
      clear hbig hfit hle
      have i0 := kr.1.cell 0
      have i3 := kr.1.cell 3
      have i4 := kr.1.cell 4
      have i5 := kr.1.cell 5
      have C6 := kr.2.2
      cases s with
      | false =>
        obtain rfl : sgn = false := by simpa using hsg
        clear hsg
        go_wp2_with fail
        refine (hF _ _ _ _ _ hT hD (st p3 C6) (st p4 C6)).mono ?_; rintro e w7 ⟨A7, c7, D7, d7, A8, c8, D8, d8, rfl, Q1, Q2, Q3, Q4, B7⟩
        dsimp only at Q1 Q2 Q3 Q4
        have kk := kr.nx B7
        have hRC := kk.2.1
        have sz := kr.2.1.2
        go_wp2_with (refine wp_st6 rfl (.tmp 4) (.tmp 97) rfl _ rfl _ _ _ _ _ _ rfl hRC rfl rfl rfl rfl rfl rfl ?_)
        have s6 := hRC.put6 (.bool fr.s) (.slice A7 fr.a.length c7) (.slice D7 fr.b.length d7) (.bool fi.s) (.slice A8 fi.a.length c8) (.slice D8 fi.b.length d8)
        have B6 := wr6_below (b := w.heap.size + 1) kk.2.2 (by omega) (.bool fr.s) (.slice A7 fr.a.length c7) (.slice D7 fr.b.length d7) (.bool fi.s) (.slice A8 fi.a.length c8) (.slice D8 fi.b.length d8)
        have O1 := Q1.put6 (b := w.heap.size + 1) sz (.bool fr.s) (.slice A7 fr.a.length c7) (.slice D7 fr.b.length d7) (.bool fi.s) (.slice A8 fi.a.length c8) (.slice D8 fi.b.length d8)
        have O2 := Q2.put6 (b := w.heap.size + 1) sz (.bool fr.s) (.slice A7 fr.a.length c7) (.slice D7 fr.b.length d7) (.bool fi.s) (.slice A8 fi.a.length c8) (.slice D8 fi.b.length d8)
        have O3 := Q3.put6 (b := w.heap.size + 1) sz (.bool fr.s) (.slice A7 fr.a.length c7) (.slice D7 fr.b.length d7) (.bool fi.s) (.slice A8 fi.a.length c8) (.slice D8 fi.b.length d8)
        have O4 := Q4.put6 (b := w.heap.size + 1) sz (.bool fr.s) (.slice A7 fr.a.length c7) (.slice D7 fr.b.length d7) (.bool fi.s) (.slice A8 fi.a.length c8) (.slice D8 fi.b.length d8)
        have r0' := s6.cell 0
        have r1' := s6.cell 1
        have r2' := s6.cell 2
        have r3' := s6.cell 3
        have r4' := s6.cell 4
        have r5' := s6.cell 5
        refine bodyPost_ret (v := .tuple #[.agg #[.bool fr.s, .slice A7 fr.a.length c7, .slice D7 fr.b.length d7, .bool fi.s, .slice A8 fi.a.length c8, .slice D8 fi.b.length d8], .int .i64 fk]) (by simp [results, r0', r1', r2', r3', r4', r5', go_sem]) rfl ?_
        have hle := Nat.le_of_lt (Nat.lt_of_succ_lt sz)
        exact ⟨A7, c7, D7, d7, A8, c8, D8, d8, rfl, O1.base_le hle, O2.base_le hle, O3.base_le hle, O4.base_le hle, B6⟩
      | true =>
        rw [Bool.true_and] at hsg
        subst hsg
        go_wp2_with fail
        refine (hF _ _ _ _ _ hT hD (st p3 C6) (st p4 C6)).mono ?_; rintro e w7 ⟨A7, c7, D7, d7, A8, c8, D8, d8, rfl, Q1, Q2, Q3, Q4, B7⟩
        dsimp only at Q1 Q2 Q3 Q4
        have kk := kr.nx B7
        have hRC := kk.2.1
        have sz := kr.2.1.2
        go_wp2_with (refine wp_st6 rfl (.tmp 4) (.tmp 97) rfl _ rfl _ _ _ _ _ _ rfl hRC rfl rfl rfl rfl rfl rfl ?_)
        have s6 := hRC.put6 (.bool fr.s) (.slice A7 fr.a.length c7) (.slice D7 fr.b.length d7) (.bool fi.s) (.slice A8 fi.a.length c8) (.slice D8 fi.b.length d8)
        have B6 := wr6_below (b := w.heap.size + 1) kk.2.2 (by omega) (.bool fr.s) (.slice A7 fr.a.length c7) (.slice D7 fr.b.length d7) (.bool fi.s) (.slice A8 fi.a.length c8) (.slice D8 fi.b.length d8)
        have O1 := Q1.put6 (b := w.heap.size + 1) sz (.bool fr.s) (.slice A7 fr.a.length c7) (.slice D7 fr.b.length d7) (.bool fi.s) (.slice A8 fi.a.length c8) (.slice D8 fi.b.length d8)
        have O2 := Q2.put6 (b := w.heap.size + 1) sz (.bool fr.s) (.slice A7 fr.a.length c7) (.slice D7 fr.b.length d7) (.bool fi.s) (.slice A8 fi.a.length c8) (.slice D8 fi.b.length d8)
        have O3 := Q3.put6 (b := w.heap.size + 1) sz (.bool fr.s) (.slice A7 fr.a.length c7) (.slice D7 fr.b.length d7) (.bool fi.s) (.slice A8 fi.a.length c8) (.slice D8 fi.b.length d8)
        have O4 := Q4.put6 (b := w.heap.size + 1) sz (.bool fr.s) (.slice A7 fr.a.length c7) (.slice D7 fr.b.length d7) (.bool fi.s) (.slice A8 fi.a.length c8) (.slice D8 fi.b.length d8)
        have r0' := s6.cell 0
        have r1' := s6.cell 1
        have r2' := s6.cell 2
        have r3' := s6.cell 3
        have r4' := s6.cell 4
        have r5' := s6.cell 5
        refine bodyPost_ret (v := .tuple #[.agg #[.bool fr.s, .slice A7 fr.a.length c7, .slice D7 fr.b.length d7, .bool fi.s, .slice A8 fi.a.length c8, .slice D8 fi.b.length d8], .int .i64 fk]) (by simp [results, r0', r1', r2', r3', r4', r5', go_sem]) rfl ?_
        have hle := Nat.le_of_lt (Nat.lt_of_succ_lt sz)
        exact ⟨A7, c7, D7, d7, A8, c8, D8, d8, rfl, O1.base_le hle, O2.base_le hle, O3.base_le hle, O4.base_le hle, B6⟩


set_option maxRecDepth 100000 in
set_option maxHeartbeats 16000000 in
theorem expt_real_b (x y : Rat) (n : Int) (w : World) (s : Bool) (t d : Nat) (A1 D1 A2 D2 : Option Addr) (c1 d1 c2 d2 : Nat) (p1 : RW w w.heap.size A1 c1 (digs t)) (p2 : RW w w.heap.size D1 d1 (digs d)) (p3 : RW w w.heap.size A2 c2 (digs (qt y))) (p4 : RW w w.heap.size D2 d2 (digs (qd y)))
    (hck : ∀ w' g, SB w' g [.bool s, .slice A1 (digs t).length c1, .slice D1 (digs d).length d1, .bool (qn y), .slice A2 (digs (qt y)).length c2, .slice D2 (digs (qd y)).length d2] → RW w' w'.heap.size A1 c1 (digs t) → RW w' w'.heap.size D1 d1 (digs d) → RW w' w'.heap.size A2 c2 (digs (qt y)) → RW w' w'.heap.size D2 d2 (digs (qd y)) → Calls Try.prog 55 #[.bool false, .slice (some ⟨g, 0, none⟩) 1 1] w' fun e w2 => e = .returned (.int .i64 0) ∧ Below w'.heap.size w' w2)
    (hZ : ∀ w', RW w' w'.heap.size A1 c1 (digs t) → RW w' w'.heap.size D1 d1 (digs d) → RW w' w'.heap.size A2 c2 (digs (qt y)) → RW w' w'.heap.size D2 d2 (digs (qd y)) → Calls Try.prog 61 #[(.agg #[.bool s, .slice A1 (digs t).length c1, .slice D1 (digs d).length d1, .bool (qn y), .slice A2 (digs (qt y)).length c2, .slice D2 (digs (qd y)).length d2])] w' fun e w2 => e = .returned (.bool true) ∧ Below w'.heap.size w' w2)
    (hy : (digs (qt y)).length = 0) (h1 : ¬ n < -1024) (h2 : ¬ 1024 < n) (h3 : n ≠ 0) (hn : ¬ n < 0) (m : Nat) (hm : n.natAbs = m) (lt : (digs t).length ≤ 512) (ld : (digs d).length ≤ 512) (fr fi : Rw) (fk : Int) (ans : Rw × Rw × Int) (sgn : Bool) (hsg : sgn = (s && (n % 2 != 0)))
    (hF : ∀ T ct D cd w', RW w' w'.heap.size T ct (digs (t ^ m)) → RW w' w'.heap.size D cd (digs (d ^ m)) → RW w' w'.heap.size A2 c2 (digs (qt y)) → RW w' w'.heap.size D2 d2 (digs (qd y)) → Calls Try.prog 56 #[.agg #[.bool sgn, .slice T (digs (t ^ m)).length ct, .slice D (digs (d ^ m)).length cd], (.agg #[.bool (qn y), .slice A2 (digs (qt y)).length c2, .slice D2 (digs (qd y)).length d2])] w' (RetNE w' (fr, fi, fk)))
    (hbig : ∀ k, 1 ≤ k → k < m → (512 < (digs (t ^ (k + 1))).length ∨ 512 < (digs (d ^ (k + 1))).length) → ans = (rw0, rw0, 4)) (hfit : (∀ k, 1 ≤ k → k ≤ m → (digs (t ^ k)).length ≤ 512 ∧ (digs (d ^ k)).length ≤ 512) → ans = (fr, fi, fk)) :
    Calls Try.prog 28 #[(.agg #[.bool s, .slice A1 (digs t).length c1, .slice D1 (digs d).length d1, .bool (qn y), .slice A2 (digs (qt y)).length c2, .slice D2 (digs (qd y)).length d2]), .int .i64 n] w (RetNE w ans) := by
  have k0 := S2.new w [.bool s, .slice A1 (digs t).length c1, .slice D1 (digs d).length d1, .bool (qn y), .slice A2 (digs (qt y)).length c2, .slice D2 (digs (qd y)).length d2] [.bool false, .slice none 0 0, .slice none 0 0, .bool false, .slice none 0 0, .slice none 0 0] 26 26 6
  have C0 := k0.2.2
  have z3 : ((w.alloc (.cells #[.bool s, .slice A1 (digs t).length c1, .slice D1 (digs d).length d1, .bool (qn y), .slice A2 (digs (qt y)).length c2, .slice D2 (digs (qd y)).length d2] 26)).alloc (.cells #[.bool false, .slice none 0 0, .slice none 0 0, .bool false, .slice none 0 0, .slice none 0 0] 26)).heap.size = w.heap.size + 2 := by simp
  have Bs := bal ((w.alloc (.cells #[.bool s, .slice A1 (digs t).length c1, .slice D1 (digs d).length d1, .bool (qn y), .slice A2 (digs (qt y)).length c2, .slice D2 (digs (qd y)).length d2] 26)).alloc (.cells #[.bool false, .slice none 0 0, .slice none 0 0, .bool false, .slice none 0 0, .slice none 0 0] 26)) (.cells #[.bool s, .slice A1 (digs t).length c1, .slice D1 (digs d).length d1, .bool (qn y), .slice A2 (digs (qt y)).length c2, .slice D2 (digs (qd y)).length d2] 26)
  have sg := SB.new ((w.alloc (.cells #[.bool s, .slice A1 (digs t).length c1, .slice D1 (digs d).length d1, .bool (qn y), .slice A2 (digs (qt y)).length c2, .slice D2 (digs (qd y)).length d2] 26)).alloc (.cells #[.bool false, .slice none 0 0, .slice none 0 0, .bool false, .slice none 0 0, .slice none 0 0] 26)) [.bool s, .slice A1 (digs t).length c1, .slice D1 (digs d).length d1, .bool (qn y), .slice A2 (digs (qt y)).length c2, .slice D2 (digs (qd y)).length d2] 26
  rw [z3] at sg
  have C1 := bt C0 Bs
  have k1 := k0.nx Bs
  have hck := hck _ _ sg (st p1 C1) (st p2 C1) (st p3 C1) (st p4 C1)
  clear sg
  have hl : (((digs (qt y)).length : Int) == 0) = true := beq_iff_eq.2 (by omega)
  have e3 : (n == 0) = false := beq_eq_false_iff_ne.2 h3
  have hm1 : 1 ≤ m := by omega
  have hmx : max n (-n) = (m : Int) := by rw [Int.max_def]; split <;> omega
  clear h3 hy
  have q1 := p1
  have q2 := p2
  have hT1 := fun k T ct (w' : World) (h : RW w' w'.heap.size T ct (digs (t ^ k))) (h2 : RW w' w'.heap.size A1 c1 (digs t)) (hk : (digs (t ^ k)).length ≤ 512) => (show Calls Try.prog 62 #[.slice T (digs (t ^ k)).length ct, .slice A1 (digs t).length c1] w' (RetW w' (t ^ (k + 1))) from by
    have hh := times_any T A1 ct c1 _ _ _ _ w' rfl rfl h h2 (by omega) (by omega)
    rw [val_digs, val_digs, ← Nat.pow_succ] at hh
    exact hh)
  have hT2 := fun k T ct (w' : World) (h : RW w' w'.heap.size T ct (digs (d ^ k))) (h2 : RW w' w'.heap.size D1 d1 (digs d)) (hk : (digs (d ^ k)).length ≤ 512) => (show Calls Try.prog 62 #[.slice T (digs (d ^ k)).length ct, .slice D1 (digs d).length d1] w' (RetW w' (d ^ (k + 1))) from by
    have hh := times_any T D1 ct d1 _ _ _ _ w' rfl rfl h h2 (by omega) (by omega)
    rw [val_digs, val_digs, ← Nat.pow_succ] at hh
    exact hh)
  go_enter Try.func28, Try.ntmps28
  go_wp2_with fail
  refine hck.mono ?_; rintro e w3 ⟨rfl, B3⟩
  clear hck
  have k3 := k1.nx B3
  have C3 := k3.2.2
  have j0 := k3.1.cell 0
  have j1 := k3.1.cell 1
  have j2 := k3.1.cell 2
  have j3 := k3.1.cell 3
  have j4 := k3.1.cell 4
  have j5 := k3.1.cell 5
  go_wp2_with fail
  refine (hZ _ (st p1 C3) (st p2 C3) (st p3 C3) (st p4 C3)).mono ?_; rintro e w4 ⟨rfl, B4⟩
  have k4 := k3.nx B4
  clear hZ j0 j1 j2 j3 j4 j5
  have i1 := k4.1.cell 1
  have i2 := k4.1.cell 2
  have i3 := k4.1.cell 3
  have i4 := k4.1.cell 4
  go_upto_region 11 with fail
  go_quiet (fail)
  have B5 := bdN (Below.refl w4.heap.size w4) nq
  obtain ⟨w5, hw5⟩ : ∃ w5, w5 = w4.drewN nq := ⟨_, rfl⟩
  rw [← hw5] at B5 ⊢
  have k5 := k4.nx B5
  have C5 := k5.2.2
  clear hw5 i1 i2 i3 i4
  go_wp2_with fail
  go_loopg [7, 8, 9] (m - 1) (fun gg tv dv kv wr => ∃ (k : Nat) (T : Option Addr) (ct : Nat) (D : Option Addr) (cd : Nat), 1 ≤ k ∧ k ≤ m ∧ m - k = gg ∧ tv = .slice T (digs (t ^ k)).length ct ∧ dv = .slice D (digs (d ^ k)).length cd ∧ kv = .int .i64 (k : Int) ∧ RW wr wr.heap.size T ct (digs (t ^ k)) ∧ RW wr wr.heap.size D cd (digs (d ^ k)) ∧ Hid (∀ j, 1 ≤ j → j ≤ k → (digs (t ^ j)).length ≤ 512 ∧ (digs (d ^ j)).length ≤ 512) ∧ S2 w w.heap.size [.bool s, .slice A1 (digs t).length c1, .slice D1 (digs d).length d1, .bool (qn y), .slice A2 (digs (qt y)).length c2, .slice D2 (digs (qd y)).length d2] 6 wr)
  case atStart =>
    refine ⟨1, A1, c1, D1, d1, Nat.le_refl _, by omega, rfl, ?_, ?_, rfl, ?_, ?_, ?_, k5⟩
    · rw [Nat.pow_one]
    · rw [Nat.pow_one]
    · rw [Nat.pow_one]; exact st p1 C5
    · rw [Nat.pow_one]; exact st p2 C5
    · refine Lib.hid (fun j hj1 hj2 => ?_)
      obtain rfl : j = 1 := by omega
      rw [Nat.pow_one, Nat.pow_one]
      exact ⟨lt, ld⟩
  case round =>
    obtain ⟨k, T, ct, D, cd, hk1, hkm, rfl, rfl, rfl, rfl, hT, hD, hle, kr⟩ := hrel
    by_cases hlt : k < m
    · go_wp2_with fail
      obtain ⟨hlt1, hlt2⟩ := hle.out k hk1 (Nat.le_refl _)
      have hT1 := fun T ct w' h h2 => hT1 k T ct w' h h2 hlt1
      have hT2 := fun T ct w' h h2 => hT2 k T ct w' h h2 hlt2
      have q1 := fun (w' : World) (B : Below w.heap.size w w') => st p1 B
      have q2 := fun (w' : World) (B : Below w.heap.size w w') => st p2 B
      have kr2 : S2R w wr w.heap.size [.bool s, .slice A1 (digs t).length c1, .slice D1 (digs d).length d1, .bool (qn y), .slice A2 (digs (qt y)).length c2, .slice D2 (digs (qd y)).length d2] 6 wr := ⟨kr, Below.refl _ _⟩
      have kr2d := kr2.dr
      have kr2s := And.intro (kr2d.1.1.cell 1) (And.intro (kr2d.1.1.cell 2) (kr2d))
      go_region_held3 (fun w' => w'.cell? ⟨w.heap.size, 1, none⟩ = some (.slice A1 (digs t).length c1) ∧ w'.cell? ⟨w.heap.size, 2, none⟩ = some (.slice D1 (digs d).length d1) ∧ S2R w wr w.heap.size [.bool s, .slice A1 (digs t).length c1, .slice D1 (digs d).length d1, .bool (qn y), .slice A2 (digs (qt y)).length c2, .slice D2 (digs (qd y)).length d2] 6 w')
        (first
          | with_reducible exact kr2s
          | (have s1 := (by with_reducible assumption : _ ∧ _ ∧ S2R w wr w.heap.size [.bool s, .slice A1 (digs t).length c1, .slice D1 (digs d).length d1, .bool (qn y), .slice A2 (digs (qt y)).length c2, .slice D2 (digs (qd y)).length d2] 6 _).2.2.nx BX; have q0_ := s1.1.1.cell 1; have q1_ := s1.1.1.cell 2; with_reducible exact ⟨q0_, q1_, s1⟩))
        (first
          | (go_at_call_of 62 (Value.slice T (digs (t ^ k)).length ct); have hh := (by with_reducible assumption : _ ∧ _ ∧ S2R w wr w.heap.size [.bool s, .slice A1 (digs t).length c1, .slice D1 (digs d).length d1, .bool (qn y), .slice A2 (digs (qt y)).length c2, .slice D2 (digs (qd y)).length d2] 6 _).2.2; refine (hT1 T ct _ (st hT hh.2) (q1 _ hh.1.2.2)).mono ?_; rintro e w21 ⟨T2, ct2, rfl, O1, BX⟩)
          | (go_at_call_of 62 (Value.slice D (digs (d ^ k)).length cd); have hh := (by with_reducible assumption : _ ∧ _ ∧ S2R w wr w.heap.size [.bool s, .slice A1 (digs t).length c1, .slice D1 (digs d).length d1, .bool (qn y), .slice A2 (digs (qt y)).length c2, .slice D2 (digs (qd y)).length d2] 6 _).2.2; refine (hT2 D cd _ (st hD hh.2) (q2 _ hh.1.2.2)).mono ?_; rintro e w22 ⟨U2, cu2, rfl, O2, BX⟩; have O1 := O1.below BX (Nat.le_refl _); have kk := hh.nx BX))
      clear hT1 hT2 q1 q2 kr2 kr2d kr2s
      have kk := kk.1
      by_cases l1 : 512 < (digs (t ^ (k + 1))).length
      rotate_left
      by_cases l2 : 512 < (digs (d ^ (k + 1))).length
      rotate_left
      rotate_left
      · have hans := hbig k hk1 hlt (.inl l1)
        subst hans
        clear hbig hfit
        have hRC := kk.2.1
        go_wp2_with (refine wp_st6 rfl (.tmp 4) (.tmp 78) rfl _ rfl _ _ _ _ _ _ rfl hRC rfl rfl rfl rfl rfl rfl ?_)
        have s6 := hRC.put6 (.bool false) (.slice none 0 0) (.slice none 0 0) (.bool false) (.slice none 0 0) (.slice none 0 0)
        have B6 := wr6_below (b := w.heap.size + 1) kk.2.2 (by omega) (.bool false) (.slice none 0 0) (.slice none 0 0) (.bool false) (.slice none 0 0) (.slice none 0 0)
        have r0' := s6.cell 0
        have r1' := s6.cell 1
        have r2' := s6.cell 2
        have r3' := s6.cell 3
        have r4' := s6.cell 4
        have r5' := s6.cell 5
        refine bodyPost_ret (v := .tuple #[.agg #[.bool false, .slice none 0 0, .slice none 0 0, .bool false, .slice none 0 0, .slice none 0 0], .int .i64 4]) (by simp [results, r0', r1', r2', r3', r4', r5', go_sem]) rfl ?_
        exact retNE_nil 4 B6
      · have hans := hbig k hk1 hlt (.inr l2)
        subst hans
        clear hbig hfit
        have hRC := kk.2.1
        go_wp2_with (refine wp_st6 rfl (.tmp 4) (.tmp 78) rfl _ rfl _ _ _ _ _ _ rfl hRC rfl rfl rfl rfl rfl rfl ?_)
        have s6 := hRC.put6 (.bool false) (.slice none 0 0) (.slice none 0 0) (.bool false) (.slice none 0 0) (.slice none 0 0)
        have B6 := wr6_below (b := w.heap.size + 1) kk.2.2 (by omega) (.bool false) (.slice none 0 0) (.slice none 0 0) (.bool false) (.slice none 0 0) (.slice none 0 0)
        have r0' := s6.cell 0
        have r1' := s6.cell 1
        have r2' := s6.cell 2
        have r3' := s6.cell 3
        have r4' := s6.cell 4
        have r5' := s6.cell 5
        refine bodyPost_ret (v := .tuple #[.agg #[.bool false, .slice none 0 0, .slice none 0 0, .bool false, .slice none 0 0, .slice none 0 0], .int .i64 4]) (by simp [results, r0', r1', r2', r3', r4', r5', go_sem]) rfl ?_
        exact retNE_nil 4 B6
      · go_wp2_with fail
        go_roundg (m - (k + 1))
        case measure => omega
        case rel => exact ⟨k + 1, T2, ct2, U2, cu2, by omega, by omega, rfl, rfl, rfl, by go_num, O1.rw, O2.rw, Lib.hid (fun j hj1 hj2 => by
          by_cases hj : j ≤ k
          · exact hle.out j hj1 hj
          · obtain rfl : j = k + 1 := by omega
            exact ⟨by omega, by omega⟩), kk⟩
    · have hkm' : k = m := by omega
      clear hlt hm1 hkm hk1
      subst hkm'
      have hans := hfit (fun j h1 h2 => hle.out j h1 h2)
      subst hans
      clear hbig hfit hle
      have i0 := kr.1.cell 0
      have i3 := kr.1.cell 3
      have i4 := kr.1.cell 4
      have i5 := kr.1.cell 5
      have C6 := kr.2.2
      cases s with
      | false =>
        obtain rfl : sgn = false := by simpa using hsg
        clear hsg
        go_wp2_with fail
        refine (hF _ _ _ _ _ hT hD (st p3 C6) (st p4 C6)).mono ?_; rintro e w7 ⟨A7, c7, D7, d7, A8, c8, D8, d8, rfl, Q1, Q2, Q3, Q4, B7⟩
        dsimp only at Q1 Q2 Q3 Q4
        have kk := kr.nx B7
        have hRC := kk.2.1
        have sz := kr.2.1.2
        go_wp2_with (refine wp_st6 rfl (.tmp 4) (.tmp 97) rfl _ rfl _ _ _ _ _ _ rfl hRC rfl rfl rfl rfl rfl rfl ?_)
        have s6 := hRC.put6 (.bool fr.s) (.slice A7 fr.a.length c7) (.slice D7 fr.b.length d7) (.bool fi.s) (.slice A8 fi.a.length c8) (.slice D8 fi.b.length d8)
        have B6 := wr6_below (b := w.heap.size + 1) kk.2.2 (by omega) (.bool fr.s) (.slice A7 fr.a.length c7) (.slice D7 fr.b.length d7) (.bool fi.s) (.slice A8 fi.a.length c8) (.slice D8 fi.b.length d8)
        have O1 := Q1.put6 (b := w.heap.size + 1) sz (.bool fr.s) (.slice A7 fr.a.length c7) (.slice D7 fr.b.length d7) (.bool fi.s) (.slice A8 fi.a.length c8) (.slice D8 fi.b.length d8)
        have O2 := Q2.put6 (b := w.heap.size + 1) sz (.bool fr.s) (.slice A7 fr.a.length c7) (.slice D7 fr.b.length d7) (.bool fi.s) (.slice A8 fi.a.length c8) (.slice D8 fi.b.length d8)
        have O3 := Q3.put6 (b := w.heap.size + 1) sz (.bool fr.s) (.slice A7 fr.a.length c7) (.slice D7 fr.b.length d7) (.bool fi.s) (.slice A8 fi.a.length c8) (.slice D8 fi.b.length d8)
        have O4 := Q4.put6 (b := w.heap.size + 1) sz (.bool fr.s) (.slice A7 fr.a.length c7) (.slice D7 fr.b.length d7) (.bool fi.s) (.slice A8 fi.a.length c8) (.slice D8 fi.b.length d8)
        have r0' := s6.cell 0
        have r1' := s6.cell 1
        have r2' := s6.cell 2
        have r3' := s6.cell 3
        have r4' := s6.cell 4
        have r5' := s6.cell 5
        refine bodyPost_ret (v := .tuple #[.agg #[.bool fr.s, .slice A7 fr.a.length c7, .slice D7 fr.b.length d7, .bool fi.s, .slice A8 fi.a.length c8, .slice D8 fi.b.length d8], .int .i64 fk]) (by simp [results, r0', r1', r2', r3', r4', r5', go_sem]) rfl ?_
        have hle := Nat.le_of_lt (Nat.lt_of_succ_lt sz)
        exact ⟨A7, c7, D7, d7, A8, c8, D8, d8, rfl, O1.base_le hle, O2.base_le hle, O3.base_le hle, O4.base_le hle, B6⟩
      | true =>
        rw [Bool.true_and] at hsg
        subst hsg
        go_wp2_with fail
        refine (hF _ _ _ _ _ hT hD (st p3 C6) (st p4 C6)).mono ?_; rintro e w7 ⟨A7, c7, D7, d7, A8, c8, D8, d8, rfl, Q1, Q2, Q3, Q4, B7⟩
        dsimp only at Q1 Q2 Q3 Q4
        have kk := kr.nx B7
        have hRC := kk.2.1
        have sz := kr.2.1.2
        go_wp2_with (refine wp_st6 rfl (.tmp 4) (.tmp 97) rfl _ rfl _ _ _ _ _ _ rfl hRC rfl rfl rfl rfl rfl rfl ?_)
        have s6 := hRC.put6 (.bool fr.s) (.slice A7 fr.a.length c7) (.slice D7 fr.b.length d7) (.bool fi.s) (.slice A8 fi.a.length c8) (.slice D8 fi.b.length d8)
        have B6 := wr6_below (b := w.heap.size + 1) kk.2.2 (by omega) (.bool fr.s) (.slice A7 fr.a.length c7) (.slice D7 fr.b.length d7) (.bool fi.s) (.slice A8 fi.a.length c8) (.slice D8 fi.b.length d8)
        have O1 := Q1.put6 (b := w.heap.size + 1) sz (.bool fr.s) (.slice A7 fr.a.length c7) (.slice D7 fr.b.length d7) (.bool fi.s) (.slice A8 fi.a.length c8) (.slice D8 fi.b.length d8)
        have O2 := Q2.put6 (b := w.heap.size + 1) sz (.bool fr.s) (.slice A7 fr.a.length c7) (.slice D7 fr.b.length d7) (.bool fi.s) (.slice A8 fi.a.length c8) (.slice D8 fi.b.length d8)
        have O3 := Q3.put6 (b := w.heap.size + 1) sz (.bool fr.s) (.slice A7 fr.a.length c7) (.slice D7 fr.b.length d7) (.bool fi.s) (.slice A8 fi.a.length c8) (.slice D8 fi.b.length d8)
        have O4 := Q4.put6 (b := w.heap.size + 1) sz (.bool fr.s) (.slice A7 fr.a.length c7) (.slice D7 fr.b.length d7) (.bool fi.s) (.slice A8 fi.a.length c8) (.slice D8 fi.b.length d8)
        have r0' := s6.cell 0
        have r1' := s6.cell 1
        have r2' := s6.cell 2
        have r3' := s6.cell 3
        have r4' := s6.cell 4
        have r5' := s6.cell 5
        refine bodyPost_ret (v := .tuple #[.agg #[.bool fr.s, .slice A7 fr.a.length c7, .slice D7 fr.b.length d7, .bool fi.s, .slice A8 fi.a.length c8, .slice D8 fi.b.length d8], .int .i64 fk]) (by simp [results, r0', r1', r2', r3', r4', r5', go_sem]) rfl ?_
        have hle := Nat.le_of_lt (Nat.lt_of_succ_lt sz)
        exact ⟨A7, c7, D7, d7, A8, c8, D8, d8, rfl, O1.base_le hle, O2.base_le hle, O3.base_le hle, O4.base_le hle, B6⟩


set_option maxRecDepth 100000 in
set_option maxHeartbeats 16000000 in
theorem expt_real_c (x y : Rat) (n : Int) (w : World) (s : Bool) (t d : Nat) (A1 D1 A2 D2 : Option Addr) (c1 d1 c2 d2 : Nat) (p1 : RW w w.heap.size A1 c1 (digs t)) (p2 : RW w w.heap.size D1 d1 (digs d)) (p3 : RW w w.heap.size A2 c2 (digs (qt y))) (p4 : RW w w.heap.size D2 d2 (digs (qd y)))
    (hck : ∀ w' g, SB w' g [.bool s, .slice A1 (digs t).length c1, .slice D1 (digs d).length d1, .bool (qn y), .slice A2 (digs (qt y)).length c2, .slice D2 (digs (qd y)).length d2] → RW w' w'.heap.size A1 c1 (digs t) → RW w' w'.heap.size D1 d1 (digs d) → RW w' w'.heap.size A2 c2 (digs (qt y)) → RW w' w'.heap.size D2 d2 (digs (qd y)) → Calls Try.prog 55 #[.bool false, .slice (some ⟨g, 0, none⟩) 1 1] w' fun e w2 => e = .returned (.int .i64 0) ∧ Below w'.heap.size w' w2)
    (hZ : ∀ w', RW w' w'.heap.size A1 c1 (digs t) → RW w' w'.heap.size D1 d1 (digs d) → RW w' w'.heap.size A2 c2 (digs (qt y)) → RW w' w'.heap.size D2 d2 (digs (qd y)) → Calls Try.prog 61 #[(.agg #[.bool s, .slice A1 (digs t).length c1, .slice D1 (digs d).length d1, .bool (qn y), .slice A2 (digs (qt y)).length c2, .slice D2 (digs (qd y)).length d2])] w' fun e w2 => e = .returned (.bool false) ∧ Below w'.heap.size w' w2)
    (hy : (digs (qt y)).length = 0) (h1 : ¬ n < -1024) (h2 : ¬ 1024 < n) (h3 : n ≠ 0) (hn : n < 0) (m : Nat) (hm : n.natAbs = m) (lt : (digs t).length ≤ 512) (ld : (digs d).length ≤ 512) (fr fi : Rw) (fk : Int) (ans : Rw × Rw × Int) (sgn : Bool) (hsg : sgn = (s && (Int.tmod n 2 != 0)))
    (hF : ∀ T ct D cd w', RW w' w'.heap.size T ct (digs (t ^ m)) → RW w' w'.heap.size D cd (digs (d ^ m)) → RW w' w'.heap.size A2 c2 (digs (qt y)) → RW w' w'.heap.size D2 d2 (digs (qd y)) → Calls Try.prog 56 #[.agg #[.bool sgn, .slice D (digs (d ^ m)).length cd, .slice T (digs (t ^ m)).length ct], (.agg #[.bool (qn y), .slice A2 (digs (qt y)).length c2, .slice D2 (digs (qd y)).length d2])] w' (RetNE w' (fr, fi, fk)))
    (hbig : ∀ k, 1 ≤ k → k < m → (512 < (digs (t ^ (k + 1))).length ∨ 512 < (digs (d ^ (k + 1))).length) → ans = (rw0, rw0, 4)) (hfit : (∀ k, 1 ≤ k → k ≤ m → (digs (t ^ k)).length ≤ 512 ∧ (digs (d ^ k)).length ≤ 512) → ans = (fr, fi, fk)) :
    Calls Try.prog 28 #[(.agg #[.bool s, .slice A1 (digs t).length c1, .slice D1 (digs d).length d1, .bool (qn y), .slice A2 (digs (qt y)).length c2, .slice D2 (digs (qd y)).length d2]), .int .i64 n] w (RetNE w ans) := by
  have k0 := S2.new w [.bool s, .slice A1 (digs t).length c1, .slice D1 (digs d).length d1, .bool (qn y), .slice A2 (digs (qt y)).length c2, .slice D2 (digs (qd y)).length d2] [.bool false, .slice none 0 0, .slice none 0 0, .bool false, .slice none 0 0, .slice none 0 0] 26 26 6
  have C0 := k0.2.2
  have z3 : ((w.alloc (.cells #[.bool s, .slice A1 (digs t).length c1, .slice D1 (digs d).length d1, .bool (qn y), .slice A2 (digs (qt y)).length c2, .slice D2 (digs (qd y)).length d2] 26)).alloc (.cells #[.bool false, .slice none 0 0, .slice none 0 0, .bool false, .slice none 0 0, .slice none 0 0] 26)).heap.size = w.heap.size + 2 := by simp
  have Bs := bal ((w.alloc (.cells #[.bool s, .slice A1 (digs t).length c1, .slice D1 (digs d).length d1, .bool (qn y), .slice A2 (digs (qt y)).length c2, .slice D2 (digs (qd y)).length d2] 26)).alloc (.cells #[.bool false, .slice none 0 0, .slice none 0 0, .bool false, .slice none 0 0, .slice none 0 0] 26)) (.cells #[.bool s, .slice A1 (digs t).length c1, .slice D1 (digs d).length d1, .bool (qn y), .slice A2 (digs (qt y)).length c2, .slice D2 (digs (qd y)).length d2] 26)
  have sg := SB.new ((w.alloc (.cells #[.bool s, .slice A1 (digs t).length c1, .slice D1 (digs d).length d1, .bool (qn y), .slice A2 (digs (qt y)).length c2, .slice D2 (digs (qd y)).length d2] 26)).alloc (.cells #[.bool false, .slice none 0 0, .slice none 0 0, .bool false, .slice none 0 0, .slice none 0 0] 26)) [.bool s, .slice A1 (digs t).length c1, .slice D1 (digs d).length d1, .bool (qn y), .slice A2 (digs (qt y)).length c2, .slice D2 (digs (qd y)).length d2] 26
  rw [z3] at sg
  have C1 := bt C0 Bs
  have k1 := k0.nx Bs
  have hck := hck _ _ sg (st p1 C1) (st p2 C1) (st p3 C1) (st p4 C1)
  clear sg
  have hl : (((digs (qt y)).length : Int) == 0) = true := beq_iff_eq.2 (by omega)
  have e3 : (n == 0) = false := beq_eq_false_iff_ne.2 h3
  have hm1 : 1 ≤ m := by omega
  have hmx : max n (-n) = (m : Int) := by rw [Int.max_def]; split <;> omega
  clear h3 hy
  have q1 := p1
  have q2 := p2
  have hT1 := fun k T ct (w' : World) (h : RW w' w'.heap.size T ct (digs (t ^ k))) (h2 : RW w' w'.heap.size A1 c1 (digs t)) (hk : (digs (t ^ k)).length ≤ 512) => (show Calls Try.prog 62 #[.slice T (digs (t ^ k)).length ct, .slice A1 (digs t).length c1] w' (RetW w' (t ^ (k + 1))) from by
    have hh := times_any T A1 ct c1 _ _ _ _ w' rfl rfl h h2 (by omega) (by omega)
    rw [val_digs, val_digs, ← Nat.pow_succ] at hh
    exact hh)
  have hT2 := fun k T ct (w' : World) (h : RW w' w'.heap.size T ct (digs (d ^ k))) (h2 : RW w' w'.heap.size D1 d1 (digs d)) (hk : (digs (d ^ k)).length ≤ 512) => (show Calls Try.prog 62 #[.slice T (digs (d ^ k)).length ct, .slice D1 (digs d).length d1] w' (RetW w' (d ^ (k + 1))) from by
    have hh := times_any T D1 ct d1 _ _ _ _ w' rfl rfl h h2 (by omega) (by omega)
    rw [val_digs, val_digs, ← Nat.pow_succ] at hh
    exact hh)
  go_enter Try.func28, Try.ntmps28
  go_wp2_with fail
  refine hck.mono ?_; rintro e w3 ⟨rfl, B3⟩
  clear hck
  have k3 := k1.nx B3
  have C3 := k3.2.2
  have j0 := k3.1.cell 0
  have j1 := k3.1.cell 1
  have j2 := k3.1.cell 2
  have j3 := k3.1.cell 3
  have j4 := k3.1.cell 4
  have j5 := k3.1.cell 5
  go_wp2_with fail
  refine (hZ _ (st p1 C3) (st p2 C3) (st p3 C3) (st p4 C3)).mono ?_; rintro e w4 ⟨rfl, B4⟩
  have k4 := k3.nx B4
  clear hZ j0 j1 j2 j3 j4 j5
  have i1 := k4.1.cell 1
  have i2 := k4.1.cell 2
  have i3 := k4.1.cell 3
  have i4 := k4.1.cell 4
  go_upto_region 11 with fail
  go_quiet (fail)
  have B5 := bdN (Below.refl w4.heap.size w4) nq
  obtain ⟨w5, hw5⟩ : ∃ w5, w5 = w4.drewN nq := ⟨_, rfl⟩
  rw [← hw5] at B5 ⊢
  have k5 := k4.nx B5
  have C5 := k5.2.2
  clear hw5 i1 i2 i3 i4
  go_wp2_with fail
  go_loopg [7, 8, 9] (m - 1) (fun gg tv dv kv wr => ∃ (k : Nat) (T : Option Addr) (ct : Nat) (D : Option Addr) (cd : Nat), 1 ≤ k ∧ k ≤ m ∧ m - k = gg ∧ tv = .slice T (digs (t ^ k)).length ct ∧ dv = .slice D (digs (d ^ k)).length cd ∧ kv = .int .i64 (k : Int) ∧ RW wr wr.heap.size T ct (digs (t ^ k)) ∧ RW wr wr.heap.size D cd (digs (d ^ k)) ∧ Hid (∀ j, 1 ≤ j → j ≤ k → (digs (t ^ j)).length ≤ 512 ∧ (digs (d ^ j)).length ≤ 512) ∧ S2 w w.heap.size [.bool s, .slice A1 (digs t).length c1, .slice D1 (digs d).length d1, .bool (qn y), .slice A2 (digs (qt y)).length c2, .slice D2 (digs (qd y)).length d2] 6 wr)
  case atStart =>
    refine ⟨1, A1, c1, D1, d1, Nat.le_refl _, by omega, rfl, ?_, ?_, rfl, ?_, ?_, ?_, k5⟩
    · rw [Nat.pow_one]
    · rw [Nat.pow_one]
    · rw [Nat.pow_one]; exact st p1 C5
    · rw [Nat.pow_one]; exact st p2 C5
    · refine Lib.hid (fun j hj1 hj2 => ?_)
      obtain rfl : j = 1 := by omega
      rw [Nat.pow_one, Nat.pow_one]
      exact ⟨lt, ld⟩
  case round =>
    obtain ⟨k, T, ct, D, cd, hk1, hkm, rfl, rfl, rfl, rfl, hT, hD, hle, kr⟩ := hrel
    by_cases hlt : k < m
    · go_wp2_with fail
      obtain ⟨hlt1, hlt2⟩ := hle.out k hk1 (Nat.le_refl _)
      have hT1 := fun T ct w' h h2 => hT1 k T ct w' h h2 hlt1
      have hT2 := fun T ct w' h h2 => hT2 k T ct w' h h2 hlt2
      have q1 := fun (w' : World) (B : Below w.heap.size w w') => st p1 B
      have q2 := fun (w' : World) (B : Below w.heap.size w w') => st p2 B
      have kr2 : S2R w wr w.heap.size [.bool s, .slice A1 (digs t).length c1, .slice D1 (digs d).length d1, .bool (qn y), .slice A2 (digs (qt y)).length c2, .slice D2 (digs (qd y)).length d2] 6 wr := ⟨kr, Below.refl _ _⟩
      have kr2d := kr2.dr
      have kr2s := And.intro (kr2d.1.1.cell 1) (And.intro (kr2d.1.1.cell 2) (kr2d))
      go_region_held3 (fun w' => w'.cell? ⟨w.heap.size, 1, none⟩ = some (.slice A1 (digs t).length c1) ∧ w'.cell? ⟨w.heap.size, 2, none⟩ = some (.slice D1 (digs d).length d1) ∧ S2R w wr w.heap.size [.bool s, .slice A1 (digs t).length c1, .slice D1 (digs d).length d1, .bool (qn y), .slice A2 (digs (qt y)).length c2, .slice D2 (digs (qd y)).length d2] 6 w')
        (first
          | with_reducible exact kr2s
          | (have s1 := (by with_reducible assumption : _ ∧ _ ∧ S2R w wr w.heap.size [.bool s, .slice A1 (digs t).length c1, .slice D1 (digs d).length d1, .bool (qn y), .slice A2 (digs (qt y)).length c2, .slice D2 (digs (qd y)).length d2] 6 _).2.2.nx BX; have q0_ := s1.1.1.cell 1; have q1_ := s1.1.1.cell 2; with_reducible exact ⟨q0_, q1_, s1⟩))
        (first
          | (go_at_call_of 62 (Value.slice T (digs (t ^ k)).length ct); have hh := (by with_reducible assumption : _ ∧ _ ∧ S2R w wr w.heap.size [.bool s, .slice A1 (digs t).length c1, .slice D1 (digs d).length d1, .bool (qn y), .slice A2 (digs (qt y)).length c2, .slice D2 (digs (qd y)).length d2] 6 _).2.2; refine (hT1 T ct _ (st hT hh.2) (q1 _ hh.1.2.2)).mono ?_; rintro e w21 ⟨T2, ct2, rfl, O1, BX⟩)
          | (go_at_call_of 62 (Value.slice D (digs (d ^ k)).length cd); have hh := (by with_reducible assumption : _ ∧ _ ∧ S2R w wr w.heap.size [.bool s, .slice A1 (digs t).length c1, .slice D1 (digs d).length d1, .bool (qn y), .slice A2 (digs (qt y)).length c2, .slice D2 (digs (qd y)).length d2] 6 _).2.2; refine (hT2 D cd _ (st hD hh.2) (q2 _ hh.1.2.2)).mono ?_; rintro e w22 ⟨U2, cu2, rfl, O2, BX⟩; have O1 := O1.below BX (Nat.le_refl _); have kk := hh.nx BX))
      clear hT1 hT2 q1 q2 kr2 kr2d kr2s
      have kk := kk.1
      by_cases l1 : 512 < (digs (t ^ (k + 1))).length
      rotate_left
      by_cases l2 : 512 < (digs (d ^ (k + 1))).length
      rotate_left
      rotate_left
      · have hans := hbig k hk1 hlt (.inl l1)
        subst hans
        clear hbig hfit
        have hRC := kk.2.1
        go_wp2_with (refine wp_st6 rfl (.tmp 4) (.tmp 78) rfl _ rfl _ _ _ _ _ _ rfl hRC rfl rfl rfl rfl rfl rfl ?_)
        have s6 := hRC.put6 (.bool false) (.slice none 0 0) (.slice none 0 0) (.bool false) (.slice none 0 0) (.slice none 0 0)
        have B6 := wr6_below (b := w.heap.size + 1) kk.2.2 (by omega) (.bool false) (.slice none 0 0) (.slice none 0 0) (.bool false) (.slice none 0 0) (.slice none 0 0)
        have r0' := s6.cell 0
        have r1' := s6.cell 1
        have r2' := s6.cell 2
        have r3' := s6.cell 3
        have r4' := s6.cell 4
        have r5' := s6.cell 5
        refine bodyPost_ret (v := .tuple #[.agg #[.bool false, .slice none 0 0, .slice none 0 0, .bool false, .slice none 0 0, .slice none 0 0], .int .i64 4]) (by simp [results, r0', r1', r2', r3', r4', r5', go_sem]) rfl ?_
        exact retNE_nil 4 B6
      · have hans := hbig k hk1 hlt (.inr l2)
        subst hans
        clear hbig hfit
        have hRC := kk.2.1
        go_wp2_with (refine wp_st6 rfl (.tmp 4) (.tmp 78) rfl _ rfl _ _ _ _ _ _ rfl hRC rfl rfl rfl rfl rfl rfl ?_)
        have s6 := hRC.put6 (.bool false) (.slice none 0 0) (.slice none 0 0) (.bool false) (.slice none 0 0) (.slice none 0 0)
        have B6 := wr6_below (b := w.heap.size + 1) kk.2.2 (by omega) (.bool false) (.slice none 0 0) (.slice none 0 0) (.bool false) (.slice none 0 0) (.slice none 0 0)
        have r0' := s6.cell 0
        have r1' := s6.cell 1
        have r2' := s6.cell 2
        have r3' := s6.cell 3
        have r4' := s6.cell 4
        have r5' := s6.cell 5
        refine bodyPost_ret (v := .tuple #[.agg #[.bool false, .slice none 0 0, .slice none 0 0, .bool false, .slice none 0 0, .slice none 0 0], .int .i64 4]) (by simp [results, r0', r1', r2', r3', r4', r5', go_sem]) rfl ?_
        exact retNE_nil 4 B6
      · go_wp2_with fail
        go_roundg (m - (k + 1))
        case measure => omega
        case rel => exact ⟨k + 1, T2, ct2, U2, cu2, by omega, by omega, rfl, rfl, rfl, by go_num, O1.rw, O2.rw, Lib.hid (fun j hj1 hj2 => by
          by_cases hj : j ≤ k
          · exact hle.out j hj1 hj
          · obtain rfl : j = k + 1 := by omega
            exact ⟨by omega, by omega⟩), kk⟩
    · have hkm' : k = m := by omega
      clear hlt hm1 hkm hk1
      subst hkm'
      have hans := hfit (fun j h1 h2 => hle.out j h1 h2)
      subst hans
      clear hbig hfit hle
      have i0 := kr.1.cell 0
      have i3 := kr.1.cell 3
      have i4 := kr.1.cell 4
      have i5 := kr.1.cell 5
      have C6 := kr.2.2
      cases s with
      | false =>
        obtain rfl : sgn = false := by simpa using hsg
        clear hsg
        go_wp2_with fail
        refine (hF _ _ _ _ _ hT hD (st p3 C6) (st p4 C6)).mono ?_; rintro e w7 ⟨A7, c7, D7, d7, A8, c8, D8, d8, rfl, Q1, Q2, Q3, Q4, B7⟩
        dsimp only at Q1 Q2 Q3 Q4
        have kk := kr.nx B7
        have hRC := kk.2.1
        have sz := kr.2.1.2
        go_wp2_with (refine wp_st6 rfl (.tmp 4) (.tmp 97) rfl _ rfl _ _ _ _ _ _ rfl hRC rfl rfl rfl rfl rfl rfl ?_)
        have s6 := hRC.put6 (.bool fr.s) (.slice A7 fr.a.length c7) (.slice D7 fr.b.length d7) (.bool fi.s) (.slice A8 fi.a.length c8) (.slice D8 fi.b.length d8)
        have B6 := wr6_below (b := w.heap.size + 1) kk.2.2 (by omega) (.bool fr.s) (.slice A7 fr.a.length c7) (.slice D7 fr.b.length d7) (.bool fi.s) (.slice A8 fi.a.length c8) (.slice D8 fi.b.length d8)
        have O1 := Q1.put6 (b := w.heap.size + 1) sz (.bool fr.s) (.slice A7 fr.a.length c7) (.slice D7 fr.b.length d7) (.bool fi.s) (.slice A8 fi.a.length c8) (.slice D8 fi.b.length d8)
        have O2 := Q2.put6 (b := w.heap.size + 1) sz (.bool fr.s) (.slice A7 fr.a.length c7) (.slice D7 fr.b.length d7) (.bool fi.s) (.slice A8 fi.a.length c8) (.slice D8 fi.b.length d8)
        have O3 := Q3.put6 (b := w.heap.size + 1) sz (.bool fr.s) (.slice A7 fr.a.length c7) (.slice D7 fr.b.length d7) (.bool fi.s) (.slice A8 fi.a.length c8) (.slice D8 fi.b.length d8)
        have O4 := Q4.put6 (b := w.heap.size + 1) sz (.bool fr.s) (.slice A7 fr.a.length c7) (.slice D7 fr.b.length d7) (.bool fi.s) (.slice A8 fi.a.length c8) (.slice D8 fi.b.length d8)
        have r0' := s6.cell 0
        have r1' := s6.cell 1
        have r2' := s6.cell 2
        have r3' := s6.cell 3
        have r4' := s6.cell 4
        have r5' := s6.cell 5
        refine bodyPost_ret (v := .tuple #[.agg #[.bool fr.s, .slice A7 fr.a.length c7, .slice D7 fr.b.length d7, .bool fi.s, .slice A8 fi.a.length c8, .slice D8 fi.b.length d8], .int .i64 fk]) (by simp [results, r0', r1', r2', r3', r4', r5', go_sem]) rfl ?_
        have hle := Nat.le_of_lt (Nat.lt_of_succ_lt sz)
        exact ⟨A7, c7, D7, d7, A8, c8, D8, d8, rfl, O1.base_le hle, O2.base_le hle, O3.base_le hle, O4.base_le hle, B6⟩
      | true =>
        rw [Bool.true_and] at hsg
        subst hsg
        go_wp2_with fail
        refine (hF _ _ _ _ _ hT hD (st p3 C6) (st p4 C6)).mono ?_; rintro e w7 ⟨A7, c7, D7, d7, A8, c8, D8, d8, rfl, Q1, Q2, Q3, Q4, B7⟩
        dsimp only at Q1 Q2 Q3 Q4
        have kk := kr.nx B7
        have hRC := kk.2.1
        have sz := kr.2.1.2
        go_wp2_with (refine wp_st6 rfl (.tmp 4) (.tmp 97) rfl _ rfl _ _ _ _ _ _ rfl hRC rfl rfl rfl rfl rfl rfl ?_)
        have s6 := hRC.put6 (.bool fr.s) (.slice A7 fr.a.length c7) (.slice D7 fr.b.length d7) (.bool fi.s) (.slice A8 fi.a.length c8) (.slice D8 fi.b.length d8)
        have B6 := wr6_below (b := w.heap.size + 1) kk.2.2 (by omega) (.bool fr.s) (.slice A7 fr.a.length c7) (.slice D7 fr.b.length d7) (.bool fi.s) (.slice A8 fi.a.length c8) (.slice D8 fi.b.length d8)
        have O1 := Q1.put6 (b := w.heap.size + 1) sz (.bool fr.s) (.slice A7 fr.a.length c7) (.slice D7 fr.b.length d7) (.bool fi.s) (.slice A8 fi.a.length c8) (.slice D8 fi.b.length d8)
        have O2 := Q2.put6 (b := w.heap.size + 1) sz (.bool fr.s) (.slice A7 fr.a.length c7) (.slice D7 fr.b.length d7) (.bool fi.s) (.slice A8 fi.a.length c8) (.slice D8 fi.b.length d8)
        have O3 := Q3.put6 (b := w.heap.size + 1) sz (.bool fr.s) (.slice A7 fr.a.length c7) (.slice D7 fr.b.length d7) (.bool fi.s) (.slice A8 fi.a.length c8) (.slice D8 fi.b.length d8)
        have O4 := Q4.put6 (b := w.heap.size + 1) sz (.bool fr.s) (.slice A7 fr.a.length c7) (.slice D7 fr.b.length d7) (.bool fi.s) (.slice A8 fi.a.length c8) (.slice D8 fi.b.length d8)
        have r0' := s6.cell 0
        have r1' := s6.cell 1
        have r2' := s6.cell 2
        have r3' := s6.cell 3
        have r4' := s6.cell 4
        have r5' := s6.cell 5
        refine bodyPost_ret (v := .tuple #[.agg #[.bool fr.s, .slice A7 fr.a.length c7, .slice D7 fr.b.length d7, .bool fi.s, .slice A8 fi.a.length c8, .slice D8 fi.b.length d8], .int .i64 fk]) (by simp [results, r0', r1', r2', r3', r4', r5', go_sem]) rfl ?_
        have hle := Nat.le_of_lt (Nat.lt_of_succ_lt sz)
        exact ⟨A7, c7, D7, d7, A8, c8, D8, d8, rfl, O1.base_le hle, O2.base_le hle, O3.base_le hle, O4.base_le hle, B6⟩

end Go.Proofs.Ytnlgoedklmjhlaa
namespace Go.Proofs.Ytnlgoedklmjhlaa
open Go.RowKit

theorem S2.far6 {w w1 : World} {b g n : Nat} {l1 : List Value} (h : S2 w b l1 n w1) (hg : b + 1 < g) (x y z x' y' z' : Value) : S2 w b l1 n (wr6 w1 g x y z x' y' z') :=
  ⟨h.1.wr6 (by omega) x y z x' y' z', (h.2.1.sb.wr6 (by omega) x y z x' y' z').rc (by simp), wr6_below h.2.2 (by omega) x y z x' y' z'⟩
/-- a number of rationals, in its own words -/
def RetP (w : World) (p q : Rat) (e : Ending) (w' : World) : Prop := ∃ A1 c1 D1 d1 A2 c2 D2 d2, e = .returned (.agg #[.bool (qn p), .slice A1 (digs (qt p)).length c1, .slice D1 (digs (qd p)).length d1, .bool (qn q), .slice A2 (digs (qt q)).length c2, .slice D2 (digs (qd q)).length d2]) ∧
  OW w' w.heap.size A1 c1 (digs (qt p)) ∧ OW w' w.heap.size D1 d1 (digs (qd p)) ∧ OW w' w.heap.size A2 c2 (digs (qt q)) ∧ OW w' w.heap.size D2 d2 (digs (qd q)) ∧ Below w.heap.size w w'
theorem fitQ_code {p q : Rat} (h : qw p ≤ 512 ∧ qw q ≤ 512) : (fitQ p q).2.2 = 0 := by unfold fitQ; rw [if_pos h]
theorem fitQ_code4 {p q : Rat} (h : ¬ (qw p ≤ 512 ∧ qw q ≤ 512)) : (fitQ p q).2.2 = 4 := by unfold fitQ; rw [if_neg h]


set_option maxRecDepth 100000 in
set_option maxHeartbeats 16000000 in
theorem expt_cx_pos (V : Value) (x y : Rat) (n : Int) (w : World) (hV : RN w w.heap.size V x y) (bx : qw x ≤ 512) (by_ : qw y ≤ 512) (hy : (digs (qt y)).length ≠ 0) (h1 : ¬ n < -1024) (h2 : ¬ 1024 < n) (h3 : n ≠ 0) (hn : ¬ n < 0) (m : Nat) (hm : n.natAbs = m) (p q : Nat → Rat) (hp : p 1 = x) (hq : q 1 = y)
    (hT : ∀ k V U w', RN w' w'.heap.size V (p k) (q k) → RN w' w'.heap.size U x y → qw (p k) ≤ 512 ∧ qw (q k) ≤ 512 → Calls Try.prog 63 #[V, U] w' (RetP w' (p (k + 1)) (q (k + 1))))
    (fr fi : Rw) (fk : Int) (ans : Rw × Rw × Int)
    (hF : ∀ V U w', RQ w' w'.heap.size V (p m) → RQ w' w'.heap.size U (q m) → Calls Try.prog 56 #[V, U] w' (RetNE w' (fr, fi, fk)))
    (hbig : ∀ k, 1 ≤ k → k < m → ¬ (qw (p (k + 1)) ≤ 512 ∧ qw (q (k + 1)) ≤ 512) → ans = (rw0, rw0, 4)) (hfit : (∀ k, 1 ≤ k → k ≤ m → qw (p k) ≤ 512 ∧ qw (q k) ≤ 512) → ans = (fr, fi, fk)) :
    Calls Try.prog 28 #[V, .int .i64 n] w (RetNE w ans) := by
  obtain ⟨A1, c1, D1, d1, A2, c2, D2, d2, rfl, p1, p2, p3, p4⟩ := hV
  have Ha : VN w w.heap.size (.agg #[.bool (qn x), .slice A1 (digs (qt x)).length c1, .slice D1 (digs (qd x)).length d1, .bool (qn y), .slice A2 (digs (qt y)).length c2, .slice D2 (digs (qd y)).length d2]) (rwq x) (rwq y) := ⟨A1, c1, D1, d1, A2, c2, D2, d2, rfl, p1, p2, p3, p4⟩
  simp only [rwq] at p1 p2 p3 p4
  have k0 := S2.new w [.bool (qn x), .slice A1 (digs (qt x)).length c1, .slice D1 (digs (qd x)).length d1, .bool (qn y), .slice A2 (digs (qt y)).length c2, .slice D2 (digs (qd y)).length d2] [.bool false, .slice none 0 0, .slice none 0 0, .bool false, .slice none 0 0, .slice none 0 0] 26 26 6
  have C0 := k0.2.2
  have z3 : ((w.alloc (.cells #[.bool (qn x), .slice A1 (digs (qt x)).length c1, .slice D1 (digs (qd x)).length d1, .bool (qn y), .slice A2 (digs (qt y)).length c2, .slice D2 (digs (qd y)).length d2] 26)).alloc (.cells #[.bool false, .slice none 0 0, .slice none 0 0, .bool false, .slice none 0 0, .slice none 0 0] 26)).heap.size = w.heap.size + 2 := by simp
  have Bs := bal ((w.alloc (.cells #[.bool (qn x), .slice A1 (digs (qt x)).length c1, .slice D1 (digs (qd x)).length d1, .bool (qn y), .slice A2 (digs (qt y)).length c2, .slice D2 (digs (qd y)).length d2] 26)).alloc (.cells #[.bool false, .slice none 0 0, .slice none 0 0, .bool false, .slice none 0 0, .slice none 0 0] 26)) (.cells #[.bool (qn x), .slice A1 (digs (qt x)).length c1, .slice D1 (digs (qd x)).length d1, .bool (qn y), .slice A2 (digs (qt y)).length c2, .slice D2 (digs (qd y)).length d2] 26)
  have sg := SB.new ((w.alloc (.cells #[.bool (qn x), .slice A1 (digs (qt x)).length c1, .slice D1 (digs (qd x)).length d1, .bool (qn y), .slice A2 (digs (qt y)).length c2, .slice D2 (digs (qd y)).length d2] 26)).alloc (.cells #[.bool false, .slice none 0 0, .slice none 0 0, .bool false, .slice none 0 0, .slice none 0 0] 26)) [.bool (qn x), .slice A1 (digs (qt x)).length c1, .slice D1 (digs (qd x)).length d1, .bool (qn y), .slice A2 (digs (qt y)).length c2, .slice D2 (digs (qd y)).length d2] 26
  rw [z3] at sg
  have C1 := bt C0 Bs
  have k1 := k0.nx Bs
  have hck := check1x_any false (w.heap.size + 2) _ _ _ _ _ _ _ _ _ _ _ _ _ _ _ sg (st p1 C1) (st p2 C1) (st p3 C1) (st p4 C1)
  rw [show chkN1 false ⟨qn x, digs (qt x), digs (qd x)⟩ ⟨qn y, digs (qt y), digs (qd y)⟩ = 0 from chk_ok bx by_] at hck
  clear sg
  have h0 : ¬ (x = 0 ∧ y = 0) := fun h => hy (by rw [h.2]; exact digs_len0.2 rfl)
  have hZ := fun w' h => zero_any (.agg #[.bool (qn x), .slice A1 (digs (qt x)).length c1, .slice D1 (digs (qd x)).length d1, .bool (qn y), .slice A2 (digs (qt y)).length c2, .slice D2 (digs (qd y)).length d2]) (rwq x) (rwq y) w' h
  rw [zeroB_q] at hZ
  rw [decide_eq_false h0] at hZ
  have hl : (((digs (qt y)).length : Int) == 0) = false := beq_eq_false_iff_ne.2 (by omega)
  have e3 : (n == 0) = false := beq_eq_false_iff_ne.2 h3
  have hm1 : 1 ≤ m := by omega
  have hmx : max n (-n) = (m : Int) := by rw [Int.max_def]; split <;> omega
  have hFit := fun k V U w' h1 h2 => efit_any V U (p k) (q k) w' h1 h2
  clear h0 h3 hy
  go_enter Try.func28, Try.ntmps28
  go_wp2_with fail
  refine hck.mono ?_; rintro e w3 ⟨rfl, B3⟩
  clear hck
  have k3 := k1.nx B3
  have C3 := k3.2.2
  have j0 := k3.1.cell 0
  have j1 := k3.1.cell 1
  have j2 := k3.1.cell 2
  have j3 := k3.1.cell 3
  have j4 := k3.1.cell 4
  have j5 := k3.1.cell 5
  go_wp2_with fail
  refine (hZ _ (Ha.st C3)).mono ?_; rintro e w4 ⟨rfl, B4⟩
  have k4 := k3.nx B4
  clear hZ j0 j1 j2 j3 j4 j5
  have C4 := k4.2.2
  have i0 := k4.1.cell 0
  have i1 := k4.1.cell 1
  have i2 := k4.1.cell 2
  have i3 := k4.1.cell 3
  have i4 := k4.1.cell 4
  have i5 := k4.1.cell 5
  have L := bal w4 (.cells #[.bool (qn x), .slice A1 (digs (qt x)).length c1, .slice D1 (digs (qd x)).length d1, .bool (qn y), .slice A2 (digs (qt y)).length c2, .slice D2 (digs (qd y)).length d2] 26)
  have sp := SB.new w4 [.bool (qn x), .slice A1 (digs (qt x)).length c1, .slice D1 (digs (qd x)).length d1, .bool (qn y), .slice A2 (digs (qt y)).length c2, .slice D2 (digs (qd y)).length d2] 26
  have hg : w.heap.size + 1 < w4.heap.size := k4.2.1.2
  have k5 := k4.nx L
  have C5 := bt C4 L
  obtain ⟨W5, hW5⟩ : ∃ W5, W5 = w4.alloc (.cells #[.bool (qn x), .slice A1 (digs (qt x)).length c1, .slice D1 (digs (qd x)).length d1, .bool (qn y), .slice A2 (digs (qt y)).length c2, .slice D2 (digs (qd y)).length d2] 26) := ⟨_, rfl⟩
  rw [← hW5] at L sp k5 C5
  go_wp2_with fail
  rw [← hW5]
  clear hW5 L i0 i1 i2 i3 i4 i5 k4
  generalize w4.heap.size = g at *
  go_loopg [11] (m - 1) (fun gg kv wr => ∃ (k : Nat) (Apa Dpa Apb Dpb : Option Addr) (cpa dpa cpb dpb : Nat), 1 ≤ k ∧ k ≤ m ∧ m - k = gg ∧ kv = .int .i64 (k : Int) ∧ SB wr g [.bool (qn (p k)), .slice Apa (digs (qt (p k))).length cpa, .slice Dpa (digs (qd (p k))).length dpa, .bool (qn (q k)), .slice Apb (digs (qt (q k))).length cpb, .slice Dpb (digs (qd (q k))).length dpb] ∧ RW wr wr.heap.size Apa cpa (digs (qt (p k))) ∧ RW wr wr.heap.size Dpa dpa (digs (qd (p k))) ∧ RW wr wr.heap.size Apb cpb (digs (qt (q k))) ∧ RW wr wr.heap.size Dpb dpb (digs (qd (q k))) ∧ Hid (∀ j, 1 ≤ j → j ≤ k → qw (p j) ≤ 512 ∧ qw (q j) ≤ 512) ∧ S2 w w.heap.size [.bool (qn x), .slice A1 (digs (qt x)).length c1, .slice D1 (digs (qd x)).length d1, .bool (qn y), .slice A2 (digs (qt y)).length c2, .slice D2 (digs (qd y)).length d2] 6 wr)
  case atStart =>
    refine ⟨1, A1, D1, A2, D2, c1, d1, c2, d2, Nat.le_refl _, hm1, rfl, rfl, ?_, ?_, ?_, ?_, ?_, ?_, k5⟩
    · rw [hp, hq]; exact sp
    · rw [hp]; exact st p1 C5
    · rw [hp]; exact st p2 C5
    · rw [hq]; exact st p3 C5
    · rw [hq]; exact st p4 C5
    · refine Lib.hid (fun j hj1 hj2 => ?_)
      obtain rfl : j = 1 := by omega
      rw [hp, hq]
      exact ⟨bx, by_⟩
  case round =>
    clear sp k5 C5 p1 p2 p3 p4
    obtain ⟨k, Apa, Dpa, Apb, Dpb, cpa, dpa, cpb, dpb, hk1, hkm, rfl, rfl, sp, h1, h2, h3, h4, hle, kr⟩ := hrel
    by_cases hlt : k < m
    · have i0 := kr.1.cell 0
      have i1 := kr.1.cell 1
      have i2 := kr.1.cell 2
      have i3 := kr.1.cell 3
      have i4 := kr.1.cell 4
      have i5 := kr.1.cell 5
      have j0 := sp.cell 0
      have j1 := sp.cell 1
      have j2 := sp.cell 2
      have j3 := sp.cell 3
      have j4 := sp.cell 4
      have j5 := sp.cell 5
      have C6 := kr.2.2
      go_wp2_with fail
      refine (hT k _ _ _ ⟨Apa, cpa, Dpa, dpa, Apb, cpb, Dpb, dpb, rfl, h1, h2, h3, h4⟩ (Ha.st C6) (hle.out k hk1 (Nat.le_refl _))).mono ?_; rintro e w21 ⟨Ara, cra, Dra, dra, Arb, crb, Drb, drb, rfl, O1, O2, O3, O4, B21⟩
      have kr := kr.nx B21
      have hgl := sp.2
      have sp := sp.nx B21
      have hRC := sp.rc (n := 6)
      clear i0 i1 i2 i3 i4 i5 j0 j1 j2 j3 j4 j5 h1 h2 h3 h4
      have sp := hRC.put6 (.bool (qn (p (k + 1)))) (.slice Ara (digs (qt (p (k + 1)))).length cra) (.slice Dra (digs (qd (p (k + 1)))).length dra) (.bool (qn (q (k + 1)))) (.slice Arb (digs (qt (q (k + 1)))).length crb) (.slice Drb (digs (qd (q (k + 1)))).length drb)
      have kr := kr.far6 hg (.bool (qn (p (k + 1)))) (.slice Ara (digs (qt (p (k + 1)))).length cra) (.slice Dra (digs (qd (p (k + 1)))).length dra) (.bool (qn (q (k + 1)))) (.slice Arb (digs (qt (q (k + 1)))).length crb) (.slice Drb (digs (qd (q (k + 1)))).length drb)
      have O1 := O1.put6 (b := g) hgl (.bool (qn (p (k + 1)))) (.slice Ara (digs (qt (p (k + 1)))).length cra) (.slice Dra (digs (qd (p (k + 1)))).length dra) (.bool (qn (q (k + 1)))) (.slice Arb (digs (qt (q (k + 1)))).length crb) (.slice Drb (digs (qd (q (k + 1)))).length drb)
      have O2 := O2.put6 (b := g) hgl (.bool (qn (p (k + 1)))) (.slice Ara (digs (qt (p (k + 1)))).length cra) (.slice Dra (digs (qd (p (k + 1)))).length dra) (.bool (qn (q (k + 1)))) (.slice Arb (digs (qt (q (k + 1)))).length crb) (.slice Drb (digs (qd (q (k + 1)))).length drb)
      have O3 := O3.put6 (b := g) hgl (.bool (qn (p (k + 1)))) (.slice Ara (digs (qt (p (k + 1)))).length cra) (.slice Dra (digs (qd (p (k + 1)))).length dra) (.bool (qn (q (k + 1)))) (.slice Arb (digs (qt (q (k + 1)))).length crb) (.slice Drb (digs (qd (q (k + 1)))).length drb)
      have O4 := O4.put6 (b := g) hgl (.bool (qn (p (k + 1)))) (.slice Ara (digs (qt (p (k + 1)))).length cra) (.slice Dra (digs (qd (p (k + 1)))).length dra) (.bool (qn (q (k + 1)))) (.slice Arb (digs (qt (q (k + 1)))).length crb) (.slice Drb (digs (qd (q (k + 1)))).length drb)
      obtain ⟨W, hW⟩ : ∃ W, W = wr6 w21 g (.bool (qn (p (k + 1)))) (.slice Ara (digs (qt (p (k + 1)))).length cra) (.slice Dra (digs (qd (p (k + 1)))).length dra) (.bool (qn (q (k + 1)))) (.slice Arb (digs (qt (q (k + 1)))).length crb) (.slice Drb (digs (qd (q (k + 1)))).length drb) := ⟨_, rfl⟩
      rw [← hW] at sp kr O1 O2 O3 O4
      go_upto_region 26 with ((refine wp_st6 rfl (.tmp 10) (.tmp 110) rfl _ rfl _ _ _ _ _ _ rfl hRC rfl rfl rfl rfl rfl rfl ?_; rw [← hW]; clear hW))
      clear hRC B21
      have j0 := sp.cell 0
      have j1 := sp.cell 1
      have j2 := sp.cell 2
      have j3 := sp.cell 3
      have j4 := sp.cell 4
      have j5 := sp.cell 5
      have hf := hFit (k + 1)
      have hc : (fitQ (p (k + 1)) (q (k + 1))).2.2 = 0 ∨ (fitQ (p (k + 1)) (q (k + 1))).2.2 = 4 := by
        by_cases hb : qw (p (k + 1)) ≤ 512 ∧ qw (q (k + 1)) ≤ 512
        · exact .inl (fitQ_code hb)
        · exact .inr (fitQ_code4 hb)
      have hc0 : (fitQ (p (k + 1)) (q (k + 1))).2.2 = 0 → qw (p (k + 1)) ≤ 512 ∧ qw (q (k + 1)) ≤ 512 := fun h => by
        by_cases hb : qw (p (k + 1)) ≤ 512 ∧ qw (q (k + 1)) ≤ 512
        · exact hb
        · rw [fitQ_code4 hb] at h; exact absurd h (by decide)
      have hc4 : (fitQ (p (k + 1)) (q (k + 1))).2.2 = 4 → ans = (rw0, rw0, 4) := fun h => hbig k hk1 hlt (fun hb => by rw [fitQ_code hb] at h; exact absurd h (by decide))
      generalize fitQ (p (k + 1)) (q (k + 1)) = ft at *
      obtain ⟨ur, ui, uk⟩ := ft
      dsimp only at hc hc0 hc4
      go_wp2_with fail
      refine (hf _ _ _ ⟨Ara, cra, Dra, dra, rfl, O1.rw, O2.rw⟩ ⟨Arb, crb, Drb, drb, rfl, O3.rw, O4.rw⟩).mono ?_; rintro e w22 ⟨A9, c9, D9, d9, A10, c10, D10, d10, rfl, _, _, _, _, B22⟩
      have L := bal w22 (.cells #[.bool ur.s, .slice A9 ur.a.length c9, .slice D9 ur.b.length d9, .bool ui.s, .slice A10 ui.a.length c10, .slice D10 ui.b.length d10] 26)
      have kk := (kr.nx B22).nx L
      have sp := (sp.nx B22).nx L
      clear j0 j1 j2 j3 j4 j5 hf
      have BL := bt B22 L
      rcases hc with hc | hc
      · subst hc
        have hb := hc0 rfl
        clear hc0 hc4 kr
        go_wp2_with fail
        go_roundg (m - (k + 1))
        case measure => omega
        case rel => exact ⟨k + 1, Ara, Dra, Arb, Drb, cra, dra, crb, drb, by omega, by omega, rfl, by go_num, sp, st O1.rw BL, st O2.rw BL, st O3.rw BL, st O4.rw BL, Lib.hid (fun j hj1 hj2 => by
          by_cases hj : j ≤ k
          · exact hle.out j hj1 hj
          · obtain rfl : j = k + 1 := by omega
            exact hb), kk⟩
      · subst hc
        have hans := hc4 rfl
        subst hans
        clear hc0 hc4 kr hbig hfit
        have hRC := kk.2.1
        go_wp2_with (refine wp_st6 rfl (.tmp 4) (.tmp 121) rfl _ rfl _ _ _ _ _ _ rfl hRC rfl rfl rfl rfl rfl rfl ?_)
        have s6 := hRC.put6 (.bool false) (.slice none 0 0) (.slice none 0 0) (.bool false) (.slice none 0 0) (.slice none 0 0)
        have B6 := wr6_below (b := w.heap.size + 1) kk.2.2 (by omega) (.bool false) (.slice none 0 0) (.slice none 0 0) (.bool false) (.slice none 0 0) (.slice none 0 0)
        have r0' := s6.cell 0
        have r1' := s6.cell 1
        have r2' := s6.cell 2
        have r3' := s6.cell 3
        have r4' := s6.cell 4
        have r5' := s6.cell 5
        refine bodyPost_ret (v := .tuple #[.agg #[.bool false, .slice none 0 0, .slice none 0 0, .bool false, .slice none 0 0, .slice none 0 0], .int .i64 4]) (by simp [results, r0', r1', r2', r3', r4', r5', go_sem]) rfl ?_
        exact retNE_nil 4 B6
    · have hkm' : k = m := by omega
      have hbm := hle.out k hk1 (Nat.le_refl _)
      clear hlt hm1 hkm hk1
      subst hkm'
      have hans := hfit (fun j h1 h2 => hle.out j h1 h2)
      subst hans
      clear hbig hfit hle hT hFit
      have j0 := sp.cell 0
      have j1 := sp.cell 1
      have j2 := sp.cell 2
      have j3 := sp.cell 3
      have j4 := sp.cell 4
      have j5 := sp.cell 5
      go_wp2_with fail
      refine (hF _ _ _ ⟨Apa, cpa, Dpa, dpa, rfl, h1, h2⟩ ⟨Apb, cpb, Dpb, dpb, rfl, h3, h4⟩).mono ?_; rintro e w7 ⟨A7, c7, D7, d7, A8, c8, D8, d8, rfl, Q1, Q2, Q3, Q4, B7⟩
      dsimp only at Q1 Q2 Q3 Q4
      have sz := kr.2.1.2
      have kk := kr.nx B7
      have hRC := kk.2.1
      go_wp2_with (refine wp_st6 rfl (.tmp 4) (.tmp 132) rfl _ rfl _ _ _ _ _ _ rfl hRC rfl rfl rfl rfl rfl rfl ?_)
      have s6 := hRC.put6 (.bool fr.s) (.slice A7 fr.a.length c7) (.slice D7 fr.b.length d7) (.bool fi.s) (.slice A8 fi.a.length c8) (.slice D8 fi.b.length d8)
      have B6 := wr6_below (b := w.heap.size + 1) kk.2.2 (by omega) (.bool fr.s) (.slice A7 fr.a.length c7) (.slice D7 fr.b.length d7) (.bool fi.s) (.slice A8 fi.a.length c8) (.slice D8 fi.b.length d8)
      have O1 := Q1.put6 (b := w.heap.size + 1) sz (.bool fr.s) (.slice A7 fr.a.length c7) (.slice D7 fr.b.length d7) (.bool fi.s) (.slice A8 fi.a.length c8) (.slice D8 fi.b.length d8)
      have O2 := Q2.put6 (b := w.heap.size + 1) sz (.bool fr.s) (.slice A7 fr.a.length c7) (.slice D7 fr.b.length d7) (.bool fi.s) (.slice A8 fi.a.length c8) (.slice D8 fi.b.length d8)
      have O3 := Q3.put6 (b := w.heap.size + 1) sz (.bool fr.s) (.slice A7 fr.a.length c7) (.slice D7 fr.b.length d7) (.bool fi.s) (.slice A8 fi.a.length c8) (.slice D8 fi.b.length d8)
      have O4 := Q4.put6 (b := w.heap.size + 1) sz (.bool fr.s) (.slice A7 fr.a.length c7) (.slice D7 fr.b.length d7) (.bool fi.s) (.slice A8 fi.a.length c8) (.slice D8 fi.b.length d8)
      have r0' := s6.cell 0
      have r1' := s6.cell 1
      have r2' := s6.cell 2
      have r3' := s6.cell 3
      have r4' := s6.cell 4
      have r5' := s6.cell 5
      refine bodyPost_ret (v := .tuple #[.agg #[.bool fr.s, .slice A7 fr.a.length c7, .slice D7 fr.b.length d7, .bool fi.s, .slice A8 fi.a.length c8, .slice D8 fi.b.length d8], .int .i64 fk]) (by simp [results, r0', r1', r2', r3', r4', r5', go_sem]) rfl ?_
      have hle := Nat.le_of_lt (Nat.lt_of_succ_lt sz)
      exact ⟨A7, c7, D7, d7, A8, c8, D8, d8, rfl, O1.base_le hle, O2.base_le hle, O3.base_le hle, O4.base_le hle, B6⟩


set_option maxRecDepth 100000 in
set_option maxHeartbeats 16000000 in
theorem expt_cx_neg (V : Value) (x y : Rat) (n : Int) (w : World) (hV : RN w w.heap.size V x y) (bx : qw x ≤ 512) (by_ : qw y ≤ 512) (hy : (digs (qt y)).length ≠ 0) (h1 : ¬ n < -1024) (h2 : ¬ 1024 < n) (h3 : n ≠ 0) (hn : n < 0) (m : Nat) (hm : n.natAbs = m) (p q : Nat → Rat) (hp : p 1 = x) (hq : q 1 = y)
    (hT : ∀ k V U w', RN w' w'.heap.size V (p k) (q k) → RN w' w'.heap.size U x y → qw (p k) ≤ 512 ∧ qw (q k) ≤ 512 → Calls Try.prog 63 #[V, U] w' (RetP w' (p (k + 1)) (q (k + 1))))
    (fr fi : Rw) (fk : Int) (ans : Rw × Rw × Int) (ip iq : Rat)
    (hI : ∀ V w', RN w' w'.heap.size V (p m) (q m) → qw (p m) ≤ 512 ∧ qw (q m) ≤ 512 → Calls Try.prog 64 #[V] w' (RetP w' ip iq))
    (hF : ∀ V U w', RQ w' w'.heap.size V ip → RQ w' w'.heap.size U iq → Calls Try.prog 56 #[V, U] w' (RetNE w' (fr, fi, fk)))
    (hbig : ∀ k, 1 ≤ k → k < m → ¬ (qw (p (k + 1)) ≤ 512 ∧ qw (q (k + 1)) ≤ 512) → ans = (rw0, rw0, 4)) (hfit : (∀ k, 1 ≤ k → k ≤ m → qw (p k) ≤ 512 ∧ qw (q k) ≤ 512) → ans = (fr, fi, fk)) :
    Calls Try.prog 28 #[V, .int .i64 n] w (RetNE w ans) := by
  obtain ⟨A1, c1, D1, d1, A2, c2, D2, d2, rfl, p1, p2, p3, p4⟩ := hV
  have Ha : VN w w.heap.size (.agg #[.bool (qn x), .slice A1 (digs (qt x)).length c1, .slice D1 (digs (qd x)).length d1, .bool (qn y), .slice A2 (digs (qt y)).length c2, .slice D2 (digs (qd y)).length d2]) (rwq x) (rwq y) := ⟨A1, c1, D1, d1, A2, c2, D2, d2, rfl, p1, p2, p3, p4⟩
  simp only [rwq] at p1 p2 p3 p4
  have k0 := S2.new w [.bool (qn x), .slice A1 (digs (qt x)).length c1, .slice D1 (digs (qd x)).length d1, .bool (qn y), .slice A2 (digs (qt y)).length c2, .slice D2 (digs (qd y)).length d2] [.bool false, .slice none 0 0, .slice none 0 0, .bool false, .slice none 0 0, .slice none 0 0] 26 26 6
  have C0 := k0.2.2
  have z3 : ((w.alloc (.cells #[.bool (qn x), .slice A1 (digs (qt x)).length c1, .slice D1 (digs (qd x)).length d1, .bool (qn y), .slice A2 (digs (qt y)).length c2, .slice D2 (digs (qd y)).length d2] 26)).alloc (.cells #[.bool false, .slice none 0 0, .slice none 0 0, .bool false, .slice none 0 0, .slice none 0 0] 26)).heap.size = w.heap.size + 2 := by simp
  have Bs := bal ((w.alloc (.cells #[.bool (qn x), .slice A1 (digs (qt x)).length c1, .slice D1 (digs (qd x)).length d1, .bool (qn y), .slice A2 (digs (qt y)).length c2, .slice D2 (digs (qd y)).length d2] 26)).alloc (.cells #[.bool false, .slice none 0 0, .slice none 0 0, .bool false, .slice none 0 0, .slice none 0 0] 26)) (.cells #[.bool (qn x), .slice A1 (digs (qt x)).length c1, .slice D1 (digs (qd x)).length d1, .bool (qn y), .slice A2 (digs (qt y)).length c2, .slice D2 (digs (qd y)).length d2] 26)
  have sg := SB.new ((w.alloc (.cells #[.bool (qn x), .slice A1 (digs (qt x)).length c1, .slice D1 (digs (qd x)).length d1, .bool (qn y), .slice A2 (digs (qt y)).length c2, .slice D2 (digs (qd y)).length d2] 26)).alloc (.cells #[.bool false, .slice none 0 0, .slice none 0 0, .bool false, .slice none 0 0, .slice none 0 0] 26)) [.bool (qn x), .slice A1 (digs (qt x)).length c1, .slice D1 (digs (qd x)).length d1, .bool (qn y), .slice A2 (digs (qt y)).length c2, .slice D2 (digs (qd y)).length d2] 26
  rw [z3] at sg
  have C1 := bt C0 Bs
  have k1 := k0.nx Bs
  have hck := check1x_any false (w.heap.size + 2) _ _ _ _ _ _ _ _ _ _ _ _ _ _ _ sg (st p1 C1) (st p2 C1) (st p3 C1) (st p4 C1)
  rw [show chkN1 false ⟨qn x, digs (qt x), digs (qd x)⟩ ⟨qn y, digs (qt y), digs (qd y)⟩ = 0 from chk_ok bx by_] at hck
  clear sg
  have h0 : ¬ (x = 0 ∧ y = 0) := fun h => hy (by rw [h.2]; exact digs_len0.2 rfl)
  have hZ := fun w' h => zero_any (.agg #[.bool (qn x), .slice A1 (digs (qt x)).length c1, .slice D1 (digs (qd x)).length d1, .bool (qn y), .slice A2 (digs (qt y)).length c2, .slice D2 (digs (qd y)).length d2]) (rwq x) (rwq y) w' h
  rw [zeroB_q] at hZ
  rw [decide_eq_false h0] at hZ
  have hl : (((digs (qt y)).length : Int) == 0) = false := beq_eq_false_iff_ne.2 (by omega)
  have e3 : (n == 0) = false := beq_eq_false_iff_ne.2 h3
  have hm1 : 1 ≤ m := by omega
  have hmx : max n (-n) = (m : Int) := by rw [Int.max_def]; split <;> omega
  have hFit := fun k V U w' h1 h2 => efit_any V U (p k) (q k) w' h1 h2
  clear h0 h3 hy
  go_enter Try.func28, Try.ntmps28
  go_wp2_with fail
  refine hck.mono ?_; rintro e w3 ⟨rfl, B3⟩
  clear hck
  have k3 := k1.nx B3
  have C3 := k3.2.2
  have j0 := k3.1.cell 0
  have j1 := k3.1.cell 1
  have j2 := k3.1.cell 2
  have j3 := k3.1.cell 3
  have j4 := k3.1.cell 4
  have j5 := k3.1.cell 5
  go_wp2_with fail
  refine (hZ _ (Ha.st C3)).mono ?_; rintro e w4 ⟨rfl, B4⟩
  have k4 := k3.nx B4
  clear hZ j0 j1 j2 j3 j4 j5
  have C4 := k4.2.2
  have i0 := k4.1.cell 0
  have i1 := k4.1.cell 1
  have i2 := k4.1.cell 2
  have i3 := k4.1.cell 3
  have i4 := k4.1.cell 4
  have i5 := k4.1.cell 5
  have L := bal w4 (.cells #[.bool (qn x), .slice A1 (digs (qt x)).length c1, .slice D1 (digs (qd x)).length d1, .bool (qn y), .slice A2 (digs (qt y)).length c2, .slice D2 (digs (qd y)).length d2] 26)
  have sp := SB.new w4 [.bool (qn x), .slice A1 (digs (qt x)).length c1, .slice D1 (digs (qd x)).length d1, .bool (qn y), .slice A2 (digs (qt y)).length c2, .slice D2 (digs (qd y)).length d2] 26
  have hg : w.heap.size + 1 < w4.heap.size := k4.2.1.2
  have k5 := k4.nx L
  have C5 := bt C4 L
  obtain ⟨W5, hW5⟩ : ∃ W5, W5 = w4.alloc (.cells #[.bool (qn x), .slice A1 (digs (qt x)).length c1, .slice D1 (digs (qd x)).length d1, .bool (qn y), .slice A2 (digs (qt y)).length c2, .slice D2 (digs (qd y)).length d2] 26) := ⟨_, rfl⟩
  rw [← hW5] at L sp k5 C5
  go_wp2_with fail
  rw [← hW5]
  clear hW5 L i0 i1 i2 i3 i4 i5 k4
  generalize w4.heap.size = g at *
  go_loopg [11] (m - 1) (fun gg kv wr => ∃ (k : Nat) (Apa Dpa Apb Dpb : Option Addr) (cpa dpa cpb dpb : Nat), 1 ≤ k ∧ k ≤ m ∧ m - k = gg ∧ kv = .int .i64 (k : Int) ∧ SB wr g [.bool (qn (p k)), .slice Apa (digs (qt (p k))).length cpa, .slice Dpa (digs (qd (p k))).length dpa, .bool (qn (q k)), .slice Apb (digs (qt (q k))).length cpb, .slice Dpb (digs (qd (q k))).length dpb] ∧ RW wr wr.heap.size Apa cpa (digs (qt (p k))) ∧ RW wr wr.heap.size Dpa dpa (digs (qd (p k))) ∧ RW wr wr.heap.size Apb cpb (digs (qt (q k))) ∧ RW wr wr.heap.size Dpb dpb (digs (qd (q k))) ∧ Hid (∀ j, 1 ≤ j → j ≤ k → qw (p j) ≤ 512 ∧ qw (q j) ≤ 512) ∧ S2 w w.heap.size [.bool (qn x), .slice A1 (digs (qt x)).length c1, .slice D1 (digs (qd x)).length d1, .bool (qn y), .slice A2 (digs (qt y)).length c2, .slice D2 (digs (qd y)).length d2] 6 wr)
  case atStart =>
    refine ⟨1, A1, D1, A2, D2, c1, d1, c2, d2, Nat.le_refl _, hm1, rfl, rfl, ?_, ?_, ?_, ?_, ?_, ?_, k5⟩
    · rw [hp, hq]; exact sp
    · rw [hp]; exact st p1 C5
    · rw [hp]; exact st p2 C5
    · rw [hq]; exact st p3 C5
    · rw [hq]; exact st p4 C5
    · refine Lib.hid (fun j hj1 hj2 => ?_)
      obtain rfl : j = 1 := by omega
      rw [hp, hq]
      exact ⟨bx, by_⟩
  case round =>
    clear sp k5 C5 p1 p2 p3 p4
    obtain ⟨k, Apa, Dpa, Apb, Dpb, cpa, dpa, cpb, dpb, hk1, hkm, rfl, rfl, sp, h1, h2, h3, h4, hle, kr⟩ := hrel
    by_cases hlt : k < m
    · have i0 := kr.1.cell 0
      have i1 := kr.1.cell 1
      have i2 := kr.1.cell 2
      have i3 := kr.1.cell 3
      have i4 := kr.1.cell 4
      have i5 := kr.1.cell 5
      have j0 := sp.cell 0
      have j1 := sp.cell 1
      have j2 := sp.cell 2
      have j3 := sp.cell 3
      have j4 := sp.cell 4
      have j5 := sp.cell 5
      have C6 := kr.2.2
      go_wp2_with fail
      refine (hT k _ _ _ ⟨Apa, cpa, Dpa, dpa, Apb, cpb, Dpb, dpb, rfl, h1, h2, h3, h4⟩ (Ha.st C6) (hle.out k hk1 (Nat.le_refl _))).mono ?_; rintro e w21 ⟨Ara, cra, Dra, dra, Arb, crb, Drb, drb, rfl, O1, O2, O3, O4, B21⟩
      have kr := kr.nx B21
      have hgl := sp.2
      have sp := sp.nx B21
      have hRC := sp.rc (n := 6)
      clear i0 i1 i2 i3 i4 i5 j0 j1 j2 j3 j4 j5 h1 h2 h3 h4
      have sp := hRC.put6 (.bool (qn (p (k + 1)))) (.slice Ara (digs (qt (p (k + 1)))).length cra) (.slice Dra (digs (qd (p (k + 1)))).length dra) (.bool (qn (q (k + 1)))) (.slice Arb (digs (qt (q (k + 1)))).length crb) (.slice Drb (digs (qd (q (k + 1)))).length drb)
      have kr := kr.far6 hg (.bool (qn (p (k + 1)))) (.slice Ara (digs (qt (p (k + 1)))).length cra) (.slice Dra (digs (qd (p (k + 1)))).length dra) (.bool (qn (q (k + 1)))) (.slice Arb (digs (qt (q (k + 1)))).length crb) (.slice Drb (digs (qd (q (k + 1)))).length drb)
      have O1 := O1.put6 (b := g) hgl (.bool (qn (p (k + 1)))) (.slice Ara (digs (qt (p (k + 1)))).length cra) (.slice Dra (digs (qd (p (k + 1)))).length dra) (.bool (qn (q (k + 1)))) (.slice Arb (digs (qt (q (k + 1)))).length crb) (.slice Drb (digs (qd (q (k + 1)))).length drb)
      have O2 := O2.put6 (b := g) hgl (.bool (qn (p (k + 1)))) (.slice Ara (digs (qt (p (k + 1)))).length cra) (.slice Dra (digs (qd (p (k + 1)))).length dra) (.bool (qn (q (k + 1)))) (.slice Arb (digs (qt (q (k + 1)))).length crb) (.slice Drb (digs (qd (q (k + 1)))).length drb)
      have O3 := O3.put6 (b := g) hgl (.bool (qn (p (k + 1)))) (.slice Ara (digs (qt (p (k + 1)))).length cra) (.slice Dra (digs (qd (p (k + 1)))).length dra) (.bool (qn (q (k + 1)))) (.slice Arb (digs (qt (q (k + 1)))).length crb) (.slice Drb (digs (qd (q (k + 1)))).length drb)
      have O4 := O4.put6 (b := g) hgl (.bool (qn (p (k + 1)))) (.slice Ara (digs (qt (p (k + 1)))).length cra) (.slice Dra (digs (qd (p (k + 1)))).length dra) (.bool (qn (q (k + 1)))) (.slice Arb (digs (qt (q (k + 1)))).length crb) (.slice Drb (digs (qd (q (k + 1)))).length drb)
      obtain ⟨W, hW⟩ : ∃ W, W = wr6 w21 g (.bool (qn (p (k + 1)))) (.slice Ara (digs (qt (p (k + 1)))).length cra) (.slice Dra (digs (qd (p (k + 1)))).length dra) (.bool (qn (q (k + 1)))) (.slice Arb (digs (qt (q (k + 1)))).length crb) (.slice Drb (digs (qd (q (k + 1)))).length drb) := ⟨_, rfl⟩
      rw [← hW] at sp kr O1 O2 O3 O4
      go_upto_region 26 with ((refine wp_st6 rfl (.tmp 10) (.tmp 110) rfl _ rfl _ _ _ _ _ _ rfl hRC rfl rfl rfl rfl rfl rfl ?_; rw [← hW]; clear hW))
      clear hRC B21
      have j0 := sp.cell 0
      have j1 := sp.cell 1
      have j2 := sp.cell 2
      have j3 := sp.cell 3
      have j4 := sp.cell 4
      have j5 := sp.cell 5
      have hf := hFit (k + 1)
      have hc : (fitQ (p (k + 1)) (q (k + 1))).2.2 = 0 ∨ (fitQ (p (k + 1)) (q (k + 1))).2.2 = 4 := by
        by_cases hb : qw (p (k + 1)) ≤ 512 ∧ qw (q (k + 1)) ≤ 512
        · exact .inl (fitQ_code hb)
        · exact .inr (fitQ_code4 hb)
      have hc0 : (fitQ (p (k + 1)) (q (k + 1))).2.2 = 0 → qw (p (k + 1)) ≤ 512 ∧ qw (q (k + 1)) ≤ 512 := fun h => by
        by_cases hb : qw (p (k + 1)) ≤ 512 ∧ qw (q (k + 1)) ≤ 512
        · exact hb
        · rw [fitQ_code4 hb] at h; exact absurd h (by decide)
      have hc4 : (fitQ (p (k + 1)) (q (k + 1))).2.2 = 4 → ans = (rw0, rw0, 4) := fun h => hbig k hk1 hlt (fun hb => by rw [fitQ_code hb] at h; exact absurd h (by decide))
      generalize fitQ (p (k + 1)) (q (k + 1)) = ft at *
      obtain ⟨ur, ui, uk⟩ := ft
      dsimp only at hc hc0 hc4
      go_wp2_with fail
      refine (hf _ _ _ ⟨Ara, cra, Dra, dra, rfl, O1.rw, O2.rw⟩ ⟨Arb, crb, Drb, drb, rfl, O3.rw, O4.rw⟩).mono ?_; rintro e w22 ⟨A9, c9, D9, d9, A10, c10, D10, d10, rfl, _, _, _, _, B22⟩
      have L := bal w22 (.cells #[.bool ur.s, .slice A9 ur.a.length c9, .slice D9 ur.b.length d9, .bool ui.s, .slice A10 ui.a.length c10, .slice D10 ui.b.length d10] 26)
      have kk := (kr.nx B22).nx L
      have sp := (sp.nx B22).nx L
      clear j0 j1 j2 j3 j4 j5 hf
      have BL := bt B22 L
      rcases hc with hc | hc
      · subst hc
        have hb := hc0 rfl
        clear hc0 hc4 kr
        go_wp2_with fail
        go_roundg (m - (k + 1))
        case measure => omega
        case rel => exact ⟨k + 1, Ara, Dra, Arb, Drb, cra, dra, crb, drb, by omega, by omega, rfl, by go_num, sp, st O1.rw BL, st O2.rw BL, st O3.rw BL, st O4.rw BL, Lib.hid (fun j hj1 hj2 => by
          by_cases hj : j ≤ k
          · exact hle.out j hj1 hj
          · obtain rfl : j = k + 1 := by omega
            exact hb), kk⟩
      · subst hc
        have hans := hc4 rfl
        subst hans
        clear hc0 hc4 kr hbig hfit
        have hRC := kk.2.1
        go_wp2_with (refine wp_st6 rfl (.tmp 4) (.tmp 121) rfl _ rfl _ _ _ _ _ _ rfl hRC rfl rfl rfl rfl rfl rfl ?_)
        have s6 := hRC.put6 (.bool false) (.slice none 0 0) (.slice none 0 0) (.bool false) (.slice none 0 0) (.slice none 0 0)
        have B6 := wr6_below (b := w.heap.size + 1) kk.2.2 (by omega) (.bool false) (.slice none 0 0) (.slice none 0 0) (.bool false) (.slice none 0 0) (.slice none 0 0)
        have r0' := s6.cell 0
        have r1' := s6.cell 1
        have r2' := s6.cell 2
        have r3' := s6.cell 3
        have r4' := s6.cell 4
        have r5' := s6.cell 5
        refine bodyPost_ret (v := .tuple #[.agg #[.bool false, .slice none 0 0, .slice none 0 0, .bool false, .slice none 0 0, .slice none 0 0], .int .i64 4]) (by simp [results, r0', r1', r2', r3', r4', r5', go_sem]) rfl ?_
        exact retNE_nil 4 B6
    · have hkm' : k = m := by omega
      have hbm := hle.out k hk1 (Nat.le_refl _)
      clear hlt hm1 hkm hk1
      subst hkm'
      have hans := hfit (fun j h1 h2 => hle.out j h1 h2)
      subst hans
      clear hbig hfit hle hT hFit
      have j0 := sp.cell 0
      have j1 := sp.cell 1
      have j2 := sp.cell 2
      have j3 := sp.cell 3
      have j4 := sp.cell 4
      have j5 := sp.cell 5
      go_wp2_with fail
      refine (hI _ _ ⟨Apa, cpa, Dpa, dpa, Apb, cpb, Dpb, dpb, rfl, h1, h2, h3, h4⟩ hbm).mono ?_; rintro e w21 ⟨Aua, cua, Dua, dua, Aub, cub, Dub, dub, rfl, O1, O2, O3, O4, B21⟩
      have kr := kr.nx B21
      have hgl := sp.2
      have sp := sp.nx B21
      have hRC := sp.rc (n := 6)
      clear j0 j1 j2 j3 j4 j5 h1 h2 h3 h4
      have sp := hRC.put6 (.bool (qn ip)) (.slice Aua (digs (qt ip)).length cua) (.slice Dua (digs (qd ip)).length dua) (.bool (qn iq)) (.slice Aub (digs (qt iq)).length cub) (.slice Dub (digs (qd iq)).length dub)
      have kr := kr.far6 hg (.bool (qn ip)) (.slice Aua (digs (qt ip)).length cua) (.slice Dua (digs (qd ip)).length dua) (.bool (qn iq)) (.slice Aub (digs (qt iq)).length cub) (.slice Dub (digs (qd iq)).length dub)
      have O1 := O1.put6 (b := g) hgl (.bool (qn ip)) (.slice Aua (digs (qt ip)).length cua) (.slice Dua (digs (qd ip)).length dua) (.bool (qn iq)) (.slice Aub (digs (qt iq)).length cub) (.slice Dub (digs (qd iq)).length dub)
      have O2 := O2.put6 (b := g) hgl (.bool (qn ip)) (.slice Aua (digs (qt ip)).length cua) (.slice Dua (digs (qd ip)).length dua) (.bool (qn iq)) (.slice Aub (digs (qt iq)).length cub) (.slice Dub (digs (qd iq)).length dub)
      have O3 := O3.put6 (b := g) hgl (.bool (qn ip)) (.slice Aua (digs (qt ip)).length cua) (.slice Dua (digs (qd ip)).length dua) (.bool (qn iq)) (.slice Aub (digs (qt iq)).length cub) (.slice Dub (digs (qd iq)).length dub)
      have O4 := O4.put6 (b := g) hgl (.bool (qn ip)) (.slice Aua (digs (qt ip)).length cua) (.slice Dua (digs (qd ip)).length dua) (.bool (qn iq)) (.slice Aub (digs (qt iq)).length cub) (.slice Dub (digs (qd iq)).length dub)
      obtain ⟨W, hW⟩ : ∃ W, W = wr6 w21 g (.bool (qn ip)) (.slice Aua (digs (qt ip)).length cua) (.slice Dua (digs (qd ip)).length dua) (.bool (qn iq)) (.slice Aub (digs (qt iq)).length cub) (.slice Dub (digs (qd iq)).length dub) := ⟨_, rfl⟩
      rw [← hW] at sp kr O1 O2 O3 O4
      go_upto_region 31 with ((refine wp_st6 rfl (.tmp 10) (.tmp 126) rfl _ rfl _ _ _ _ _ _ rfl hRC rfl rfl rfl rfl rfl rfl ?_; rw [← hW]; clear hW))
      clear hRC B21
      have j0 := sp.cell 0
      have j1 := sp.cell 1
      have j2 := sp.cell 2
      have j3 := sp.cell 3
      have j4 := sp.cell 4
      have j5 := sp.cell 5
      go_wp2_with fail
      refine (hF _ _ _ ⟨Aua, cua, Dua, dua, rfl, O1.rw, O2.rw⟩ ⟨Aub, cub, Dub, dub, rfl, O3.rw, O4.rw⟩).mono ?_; rintro e w7 ⟨A7, c7, D7, d7, A8, c8, D8, d8, rfl, Q1, Q2, Q3, Q4, B7⟩
      dsimp only at Q1 Q2 Q3 Q4
      have sz := kr.2.1.2
      have kk := kr.nx B7
      have hRC := kk.2.1
      go_wp2_with (refine wp_st6 rfl (.tmp 4) (.tmp 132) rfl _ rfl _ _ _ _ _ _ rfl hRC rfl rfl rfl rfl rfl rfl ?_)
      have s6 := hRC.put6 (.bool fr.s) (.slice A7 fr.a.length c7) (.slice D7 fr.b.length d7) (.bool fi.s) (.slice A8 fi.a.length c8) (.slice D8 fi.b.length d8)
      have B6 := wr6_below (b := w.heap.size + 1) kk.2.2 (by omega) (.bool fr.s) (.slice A7 fr.a.length c7) (.slice D7 fr.b.length d7) (.bool fi.s) (.slice A8 fi.a.length c8) (.slice D8 fi.b.length d8)
      have O1 := Q1.put6 (b := w.heap.size + 1) sz (.bool fr.s) (.slice A7 fr.a.length c7) (.slice D7 fr.b.length d7) (.bool fi.s) (.slice A8 fi.a.length c8) (.slice D8 fi.b.length d8)
      have O2 := Q2.put6 (b := w.heap.size + 1) sz (.bool fr.s) (.slice A7 fr.a.length c7) (.slice D7 fr.b.length d7) (.bool fi.s) (.slice A8 fi.a.length c8) (.slice D8 fi.b.length d8)
      have O3 := Q3.put6 (b := w.heap.size + 1) sz (.bool fr.s) (.slice A7 fr.a.length c7) (.slice D7 fr.b.length d7) (.bool fi.s) (.slice A8 fi.a.length c8) (.slice D8 fi.b.length d8)
      have O4 := Q4.put6 (b := w.heap.size + 1) sz (.bool fr.s) (.slice A7 fr.a.length c7) (.slice D7 fr.b.length d7) (.bool fi.s) (.slice A8 fi.a.length c8) (.slice D8 fi.b.length d8)
      have r0' := s6.cell 0
      have r1' := s6.cell 1
      have r2' := s6.cell 2
      have r3' := s6.cell 3
      have r4' := s6.cell 4
      have r5' := s6.cell 5
      refine bodyPost_ret (v := .tuple #[.agg #[.bool fr.s, .slice A7 fr.a.length c7, .slice D7 fr.b.length d7, .bool fi.s, .slice A8 fi.a.length c8, .slice D8 fi.b.length d8], .int .i64 fk]) (by simp [results, r0', r1', r2', r3', r4', r5', go_sem]) rfl ?_
      have hle := Nat.le_of_lt (Nat.lt_of_succ_lt sz)
      exact ⟨A7, c7, D7, d7, A8, c8, D8, d8, rfl, O1.base_le hle, O2.base_le hle, O3.base_le hle, O4.base_le hle, B6⟩

end Go.Proofs.Ytnlgoedklmjhlaa
namespace Go.Proofs.Ytnlgoedklmjhlaa
open Go.RowKit

theorem stop_some {x y : Rat} {k : Nat} (hk : 0 < k) (h : bigB (cpow x y k) = true) : stopB x y k = true := by
  obtain ⟨j, rfl⟩ : ∃ j, k = j + 1 := ⟨k - 1, by omega⟩
  show (stopB x y j || bigB (cpow x y (j + 1))) = true
  rw [h, Bool.or_true]
theorem stop_none {x y : Rat} {m : Nat} (h : ∀ k, 1 ≤ k → k ≤ m → bigB (cpow x y k) = false) : stopB x y m = false := by
  induction m with
  | zero => rfl
  | succ m ih =>
    show (stopB x y m || bigB (cpow x y (m + 1))) = false
    rw [ih (fun k h1 h2 => h k h1 (by omega)), h (m + 1) (by omega) (Nat.le_refl _)]
    rfl
theorem big_real (x : Rat) (k : Nat) : bigB (cpow x 0 k) = true ↔ (512 < (digs (qt x ^ k)).length ∨ 512 < (digs (qd x ^ k)).length) := by
  obtain ⟨r1, r2, _⟩ := rp_facts x k
  rw [cpow_real]
  unfold bigB qw
  dsimp only
  rw [r1, r2, show digs (qt (0 : Rat)) = [] from digs_zero, show digs (qd (0 : Rat)) = [1] from digs_one1]
  simp only [Bool.not_eq_true', decide_eq_false_iff_not, Nat.max_le, List.length_nil, List.length_cons]
  omega
theorem odd_pos {n : Int} {m : Nat} (hm : n.natAbs = m) (hn : ¬ n < 0) : decide (m % 2 = 1) = (n % 2 != 0) := by
  rw [Bool.eq_iff_iff, decide_eq_true_eq, bne_iff_ne]
  omega
theorem odd_neg {n : Int} {m : Nat} (hm : n.natAbs = m) (hn : n < 0) : decide (m % 2 = 1) = (n.tmod 2 != 0) := by
  rw [Bool.eq_iff_iff, decide_eq_true_eq, bne_iff_ne]
  have e : n = -(m : Int) := by omega
  rw [e, Int.neg_tmod]
  have h2 : ((m : Int)).tmod 2 = ((m % 2 : Nat) : Int) := rfl
  rw [h2]
  omega


theorem eexpt_real_a (V : Value) (x : Rat) (n : Int) (w : World) (hV : RN w w.heap.size V x 0) (bx : qw x ≤ 512) (by_ : qw 0 ≤ 512) (h1 : ¬ n < -1024) (h2 : ¬ 1024 < n) (h3 : n ≠ 0) (hn : ¬ n < 0) (hx : ¬ (x = 0 ∧ (0 : Rat) = 0)) (m : Nat) (hm : n.natAbs = m) :
    Calls Try.prog 28 #[V, .int .i64 n] w (RetNE w (if stopB x 0 m = true then (rw0, rw0, 4) else fitQ (rp x m) 0)) := by
  obtain ⟨A1, c1, D1, d1, A2, c2, D2, d2, rfl, p1, p2, p3, p4⟩ := hV
  simp only [rwq] at p1 p2 p3 p4
  have t1 := qw_t x
  have t2 := qw_d x
  obtain ⟨r1, r2, r3⟩ := rp_facts x m
  have hF := fun V U w' h1 h2 => efit_any V U (rp x m) 0 w' h1 h2
  have e1 := r3
  have e2 := r1
  have e3 := r2
  have hodd : decide (m % 2 = 1) = (n % 2 != 0) := odd_pos hm hn
  rw [hodd] at e1
  have hbg := big_real x
  refine expt_real_a x 0 n w (qn x) (qt x) (qd x) A1 D1 A2 D2 c1 d1 c2 d2 p1 p2 p3 p4 (fun w' g sg h1 h2 h3 h4 => by have h := check1x_any false g _ _ _ _ _ _ _ _ _ _ _ _ _ _ w' sg h1 h2 h3 h4; rw [show chkN1 false ⟨qn x, digs (qt x), digs (qd x)⟩ ⟨qn 0, digs (qt 0), digs (qd 0)⟩ = 0 from chk_ok bx by_] at h; exact h) (fun w' h1 h2 h3 h4 => by have h := zero_any (.agg #[.bool (qn x), .slice A1 (digs (qt x)).length c1, .slice D1 (digs (qd x)).length d1, .bool (qn (0 : Rat)), .slice A2 (digs (qt (0 : Rat))).length c2, .slice D2 (digs (qd (0 : Rat))).length d2]) (rwq x) (rwq 0) w' ⟨A1, c1, D1, d1, A2, c2, D2, d2, rfl, h1, h2, h3, h4⟩; rw [zeroB_q, decide_eq_false hx] at h; exact h) (by rw [show digs (qt (0 : Rat)) = [] from digs_zero]; rfl) h1 h2 h3 hn m hm (by omega) (by omega) (fitQ (rp x m) 0).1 (fitQ (rp x m) 0).2.1 (fitQ (rp x m) 0).2.2 _ _ rfl
    (fun T ct D cd w' h1 h2 h3 h4 => hF _ _ w' ⟨T, ct, D, cd, by rw [e1, e2, e3], by rw [e2]; exact h1, by rw [e3]; exact h2⟩ ⟨A2, c2, D2, d2, rfl, h3, h4⟩) (fun k hk1 hk2 hb => ?_) (fun hall => ?_)
  · rw [if_pos (stop_le (stop_some (by omega) ((hbg (k + 1)).2 hb)) (show k + 1 ≤ m by omega))]
  · rw [if_neg (by
      rw [stop_none (fun k hk1 hk2 => by
        have hk := hall k hk1 hk2
        cases hb : bigB (cpow x 0 k) with
        | false => rfl
        | true => have := (hbg k).1 hb; omega)]
      simp)]


theorem eexpt_real_b (V : Value) (x : Rat) (n : Int) (w : World) (hV : RN w w.heap.size V x 0) (bx : qw x ≤ 512) (by_ : qw 0 ≤ 512) (h1 : ¬ n < -1024) (h2 : ¬ 1024 < n) (h3 : n ≠ 0) (hn : ¬ n < 0) (hx : (x = 0 ∧ (0 : Rat) = 0)) (m : Nat) (hm : n.natAbs = m) :
    Calls Try.prog 28 #[V, .int .i64 n] w (RetNE w (if stopB x 0 m = true then (rw0, rw0, 4) else fitQ (rp x m) 0)) := by
  obtain ⟨A1, c1, D1, d1, A2, c2, D2, d2, rfl, p1, p2, p3, p4⟩ := hV
  simp only [rwq] at p1 p2 p3 p4
  have t1 := qw_t x
  have t2 := qw_d x
  obtain ⟨r1, r2, r3⟩ := rp_facts x m
  have hF := fun V U w' h1 h2 => efit_any V U (rp x m) 0 w' h1 h2
  have e1 := r3
  have e2 := r1
  have e3 := r2
  have hodd : decide (m % 2 = 1) = (n % 2 != 0) := odd_pos hm hn
  rw [hodd] at e1
  have hbg := big_real x
  refine expt_real_b x 0 n w (qn x) (qt x) (qd x) A1 D1 A2 D2 c1 d1 c2 d2 p1 p2 p3 p4 (fun w' g sg h1 h2 h3 h4 => by have h := check1x_any false g _ _ _ _ _ _ _ _ _ _ _ _ _ _ w' sg h1 h2 h3 h4; rw [show chkN1 false ⟨qn x, digs (qt x), digs (qd x)⟩ ⟨qn 0, digs (qt 0), digs (qd 0)⟩ = 0 from chk_ok bx by_] at h; exact h) (fun w' h1 h2 h3 h4 => by have h := zero_any (.agg #[.bool (qn x), .slice A1 (digs (qt x)).length c1, .slice D1 (digs (qd x)).length d1, .bool (qn (0 : Rat)), .slice A2 (digs (qt (0 : Rat))).length c2, .slice D2 (digs (qd (0 : Rat))).length d2]) (rwq x) (rwq 0) w' ⟨A1, c1, D1, d1, A2, c2, D2, d2, rfl, h1, h2, h3, h4⟩; rw [zeroB_q, decide_eq_true hx] at h; exact h) (by rw [show digs (qt (0 : Rat)) = [] from digs_zero]; rfl) h1 h2 h3 hn m hm (by omega) (by omega) (fitQ (rp x m) 0).1 (fitQ (rp x m) 0).2.1 (fitQ (rp x m) 0).2.2 _ _ rfl
    (fun T ct D cd w' h1 h2 h3 h4 => hF _ _ w' ⟨T, ct, D, cd, by rw [e1, e2, e3], by rw [e2]; exact h1, by rw [e3]; exact h2⟩ ⟨A2, c2, D2, d2, rfl, h3, h4⟩) (fun k hk1 hk2 hb => ?_) (fun hall => ?_)
  · rw [if_pos (stop_le (stop_some (by omega) ((hbg (k + 1)).2 hb)) (show k + 1 ≤ m by omega))]
  · rw [if_neg (by
      rw [stop_none (fun k hk1 hk2 => by
        have hk := hall k hk1 hk2
        cases hb : bigB (cpow x 0 k) with
        | false => rfl
        | true => have := (hbg k).1 hb; omega)]
      simp)]


theorem eexpt_real_c (V : Value) (x : Rat) (n : Int) (w : World) (hV : RN w w.heap.size V x 0) (bx : qw x ≤ 512) (by_ : qw 0 ≤ 512) (h1 : ¬ n < -1024) (h2 : ¬ 1024 < n) (h3 : n ≠ 0) (hn : n < 0) (hx : ¬ (x = 0 ∧ (0 : Rat) = 0)) (m : Nat) (hm : n.natAbs = m) :
    Calls Try.prog 28 #[V, .int .i64 n] w (RetNE w (if stopB x 0 m = true then (rw0, rw0, 4) else fitQ (rp x m)⁻¹ 0)) := by
  obtain ⟨A1, c1, D1, d1, A2, c2, D2, d2, rfl, p1, p2, p3, p4⟩ := hV
  simp only [rwq] at p1 p2 p3 p4
  have t1 := qw_t x
  have t2 := qw_d x
  obtain ⟨r1, r2, r3⟩ := rp_facts x m
  have hF := fun V U w' h1 h2 => efit_any V U (rp x m)⁻¹ 0 w' h1 h2
  have hx0 : qt x ≠ 0 := fun h => hx ⟨qt_zero.1 h, rfl⟩
  have hp0 : qt (rp x m) ≠ 0 := by rw [r1]; exact Nat.pos_iff_ne_zero.1 (Nat.pow_pos (Nat.pos_of_ne_zero hx0))
  obtain ⟨e2, e3, e1⟩ := q_inv_s hp0
  rw [r2] at e2
  rw [r1] at e3
  rw [r3] at e1
  have hodd : decide (m % 2 = 1) = (Int.tmod n 2 != 0) := odd_neg hm hn
  rw [hodd] at e1
  have hbg := big_real x
  refine expt_real_c x 0 n w (qn x) (qt x) (qd x) A1 D1 A2 D2 c1 d1 c2 d2 p1 p2 p3 p4 (fun w' g sg h1 h2 h3 h4 => by have h := check1x_any false g _ _ _ _ _ _ _ _ _ _ _ _ _ _ w' sg h1 h2 h3 h4; rw [show chkN1 false ⟨qn x, digs (qt x), digs (qd x)⟩ ⟨qn 0, digs (qt 0), digs (qd 0)⟩ = 0 from chk_ok bx by_] at h; exact h) (fun w' h1 h2 h3 h4 => by have h := zero_any (.agg #[.bool (qn x), .slice A1 (digs (qt x)).length c1, .slice D1 (digs (qd x)).length d1, .bool (qn (0 : Rat)), .slice A2 (digs (qt (0 : Rat))).length c2, .slice D2 (digs (qd (0 : Rat))).length d2]) (rwq x) (rwq 0) w' ⟨A1, c1, D1, d1, A2, c2, D2, d2, rfl, h1, h2, h3, h4⟩; rw [zeroB_q, decide_eq_false hx] at h; exact h) (by rw [show digs (qt (0 : Rat)) = [] from digs_zero]; rfl) h1 h2 h3 hn m hm (by omega) (by omega) (fitQ (rp x m)⁻¹ 0).1 (fitQ (rp x m)⁻¹ 0).2.1 (fitQ (rp x m)⁻¹ 0).2.2 _ _ rfl
    (fun T ct D cd w' h1 h2 h3 h4 => hF _ _ w' ⟨D, cd, T, ct, by rw [e1, e2, e3], by rw [e2]; exact h2, by rw [e3]; exact h1⟩ ⟨A2, c2, D2, d2, rfl, h3, h4⟩) (fun k hk1 hk2 hb => ?_) (fun hall => ?_)
  · rw [if_pos (stop_le (stop_some (by omega) ((hbg (k + 1)).2 hb)) (show k + 1 ≤ m by omega))]
  · rw [if_neg (by
      rw [stop_none (fun k hk1 hk2 => by
        have hk := hall k hk1 hk2
        cases hb : bigB (cpow x 0 k) with
        | false => rfl
        | true => have := (hbg k).1 hb; omega)]
      simp)]


theorem eexpt_cx_pos (V : Value) (x y : Rat) (n : Int) (w : World) (hV : RN w w.heap.size V x y) (bx : qw x ≤ 512) (by_ : qw y ≤ 512) (h1 : ¬ n < -1024) (h2 : ¬ 1024 < n) (h3 : n ≠ 0) (hn : ¬ n < 0) (hy : (digs (qt y)).length ≠ 0) (m : Nat) (hm : n.natAbs = m) :
    Calls Try.prog 28 #[V, .int .i64 n] w (RetNE w (if stopB x y m = true then (rw0, rw0, 4) else (fitQ (cpow x y m).1 (cpow x y m).2))) := by
  have e1 := cpow_one x y
  refine expt_cx_pos V x y n w hV bx by_ hy h1 h2 h3 hn m hm (fun k => (cpow x y k).1) (fun k => (cpow x y k).2) (by rw [e1]) (by rw [e1])
    (fun k V U w' g1 g2 hb => times_rat V U (cpow x y k).1 (cpow x y k).2 x y w' g1 g2 (by omega) (by omega) (by omega) (by omega)) (fitQ (cpow x y m).1 (cpow x y m).2).1 (fitQ (cpow x y m).1 (cpow x y m).2).2.1 (fitQ (cpow x y m).1 (cpow x y m).2).2.2 _
    (fun V U w' g1 g2 => efit_any V U _ _ w' g1 g2) (fun k hk1 hk2 hb => ?_) (fun hall => ?_)
  · rw [if_pos (stop_le (stop_some (by omega) (by unfold bigB; rw [decide_eq_false hb]; rfl)) (show k + 1 ≤ m by omega))]
  · rw [if_neg (by
      rw [stop_none (fun k hk1 hk2 => by unfold bigB; rw [decide_eq_true (hall k hk1 hk2)]; rfl)]
      simp)]


theorem eexpt_cx_neg (V : Value) (x y : Rat) (n : Int) (w : World) (hV : RN w w.heap.size V x y) (bx : qw x ≤ 512) (by_ : qw y ≤ 512) (h1 : ¬ n < -1024) (h2 : ¬ 1024 < n) (h3 : n ≠ 0) (hn : n < 0) (hy : (digs (qt y)).length ≠ 0) (m : Nat) (hm : n.natAbs = m) :
    Calls Try.prog 28 #[V, .int .i64 n] w (RetNE w (if stopB x y m = true then (rw0, rw0, 4) else (fitQ (invQ (cpow x y m)).1 (invQ (cpow x y m)).2))) := by
  have e1 := cpow_one x y
  refine expt_cx_neg V x y n w hV bx by_ hy h1 h2 h3 hn m hm (fun k => (cpow x y k).1) (fun k => (cpow x y k).2) (by rw [e1]) (by rw [e1])
    (fun k V U w' g1 g2 hb => times_rat V U (cpow x y k).1 (cpow x y k).2 x y w' g1 g2 (by omega) (by omega) (by omega) (by omega)) (fitQ (invQ (cpow x y m)).1 (invQ (cpow x y m)).2).1 (fitQ (invQ (cpow x y m)).1 (invQ (cpow x y m)).2).2.1 (fitQ (invQ (cpow x y m)).1 (invQ (cpow x y m)).2).2.2 _ (invQ (cpow x y m)).1 (invQ (cpow x y m)).2 (fun V w' h hb => inverse_any V _ _ w' h (cpow_ne (fun h => hy (by rw [h.2]; exact digs_len0.2 rfl)) m) (by omega) (by omega))
    (fun V U w' g1 g2 => efit_any V U _ _ w' g1 g2) (fun k hk1 hk2 hb => ?_) (fun hall => ?_)
  · rw [if_pos (stop_le (stop_some (by omega) (by unfold bigB; rw [decide_eq_false hb]; rfl)) (show k + 1 ≤ m by omega))]
  · rw [if_neg (by
      rw [stop_none (fun k hk1 hk2 => by unfold bigB; rw [decide_eq_true (hall k hk1 hk2)]; rfl)]
      simp)]


theorem eexpt_any {V : Value} {r i : Rw} {n : Int} {w : World} (hV : VN w w.heap.size V r i) : Calls Try.prog 28 #[V, .int .i64 n] w (RetNE w (qexptA r i n)) := by
  unfold qexptA
  by_cases h : nB r i = true
  · rw [if_pos h]
    obtain ⟨x, y, rfl, rfl, bx, by_⟩ := nB_rat h
    rw [qv_rwq, qv_rwq]
    unfold exptQ
    by_cases g1 : n < -1024 ∨ 1024 < n
    · rw [if_pos g1]
      exact expt_arg V x y n w hV bx by_ g1
    rw [if_neg g1]
    by_cases g2 : n = 0
    · rw [if_pos g2]
      subst g2
      exact expt_one V x y w hV bx by_
    rw [if_neg g2]
    by_cases g3 : (x = 0 ∧ y = 0) ∧ n < 0
    · rw [if_pos g3]
      exact expt_zero V x y n w hV bx by_ g3.1 g3.2 (by omega)
    rw [if_neg g3]
    by_cases hy : (digs (qt y)).length = 0
    · obtain rfl : y = 0 := qt_zero.1 (digs_len0.1 hy)
      rw [cpow_real, inv_real]
      by_cases hn : n < 0
      · simp only [if_pos hn]
        exact eexpt_real_c V x n w hV bx by_ (by omega) (by omega) g2 hn (fun hx => g3 ⟨hx, hn⟩) _ rfl
      · simp only [if_neg hn]
        by_cases hx : x = 0 ∧ (0 : Rat) = 0
        · exact eexpt_real_b V x n w hV bx by_ (by omega) (by omega) g2 hn hx _ rfl
        · exact eexpt_real_a V x n w hV bx by_ (by omega) (by omega) g2 hn hx _ rfl
    · by_cases hn : n < 0
      · simp only [if_pos hn]
        exact eexpt_cx_neg V x y n w hV bx by_ (by omega) (by omega) g2 hn hy _ rfl
      · simp only [if_neg hn]
        exact eexpt_cx_pos V x y n w hV bx by_ (by omega) (by omega) g2 hn hy _ rfl
  · rw [if_neg h]
    exact expt_bad V r i n w hV h
end Go.Proofs.Ytnlgoedklmjhlaa
