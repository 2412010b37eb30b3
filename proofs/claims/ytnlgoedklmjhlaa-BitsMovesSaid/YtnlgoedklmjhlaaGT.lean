/- Merged texts: BjC, BjB. -/
import Derived.Test.YtnlgoedklmjhlaaHP
import Derived.Test.YtnlgoedklmjhlaaGR
import Derived.Test.YtnlgoedklmjhlaaGS
namespace Go.Proofs.Ytnlgoedklmjhlaa
open Go.RowKit

/-- the whole part of a whole quotient -/
theorem flr_div (X : Int) {P : Nat} (hP : 0 < P) : flr ((X : Rat) * (ab ((P : Int) : Rat))⁻¹) = X / (P : Int) ∧ ab ((P : Int) : Rat) = ((P : Int) : Rat) := by
  have hn : qn ((P : Int) : Rat) = false := by
    refine Bool.eq_false_iff.2 fun h => ?_
    have := Rat.intCast_lt_intCast.1 (show ((P : Int) : Rat) < ((0 : Int) : Rat) from qn_iff.1 h)
    omega
  have ha : ab ((P : Int) : Rat) = ((P : Int) : Rat) := by unfold ab; rw [if_neg (by simp [hn])]
  refine ⟨?_, ha⟩
  have h0 : ((P : Int) : Rat) ≠ 0 := fun h => by
    have := Rat.intCast_inj.1 (show ((P : Int) : Rat) = ((0 : Int) : Rat) from h)
    omega
  obtain ⟨N, hN⟩ : ∃ N, N = flr ((X : Rat) * (ab ((P : Int) : Rat))⁻¹) := ⟨_, rfl⟩
  obtain ⟨h1, h2⟩ := rest_of (x := (X : Rat)) (u := ((P : Int) : Rat)) (n := ((N : Int) : Rat)) (by rw [hN]) h0
  rw [ha, ← Rat.intCast_mul, ← Rat.intCast_neg, ← Rat.intCast_add] at h1 h2
  have h3 := Rat.intCast_le_intCast.1 (show ((0 : Int) : Rat) ≤ _ from h1)
  have h4 := Rat.intCast_lt_intCast.1 h2
  rw [← hN]
  have hp : (0 : Int) < (P : Int) := by omega
  have h5 : N ≤ X / (P : Int) := Int.le_ediv_of_mul_le hp (by omega)
  have h6 : X / (P : Int) < N + 1 := Int.ediv_lt_of_lt_mul hp (by rw [Int.add_mul]; omega)
  omega
theorem p2_w {k : Nat} (hk : k < 100) : 2 ^ k < Wp 4 := by
  rw [Wp_eq]
  exact Nat.pow_lt_pow_right (by omega) (by omega)
theorem z5_small {X : Int} (h : X.natAbs < Wp 512) : Z5 X := by
  unfold Z5 qw
  rw [qd_int, digs_one1, qt_int]
  exact Nat.max_le.2 ⟨digs_len_le.2 h, by simp⟩
theorem z5_lt {X : Int} (h : Z5 X) : X.natAbs < Wp 512 := by
  unfold Z5 qw at h
  rw [qd_int, qt_int] at h
  exact digs_len_le.1 (Nat.le_trans (Nat.le_max_left _ _) h)
theorem z5_p2 {k : Nat} (hk : k < 100) : Z5 (((2 ^ k : Nat) : Int)) :=
  z5_small (by rw [Int.natAbs_natCast]; exact Nat.lt_of_lt_of_le (p2_w hk) (Wp_mono (by omega)))
theorem rp_two (k : Nat) : rp 2 k = (((2 ^ k : Nat) : Int) : Rat) := by
  induction k with
  | zero => rfl
  | succ k ih =>
    show rp 2 k * 2 = _
    rw [ih, Nat.pow_succ, Int.natCast_mul, Rat.intCast_mul]
    rfl
theorem stop_two {k : Nat} (hk : k < 100) : stopB 2 0 k = false := by
  induction k with
  | zero => rfl
  | succ k ih =>
    show (stopB 2 0 k || bigB (cpow 2 0 (k + 1))) = false
    rw [ih (by omega), Bool.false_or, cpow_real, rp_two]
    unfold bigB
    rw [decide_eq_true ⟨z5_p2 hk, by rw [qw_zero]; omega⟩]
    rfl
theorem expt_two {k : Nat} (hk : k < 100) : qexptA (rwq 2) (rwq 0) (k : Int) = (rwq ((((2 ^ k : Nat) : Int)) : Rat), rwq 0, 0) := by
  unfold qexptA
  rw [if_pos (nB_rwq (x := 2) (y := 0) (by decide_cbv) (by decide_cbv)), qv_rwq, qv_rwq]
  unfold exptQ
  rw [if_neg (by omega)]
  by_cases h0 : (k : Int) = 0
  · rw [if_pos h0]
    have : k = 0 := by omega
    subst this
    rfl
  · rw [if_neg h0, if_neg (by omega), Int.natAbs_natCast, stop_two hk, if_neg (by simp), if_neg (by omega), cpow_real, rp_two]
    exact fitQ_ok (z5_p2 hk) (by rw [qw_zero]; omega)
theorem moves_facts {r i : Rw} (h : wB r i = true) {k : Nat} (hk : k < 100) : ∃ (p m z d q : Rw), z = rwq 0 ∧ qexptA (rwq 2) (rwq 0) (k : Int) = (p, z, 0) ∧
    qshiftA r i (k : Int) = fitQ (qv m) 0 ∧ qmulA r i p z = fitQ (qv m) 0 ∧ qshiftA r i (-(k : Int)) = (d, z, 0) ∧ qdmA r i p z = (d, z, q, z, 0) ∧ qfieldA r i 0 (k : Int) = (q, z, 0) ∧
    sameB d z d z = true ∧ sameB q z q z = true := by
  obtain ⟨e1, e2, z1, _⟩ := z5_of h
  generalize hX : iv r = X at *
  have hp : 0 < 2 ^ k := Nat.pow_pos (by omega)
  have q0 : qw 0 ≤ 512 := by rw [qw_zero]; omega
  have hz2 := z5_p2 hk
  have hw := bchk1_of h
  have hl := z5_lt z1
  have zD : Z5 (X / ((2 ^ k : Nat) : Int)) := z5_small (Nat.lt_of_le_of_lt (Int.natAbs_ediv_le_natAbs _ _) hl)
  have zM : Z5 (X % ((2 ^ k : Nat) : Int)) := z5_small (by
    have h1 := Int.emod_nonneg X (b := ((2 ^ k : Nat) : Int)) (by omega)
    have h2 := Int.emod_lt_of_pos X (b := ((2 ^ k : Nat) : Int)) (by omega)
    have h3 := p2_w hk
    have h4 : Wp 4 ≤ Wp 512 := Wp_mono (by omega)
    omega)
  refine ⟨rwq (((2 ^ k : Nat) : Int) : Rat), rwq ((X * ((2 ^ k : Nat) : Int) : Int) : Rat), rwq 0, rwq ((X / ((2 ^ k : Nat) : Int) : Int) : Rat), rwq ((X % ((2 ^ k : Nat) : Int) : Int) : Rat), rfl,
    expt_two hk, ?_, ?_, ?_, ?_, ?_, sameB_self (nB_rwq zD q0), sameB_self (nB_rwq zM q0)⟩
  · unfold qshiftA
    rw [if_pos hw, if_neg (by omega), if_pos (by omega), hX, Int.toNat_natCast, qv_rwq]
  · rw [e1, e2, qmulA_q z1 q0 hz2 q0, qv_rwq, ← Rat.intCast_mul]
    congr 1 <;> grind
  · unfold qshiftA
    rw [if_pos hw, if_neg (by omega)]
    by_cases h0 : k = 0
    · subst h0
      rw [if_pos (by omega), hX]
      have e : ∀ Y : Int, Y * ((2 ^ (-((0 : Nat) : Int)).toNat : Nat) : Int) = Y / ((2 ^ 0 : Nat) : Int) := fun Y => by
        rw [show (-((0 : Nat) : Int)).toNat = 0 from rfl, Nat.pow_zero, show ((1 : Nat) : Int) = 1 from rfl, Int.mul_one, Int.ediv_one]
      rw [e]
      exact fitQ_ok zD q0
    · rw [if_neg (by omega), hX, Int.neg_neg, Int.toNat_natCast]
      exact fitQ_ok zD q0
  · unfold qdmA
    have hc : chkN2 true r i (rwq (((2 ^ k : Nat) : Int) : Rat)) (rwq 0) = 0 := by
      unfold chkN2
      rw [if_pos ⟨by rw [e1, e2]; exact nB_rwq z1 q0, nB_rwq hz2 q0⟩, if_neg (by rw [e2, show (rwq 0).a = [] from digs_zero]; simp)]
    obtain ⟨f1, f2⟩ := flr_div X hp
    have hn : ¬ qn (((2 ^ k : Nat) : Int) : Rat) = true := by rw [← f2, ab_n]; simp
    rw [if_pos hc, qv_rwq, if_neg (fun h => by
      have := Rat.intCast_inj.1 (show (((2 ^ k : Nat) : Int) : Rat) = ((0 : Int) : Rat) from h)
      omega), if_neg hn, e1, qv_rwq, f1, f2, ← Rat.intCast_mul, ← Rat.intCast_neg, ← Rat.intCast_add,
      show X + -(X / ((2 ^ k : Nat) : Int) * ((2 ^ k : Nat) : Int)) = X % ((2 ^ k : Nat) : Int) by
        have := Int.ediv_mul_add_emod X ((2 ^ k : Nat) : Int)
        omega,
      fitQ_ok zD q0, fitQ_ok zM q0]
    rfl
  · unfold qfieldA
    rw [if_pos hw, if_neg (by omega), hX, show ((k : Int).toNat - (0 : Int).toNat) = k by omega, show (0 : Int).toNat = 0 from rfl, fieldN_zero]
    exact fitQ_ok zM q0
end Go.Proofs.Ytnlgoedklmjhlaa
namespace Go.Proofs.Ytnlgoedklmjhlaa
open Go.RowKit

set_option maxRecDepth 100000 in
set_option maxHeartbeats 16000000 in
theorem bitsMoves_not (V : Value) (ra ia : Rw) (n K : Int) (w : World) (hV : VN w w.heap.size V ra ia) (_ : 0 ≤ n ∧ n ≤ 255) (hK : n % 100 = K) (hq : wB ra ia = false) : Calls Try.prog 7 #[V, .int .u8 n] w fun e w' => e = .returned (.bool true) ∧ Below w.heap.size w w' := by
  have u1 := fun V w' h1 => whole1_any V ra ia w' h1
  rw [hq] at u1
  clear hq
  have hK0 : 0 ≤ K ∧ K < 100 := by omega
  obtain ⟨A1, c1, D1, d1, A2, c2, D2, d2, rfl, p1, p2, p3, p4⟩ := hV
  have S_a := SB.new w [.bool ra.s, .slice A1 ra.a.length c1, .slice D1 ra.b.length d1, .bool ia.s, .slice A2 ia.a.length c2, .slice D2 ia.b.length d2] 26
  have C0 := bal w (.cells #[.bool ra.s, .slice A1 ra.a.length c1, .slice D1 ra.b.length d1, .bool ia.s, .slice A2 ia.a.length c2, .slice D2 ia.b.length d2] 26)
  have H_a : VN w w.heap.size (.agg #[.bool ra.s, .slice A1 ra.a.length c1, .slice D1 ra.b.length d1, .bool ia.s, .slice A2 ia.a.length c2, .slice D2 ia.b.length d2]) ra ia := ⟨A1, c1, D1, d1, A2, c2, D2, d2, rfl, p1, p2, p3, p4⟩
  have H_a := H_a.st C0
  clear p1 p2 p3 p4
  obtain ⟨W0, hW0⟩ : ∃ W0, W0 = w.alloc (.cells #[.bool ra.s, .slice A1 ra.a.length c1, .slice D1 ra.b.length d1, .bool ia.s, .slice A2 ia.a.length c2, .slice D2 ia.b.length d2] 26) := ⟨_, rfl⟩
  go_enter Try.func7, Try.ntmps7
  go_wp2_with fail
  rw [← hW0] at S_a C0 H_a ⊢
  clear hW0
  refine (awake4_any _).mono ?_; rintro e w3 ⟨rfl, B3⟩
  have S_a := S_a.nx B3
  have H_a := H_a.st B3
  have C0 := bt C0 B3
  have i0 := S_a.cell 0
  have i1 := S_a.cell 1
  have i2 := S_a.cell 2
  have i3 := S_a.cell 3
  have i4 := S_a.cell 4
  have i5 := S_a.cell 5
  go_wp2_with fail
  refine (u1 _ _ H_a).mono ?_; rintro e w4 ⟨rfl, B4⟩
  have S_a := S_a.nx B4
  have H_a := H_a.st B4
  have C0 := bt C0 B4
  clear i0 i1 i2 i3 i4 i5
  go_wp2_with fail
  refine (awake4_any _).mono ?_; rintro e w5 ⟨rfl, B5⟩
  have S_a := S_a.nx B5
  have H_a := H_a.st B5
  have C0 := bt C0 B5
  go_wp2_with fail
  go_ret
  exact ⟨rfl, C0⟩
set_option maxRecDepth 100000 in
set_option maxHeartbeats 16000000 in
theorem bitsMoves_ok0 (V : Value) (ra ia : Rw) (n K : Int) (w : World) (hV : VN w w.heap.size V ra ia) (_ : 0 ≤ n ∧ n ≤ 255) (hK : n % 100 = K) (hq : wB ra ia = true) (t p z d q mr mi : Rw) (mk : Int) (hm : mk = 0)
    (oi : ∀ w, Calls Try.prog 29 #[.int .i64 2] w (RetN w t z)) (e1 : qexptA t z K = (p, z, 0)) (e2 : qshiftA ra ia K = (mr, mi, mk)) (e3 : qmulA ra ia p z = (mr, mi, mk)) (e4 : qshiftA ra ia (-K) = (d, z, 0))
    (e5 : qdmA ra ia p z = (d, z, q, z, 0)) (e6 : qfieldA ra ia 0 K = (q, z, 0)) (e7 : sameB d z d z = true) (e8 : sameB q z q z = true) (e9 : mk = 0 → sameB mr mi mr mi = true) : Calls Try.prog 7 #[V, .int .u8 n] w fun e w' => e = .returned (.bool true) ∧ Below w.heap.size w w' := by
  have u1 := fun V w' h1 => whole1_any V ra ia w' h1
  rw [hq] at u1
  have o1 := fun V w' h1 => eexpt_any (V := V) (r := t) (i := z) (n := K) (w := w') h1
  rw [e1] at o1
  have o2 := fun V w' h1 => bshift_any V ra ia K w' h1
  rw [e2] at o2
  have o3 := fun V U w' h1 h2 => emul_any (V := V) (U := U) (r := ra) (i := ia) (r' := p) (i' := z) (w := w') h1 h2
  rw [e3] at o3
  have o4 := fun V w' h1 => bshift_any V ra ia (-K) w' h1
  rw [e4] at o4
  have o5 := fun V U w' h1 h2 => edm_any (V := V) (U := U) (r := ra) (i := ia) (r' := p) (i' := z) (w := w') h1 h2
  rw [e5] at o5
  have o6 := fun V w' h1 => bfield_any V ra ia 0 K w' h1
  rw [e6] at o6
  have l1 := fun V U w' h1 h2 => esame_any V U d z d z w' h1 h2
  rw [e7] at l1
  have l2 := fun V U w' h1 h2 => esame_any V U q z q z w' h1 h2
  rw [e8] at l2
  subst hm
  have l0 := fun V U w' h1 h2 => esame_any V U mr mi mr mi w' h1 h2
  rw [e9 rfl] at l0
  clear hq e1 e2 e3 e4 e5 e6 e7 e8 e9
  have hK0 : 0 ≤ K ∧ K < 100 := by omega
  obtain ⟨A1, c1, D1, d1, A2, c2, D2, d2, rfl, p1, p2, p3, p4⟩ := hV
  have S_a := SB.new w [.bool ra.s, .slice A1 ra.a.length c1, .slice D1 ra.b.length d1, .bool ia.s, .slice A2 ia.a.length c2, .slice D2 ia.b.length d2] 26
  have C0 := bal w (.cells #[.bool ra.s, .slice A1 ra.a.length c1, .slice D1 ra.b.length d1, .bool ia.s, .slice A2 ia.a.length c2, .slice D2 ia.b.length d2] 26)
  have H_a : VN w w.heap.size (.agg #[.bool ra.s, .slice A1 ra.a.length c1, .slice D1 ra.b.length d1, .bool ia.s, .slice A2 ia.a.length c2, .slice D2 ia.b.length d2]) ra ia := ⟨A1, c1, D1, d1, A2, c2, D2, d2, rfl, p1, p2, p3, p4⟩
  have H_a := H_a.st C0
  clear p1 p2 p3 p4
  obtain ⟨W0, hW0⟩ : ∃ W0, W0 = w.alloc (.cells #[.bool ra.s, .slice A1 ra.a.length c1, .slice D1 ra.b.length d1, .bool ia.s, .slice A2 ia.a.length c2, .slice D2 ia.b.length d2] 26) := ⟨_, rfl⟩
  go_enter Try.func7, Try.ntmps7
  go_wp2_with fail
  rw [← hW0] at S_a C0 H_a ⊢
  clear hW0
  refine (awake4_any _).mono ?_; rintro e w3 ⟨rfl, B3⟩
  have S_a := S_a.nx B3
  have H_a := H_a.st B3
  have C0 := bt C0 B3
  have i0 := S_a.cell 0
  have i1 := S_a.cell 1
  have i2 := S_a.cell 2
  have i3 := S_a.cell 3
  have i4 := S_a.cell 4
  have i5 := S_a.cell 5
  go_wp2_with fail
  refine (u1 _ _ H_a).mono ?_; rintro e w4 ⟨rfl, B4⟩
  have S_a := S_a.nx B4
  have H_a := H_a.st B4
  have C0 := bt C0 B4
  clear i0 i1 i2 i3 i4 i5
  go_wp2_with fail
  refine (oi _).mono ?_; rintro e w5 ⟨A5a, c5a, D5a, d5a, A5b, c5b, D5b, d5b, rfl, O5a, O5b, O5c, O5d, B5⟩
  have H_t : VN w5 w5.heap.size (.agg #[.bool t.s, .slice A5a t.a.length c5a, .slice D5a t.b.length d5a, .bool z.s, .slice A5b z.a.length c5b, .slice D5b z.b.length d5b]) t z := ⟨A5a, c5a, D5a, d5a, A5b, c5b, D5b, d5b, rfl, O5a.rw, O5b.rw, O5c.rw, O5d.rw⟩
  clear O5a O5b O5c O5d
  have S_a := S_a.nx B5
  have H_a := H_a.st B5
  have C0 := bt C0 B5
  go_wp2_with fail
  refine (o1 _ _ H_t).mono ?_; rintro e w6 ⟨A6a, c6a, D6a, d6a, A6b, c6b, D6b, d6b, rfl, O6a, O6b, O6c, O6d, B6⟩
  try dsimp only at O6a O6b O6c O6d
  have H_p : VN w6 w6.heap.size (.agg #[.bool p.s, .slice A6a p.a.length c6a, .slice D6a p.b.length d6a, .bool z.s, .slice A6b z.a.length c6b, .slice D6b z.b.length d6b]) p z := ⟨A6a, c6a, D6a, d6a, A6b, c6b, D6b, d6b, rfl, O6a.rw, O6b.rw, O6c.rw, O6d.rw⟩
  clear O6a O6b O6c O6d
  have S_a := S_a.nx B6
  have H_a := H_a.st B6
  have H_t := H_t.st B6
  have C0 := bt C0 B6
  have L6 := bal w6 (.cells #[.bool p.s, .slice A6a p.a.length c6a, .slice D6a p.b.length d6a, .bool z.s, .slice A6b z.a.length c6b, .slice D6b z.b.length d6b] 26)
  have S_p := SB.new w6 [.bool p.s, .slice A6a p.a.length c6a, .slice D6a p.b.length d6a, .bool z.s, .slice A6b z.a.length c6b, .slice D6b z.b.length d6b] 26
  have S_a := S_a.nx L6
  have H_a := H_a.st L6
  have H_t := H_t.st L6
  have H_p := H_p.st L6
  have C0 := bt C0 L6
  clear H_t oi o1
  have i0 := S_a.cell 0
  have i1 := S_a.cell 1
  have i2 := S_a.cell 2
  have i3 := S_a.cell 3
  have i4 := S_a.cell 4
  have i5 := S_a.cell 5
  go_wp2_with fail
  clear i0 i1 i2 i3 i4 i5
  refine (o2 _ _ H_a).mono ?_; rintro e w7 ⟨A7a, c7a, D7a, d7a, A7b, c7b, D7b, d7b, rfl, O7a, O7b, O7c, O7d, B7⟩
  try dsimp only at O7a O7b O7c O7d
  have H_u : VN w7 w7.heap.size (.agg #[.bool mr.s, .slice A7a mr.a.length c7a, .slice D7a mr.b.length d7a, .bool mi.s, .slice A7b mi.a.length c7b, .slice D7b mi.b.length d7b]) mr mi := ⟨A7a, c7a, D7a, d7a, A7b, c7b, D7b, d7b, rfl, O7a.rw, O7b.rw, O7c.rw, O7d.rw⟩
  clear O7a O7b O7c O7d
  have S_a := S_a.nx B7
  have H_a := H_a.st B7
  have S_p := S_p.nx B7
  have H_p := H_p.st B7
  have C0 := bt C0 B7
  have L7 := bal w7 (.cells #[.bool mr.s, .slice A7a mr.a.length c7a, .slice D7a mr.b.length d7a, .bool mi.s, .slice A7b mi.a.length c7b, .slice D7b mi.b.length d7b] 26)
  have S_u := SB.new w7 [.bool mr.s, .slice A7a mr.a.length c7a, .slice D7a mr.b.length d7a, .bool mi.s, .slice A7b mi.a.length c7b, .slice D7b mi.b.length d7b] 26
  have S_a := S_a.nx L7
  have H_a := H_a.st L7
  have S_p := S_p.nx L7
  have H_p := H_p.st L7
  have H_u := H_u.st L7
  have C0 := bt C0 L7
  have i0 := S_a.cell 0
  have i1 := S_a.cell 1
  have i2 := S_a.cell 2
  have i3 := S_a.cell 3
  have i4 := S_a.cell 4
  have i5 := S_a.cell 5
  have j0 := S_p.cell 0
  have j1 := S_p.cell 1
  have j2 := S_p.cell 2
  have j3 := S_p.cell 3
  have j4 := S_p.cell 4
  have j5 := S_p.cell 5
  go_wp2_with fail
  clear i0 i1 i2 i3 i4 i5
  clear j0 j1 j2 j3 j4 j5
  refine (o3 _ _ _ H_a H_p).mono ?_; rintro e w8 ⟨A8a, c8a, D8a, d8a, A8b, c8b, D8b, d8b, rfl, O8a, O8b, O8c, O8d, B8⟩
  try dsimp only at O8a O8b O8c O8d
  have H_m : VN w8 w8.heap.size (.agg #[.bool mr.s, .slice A8a mr.a.length c8a, .slice D8a mr.b.length d8a, .bool mi.s, .slice A8b mi.a.length c8b, .slice D8b mi.b.length d8b]) mr mi := ⟨A8a, c8a, D8a, d8a, A8b, c8b, D8b, d8b, rfl, O8a.rw, O8b.rw, O8c.rw, O8d.rw⟩
  clear O8a O8b O8c O8d
  have S_a := S_a.nx B8
  have H_a := H_a.st B8
  have S_p := S_p.nx B8
  have H_p := H_p.st B8
  have S_u := S_u.nx B8
  have H_u := H_u.st B8
  have C0 := bt C0 B8
  have L8 := bal w8 (.cells #[.bool mr.s, .slice A8a mr.a.length c8a, .slice D8a mr.b.length d8a, .bool mi.s, .slice A8b mi.a.length c8b, .slice D8b mi.b.length d8b] 26)
  have S_m := SB.new w8 [.bool mr.s, .slice A8a mr.a.length c8a, .slice D8a mr.b.length d8a, .bool mi.s, .slice A8b mi.a.length c8b, .slice D8b mi.b.length d8b] 26
  have S_a := S_a.nx L8
  have H_a := H_a.st L8
  have S_p := S_p.nx L8
  have H_p := H_p.st L8
  have S_u := S_u.nx L8
  have H_u := H_u.st L8
  have H_m := H_m.st L8
  have C0 := bt C0 L8
  have i0 := S_a.cell 0
  have i1 := S_a.cell 1
  have i2 := S_a.cell 2
  have i3 := S_a.cell 3
  have i4 := S_a.cell 4
  have i5 := S_a.cell 5
  go_wp2_with fail
  clear i0 i1 i2 i3 i4 i5
  refine (o4 _ _ H_a).mono ?_; rintro e w9 ⟨A9a, c9a, D9a, d9a, A9b, c9b, D9b, d9b, rfl, O9a, O9b, O9c, O9d, B9⟩
  try dsimp only at O9a O9b O9c O9d
  have H_d : VN w9 w9.heap.size (.agg #[.bool d.s, .slice A9a d.a.length c9a, .slice D9a d.b.length d9a, .bool z.s, .slice A9b z.a.length c9b, .slice D9b z.b.length d9b]) d z := ⟨A9a, c9a, D9a, d9a, A9b, c9b, D9b, d9b, rfl, O9a.rw, O9b.rw, O9c.rw, O9d.rw⟩
  clear O9a O9b O9c O9d
  have S_a := S_a.nx B9
  have H_a := H_a.st B9
  have S_p := S_p.nx B9
  have H_p := H_p.st B9
  have S_u := S_u.nx B9
  have H_u := H_u.st B9
  have S_m := S_m.nx B9
  have H_m := H_m.st B9
  have C0 := bt C0 B9
  have L9 := bal w9 (.cells #[.bool d.s, .slice A9a d.a.length c9a, .slice D9a d.b.length d9a, .bool z.s, .slice A9b z.a.length c9b, .slice D9b z.b.length d9b] 26)
  have S_d := SB.new w9 [.bool d.s, .slice A9a d.a.length c9a, .slice D9a d.b.length d9a, .bool z.s, .slice A9b z.a.length c9b, .slice D9b z.b.length d9b] 26
  have S_a := S_a.nx L9
  have H_a := H_a.st L9
  have S_p := S_p.nx L9
  have H_p := H_p.st L9
  have S_u := S_u.nx L9
  have H_u := H_u.st L9
  have S_m := S_m.nx L9
  have H_m := H_m.st L9
  have H_d := H_d.st L9
  have C0 := bt C0 L9
  have i0 := S_a.cell 0
  have i1 := S_a.cell 1
  have i2 := S_a.cell 2
  have i3 := S_a.cell 3
  have i4 := S_a.cell 4
  have i5 := S_a.cell 5
  have j0 := S_p.cell 0
  have j1 := S_p.cell 1
  have j2 := S_p.cell 2
  have j3 := S_p.cell 3
  have j4 := S_p.cell 4
  have j5 := S_p.cell 5
  go_wp2_with fail
  refine (o5 _ _ _ H_a H_p).mono ?_; rintro e w10 ⟨A10a, c10a, D10a, d10a, A10b, c10b, D10b, d10b, A10c, c10c, D10c, d10c, A10d, c10d, D10d, d10d, rfl, ⟨O1, O2, O3, O4⟩, ⟨O5, O6, O7, O8⟩, B10⟩
  try dsimp only at O1 O2 O3 O4 O5 O6 O7 O8
  clear i0 i1 i2 i3 i4 i5
  clear j0 j1 j2 j3 j4 j5
  have H_q : VN w10 w10.heap.size (.agg #[.bool d.s, .slice A10a d.a.length c10a, .slice D10a d.b.length d10a, .bool z.s, .slice A10b z.a.length c10b, .slice D10b z.b.length d10b]) d z := ⟨A10a, c10a, D10a, d10a, A10b, c10b, D10b, d10b, rfl, O1.rw, O2.rw, O3.rw, O4.rw⟩
  have H_r : VN w10 w10.heap.size (.agg #[.bool q.s, .slice A10c q.a.length c10c, .slice D10c q.b.length d10c, .bool z.s, .slice A10d z.a.length c10d, .slice D10d z.b.length d10d]) q z := ⟨A10c, c10c, D10c, d10c, A10d, c10d, D10d, d10d, rfl, O5.rw, O6.rw, O7.rw, O8.rw⟩
  clear O1 O2 O3 O4 O5 O6 O7 O8
  have S_a := S_a.nx B10
  have H_a := H_a.st B10
  have S_p := S_p.nx B10
  have H_p := H_p.st B10
  have S_u := S_u.nx B10
  have H_u := H_u.st B10
  have S_m := S_m.nx B10
  have H_m := H_m.st B10
  have S_d := S_d.nx B10
  have H_d := H_d.st B10
  have C0 := bt C0 B10
  have L2 := bt (bal w10 (.cells #[.bool false, .slice none 0 0, .slice none 0 0, .bool false, .slice none 0 0, .slice none 0 0] 26)) (bal (w10.alloc (.cells #[.bool false, .slice none 0 0, .slice none 0 0, .bool false, .slice none 0 0, .slice none 0 0] 26)) (.cells #[.bool false, .slice none 0 0, .slice none 0 0, .bool false, .slice none 0 0, .slice none 0 0] 26))
  have S1 := (SB.new w10 [.bool false, .slice none 0 0, .slice none 0 0, .bool false, .slice none 0 0, .slice none 0 0] 26).nx (bal (w10.alloc (.cells #[.bool false, .slice none 0 0, .slice none 0 0, .bool false, .slice none 0 0, .slice none 0 0] 26)) (.cells #[.bool false, .slice none 0 0, .slice none 0 0, .bool false, .slice none 0 0, .slice none 0 0] 26))
  have S2 := SB.new (w10.alloc (.cells #[.bool false, .slice none 0 0, .slice none 0 0, .bool false, .slice none 0 0, .slice none 0 0] 26)) [.bool false, .slice none 0 0, .slice none 0 0, .bool false, .slice none 0 0, .slice none 0 0] 26
  rw [show (w10.alloc (.cells #[.bool false, .slice none 0 0, .slice none 0 0, .bool false, .slice none 0 0, .slice none 0 0] 26)).heap.size = w10.heap.size + 1 by simp] at S2
  have hR1 := S1.rc (n := 6)
  have hR2 := (S2.wr6 (r := w10.heap.size) (by omega) (.bool d.s) (.slice A10a d.a.length c10a) (.slice D10a d.b.length d10a) (.bool z.s) (.slice A10b z.a.length c10b) (.slice D10b z.b.length d10b)).rc (n := 6)
  have S_q := (hR1.put6 (.bool d.s) (.slice A10a d.a.length c10a) (.slice D10a d.b.length d10a) (.bool z.s) (.slice A10b z.a.length c10b) (.slice D10b z.b.length d10b)).wr6 (r := w10.heap.size + 1) (by omega) (.bool q.s) (.slice A10c q.a.length c10c) (.slice D10c q.b.length d10c) (.bool z.s) (.slice A10d z.a.length c10d) (.slice D10d z.b.length d10d)
  have S_r := hR2.put6 (.bool q.s) (.slice A10c q.a.length c10c) (.slice D10c q.b.length d10c) (.bool z.s) (.slice A10d z.a.length c10d) (.slice D10d z.b.length d10d)
  have BW := wr6_below (b := w10.heap.size + 1) (wr6_below (b := w10.heap.size) L2 (Nat.le_refl _) (.bool d.s) (.slice A10a d.a.length c10a) (.slice D10a d.b.length d10a) (.bool z.s) (.slice A10b z.a.length c10b) (.slice D10b z.b.length d10b)) (by omega) (.bool q.s) (.slice A10c q.a.length c10c) (.slice D10c q.b.length d10c) (.bool z.s) (.slice A10d z.a.length c10d) (.slice D10d z.b.length d10d)
  obtain ⟨WF, hWF⟩ : ∃ WF, WF = wr6 (wr6 ((w10.alloc (.cells #[.bool false, .slice none 0 0, .slice none 0 0, .bool false, .slice none 0 0, .slice none 0 0] 26)).alloc (.cells #[.bool false, .slice none 0 0, .slice none 0 0, .bool false, .slice none 0 0, .slice none 0 0] 26)) w10.heap.size (.bool d.s) (.slice A10a d.a.length c10a) (.slice D10a d.b.length d10a) (.bool z.s) (.slice A10b z.a.length c10b) (.slice D10b z.b.length d10b)) (w10.heap.size + 1) (.bool q.s) (.slice A10c q.a.length c10c) (.slice D10c q.b.length d10c) (.bool z.s) (.slice A10d z.a.length c10d) (.slice D10d z.b.length d10d) := ⟨_, rfl⟩
  rw [← hWF] at S_q S_r BW
  have S_a := S_a.nx BW
  have H_a := H_a.st BW
  have S_p := S_p.nx BW
  have H_p := H_p.st BW
  have S_u := S_u.nx BW
  have H_u := H_u.st BW
  have S_m := S_m.nx BW
  have H_m := H_m.st BW
  have S_d := S_d.nx BW
  have H_d := H_d.st BW
  have H_q := H_q.st BW
  have H_r := H_r.st BW
  have C0 := bt C0 BW
  clear S1 S2 L2 BW
  go_upto_region 9 with ((refine wp_st6 rfl (.tmp 14) (.tmp 59) rfl _ rfl _ _ _ _ _ _ rfl hR1 rfl rfl rfl rfl rfl rfl ?_; refine wp_st6 rfl (.tmp 15) (.tmp 60) rfl _ rfl _ _ _ _ _ _ rfl hR2 rfl rfl rfl rfl rfl rfl ?_; rw [← hWF]; clear hWF hR1 hR2))
  generalize w10.heap.size = g10 at S_q S_r ⊢
  have i0 := S_a.cell 0
  have i1 := S_a.cell 1
  have i2 := S_a.cell 2
  have i3 := S_a.cell 3
  have i4 := S_a.cell 4
  have i5 := S_a.cell 5
  go_wp2_with fail
  clear i0 i1 i2 i3 i4 i5
  refine (o6 _ _ H_a).mono ?_; rintro e w11 ⟨A11a, c11a, D11a, d11a, A11b, c11b, D11b, d11b, rfl, O11a, O11b, O11c, O11d, B11⟩
  try dsimp only at O11a O11b O11c O11d
  have H_f : VN w11 w11.heap.size (.agg #[.bool q.s, .slice A11a q.a.length c11a, .slice D11a q.b.length d11a, .bool z.s, .slice A11b z.a.length c11b, .slice D11b z.b.length d11b]) q z := ⟨A11a, c11a, D11a, d11a, A11b, c11b, D11b, d11b, rfl, O11a.rw, O11b.rw, O11c.rw, O11d.rw⟩
  clear O11a O11b O11c O11d
  have S_a := S_a.nx B11
  have H_a := H_a.st B11
  have S_p := S_p.nx B11
  have H_p := H_p.st B11
  have S_u := S_u.nx B11
  have H_u := H_u.st B11
  have S_m := S_m.nx B11
  have H_m := H_m.st B11
  have S_d := S_d.nx B11
  have H_d := H_d.st B11
  have S_q := S_q.nx B11
  have H_q := H_q.st B11
  have S_r := S_r.nx B11
  have H_r := H_r.st B11
  have C0 := bt C0 B11
  have L11 := bal w11 (.cells #[.bool q.s, .slice A11a q.a.length c11a, .slice D11a q.b.length d11a, .bool z.s, .slice A11b z.a.length c11b, .slice D11b z.b.length d11b] 26)
  have S_f := SB.new w11 [.bool q.s, .slice A11a q.a.length c11a, .slice D11a q.b.length d11a, .bool z.s, .slice A11b z.a.length c11b, .slice D11b z.b.length d11b] 26
  have S_a := S_a.nx L11
  have H_a := H_a.st L11
  have S_p := S_p.nx L11
  have H_p := H_p.st L11
  have S_u := S_u.nx L11
  have H_u := H_u.st L11
  have S_m := S_m.nx L11
  have H_m := H_m.st L11
  have S_d := S_d.nx L11
  have H_d := H_d.st L11
  have S_q := S_q.nx L11
  have H_q := H_q.st L11
  have S_r := S_r.nx L11
  have H_r := H_r.st L11
  have H_f := H_f.st L11
  have C0 := bt C0 L11
  have i0 := S_u.cell 0
  have i1 := S_u.cell 1
  have i2 := S_u.cell 2
  have i3 := S_u.cell 3
  have i4 := S_u.cell 4
  have i5 := S_u.cell 5
  have j0 := S_m.cell 0
  have j1 := S_m.cell 1
  have j2 := S_m.cell 2
  have j3 := S_m.cell 3
  have j4 := S_m.cell 4
  have j5 := S_m.cell 5
  go_wp2_with fail
  refine (l0 _ _ _ H_u H_m).mono ?_; rintro e w12 ⟨rfl, B12⟩
  have S_a := S_a.nx B12
  have H_a := H_a.st B12
  have S_p := S_p.nx B12
  have H_p := H_p.st B12
  have S_u := S_u.nx B12
  have H_u := H_u.st B12
  have S_m := S_m.nx B12
  have H_m := H_m.st B12
  have S_d := S_d.nx B12
  have H_d := H_d.st B12
  have S_q := S_q.nx B12
  have H_q := H_q.st B12
  have S_r := S_r.nx B12
  have H_r := H_r.st B12
  have S_f := S_f.nx B12
  have H_f := H_f.st B12
  have C0 := bt C0 B12
  clear i0 i1 i2 i3 i4 i5
  clear j0 j1 j2 j3 j4 j5
  have i0 := S_d.cell 0
  have i1 := S_d.cell 1
  have i2 := S_d.cell 2
  have i3 := S_d.cell 3
  have i4 := S_d.cell 4
  have i5 := S_d.cell 5
  have j0 := S_q.cell 0
  have j1 := S_q.cell 1
  have j2 := S_q.cell 2
  have j3 := S_q.cell 3
  have j4 := S_q.cell 4
  have j5 := S_q.cell 5
  go_wp2_with fail
  refine (l1 _ _ _ H_d H_q).mono ?_; rintro e w13 ⟨rfl, B13⟩
  have S_a := S_a.nx B13
  have H_a := H_a.st B13
  have S_p := S_p.nx B13
  have H_p := H_p.st B13
  have S_u := S_u.nx B13
  have H_u := H_u.st B13
  have S_m := S_m.nx B13
  have H_m := H_m.st B13
  have S_d := S_d.nx B13
  have H_d := H_d.st B13
  have S_q := S_q.nx B13
  have H_q := H_q.st B13
  have S_r := S_r.nx B13
  have H_r := H_r.st B13
  have S_f := S_f.nx B13
  have H_f := H_f.st B13
  have C0 := bt C0 B13
  clear i0 i1 i2 i3 i4 i5
  clear j0 j1 j2 j3 j4 j5
  have i0 := S_f.cell 0
  have i1 := S_f.cell 1
  have i2 := S_f.cell 2
  have i3 := S_f.cell 3
  have i4 := S_f.cell 4
  have i5 := S_f.cell 5
  have j0 := S_r.cell 0
  have j1 := S_r.cell 1
  have j2 := S_r.cell 2
  have j3 := S_r.cell 3
  have j4 := S_r.cell 4
  have j5 := S_r.cell 5
  go_wp2_with fail
  refine (l2 _ _ _ H_f H_r).mono ?_; rintro e w14 ⟨rfl, B14⟩
  have S_a := S_a.nx B14
  have H_a := H_a.st B14
  have S_p := S_p.nx B14
  have H_p := H_p.st B14
  have S_u := S_u.nx B14
  have H_u := H_u.st B14
  have S_m := S_m.nx B14
  have H_m := H_m.st B14
  have S_d := S_d.nx B14
  have H_d := H_d.st B14
  have S_q := S_q.nx B14
  have H_q := H_q.st B14
  have S_r := S_r.nx B14
  have H_r := H_r.st B14
  have S_f := S_f.nx B14
  have H_f := H_f.st B14
  have C0 := bt C0 B14
  clear i0 i1 i2 i3 i4 i5
  clear j0 j1 j2 j3 j4 j5
  go_wp2_with fail
  go_ret
  exact ⟨rfl, C0⟩
set_option maxRecDepth 100000 in
set_option maxHeartbeats 16000000 in
theorem bitsMoves_ok1 (V : Value) (ra ia : Rw) (n K : Int) (w : World) (hV : VN w w.heap.size V ra ia) (_ : 0 ≤ n ∧ n ≤ 255) (hK : n % 100 = K) (hq : wB ra ia = true) (t p z d q mr mi : Rw) (mk : Int) (hm : mk ≠ 0)
    (oi : ∀ w, Calls Try.prog 29 #[.int .i64 2] w (RetN w t z)) (e1 : qexptA t z K = (p, z, 0)) (e2 : qshiftA ra ia K = (mr, mi, mk)) (e3 : qmulA ra ia p z = (mr, mi, mk)) (e4 : qshiftA ra ia (-K) = (d, z, 0))
    (e5 : qdmA ra ia p z = (d, z, q, z, 0)) (e6 : qfieldA ra ia 0 K = (q, z, 0)) (e7 : sameB d z d z = true) (e8 : sameB q z q z = true) : Calls Try.prog 7 #[V, .int .u8 n] w fun e w' => e = .returned (.bool true) ∧ Below w.heap.size w w' := by
  have u1 := fun V w' h1 => whole1_any V ra ia w' h1
  rw [hq] at u1
  have o1 := fun V w' h1 => eexpt_any (V := V) (r := t) (i := z) (n := K) (w := w') h1
  rw [e1] at o1
  have o2 := fun V w' h1 => bshift_any V ra ia K w' h1
  rw [e2] at o2
  have o3 := fun V U w' h1 h2 => emul_any (V := V) (U := U) (r := ra) (i := ia) (r' := p) (i' := z) (w := w') h1 h2
  rw [e3] at o3
  have o4 := fun V w' h1 => bshift_any V ra ia (-K) w' h1
  rw [e4] at o4
  have o5 := fun V U w' h1 h2 => edm_any (V := V) (U := U) (r := ra) (i := ia) (r' := p) (i' := z) (w := w') h1 h2
  rw [e5] at o5
  have o6 := fun V w' h1 => bfield_any V ra ia 0 K w' h1
  rw [e6] at o6
  have l1 := fun V U w' h1 h2 => esame_any V U d z d z w' h1 h2
  rw [e7] at l1
  have l2 := fun V U w' h1 h2 => esame_any V U q z q z w' h1 h2
  rw [e8] at l2
  have n1 : (mk != 0) = true := bne_iff_ne.2 hm
  clear hq e1 e2 e3 e4 e5 e6 e7 e8
  have hK0 : 0 ≤ K ∧ K < 100 := by omega
  obtain ⟨A1, c1, D1, d1, A2, c2, D2, d2, rfl, p1, p2, p3, p4⟩ := hV
  have S_a := SB.new w [.bool ra.s, .slice A1 ra.a.length c1, .slice D1 ra.b.length d1, .bool ia.s, .slice A2 ia.a.length c2, .slice D2 ia.b.length d2] 26
  have C0 := bal w (.cells #[.bool ra.s, .slice A1 ra.a.length c1, .slice D1 ra.b.length d1, .bool ia.s, .slice A2 ia.a.length c2, .slice D2 ia.b.length d2] 26)
  have H_a : VN w w.heap.size (.agg #[.bool ra.s, .slice A1 ra.a.length c1, .slice D1 ra.b.length d1, .bool ia.s, .slice A2 ia.a.length c2, .slice D2 ia.b.length d2]) ra ia := ⟨A1, c1, D1, d1, A2, c2, D2, d2, rfl, p1, p2, p3, p4⟩
  have H_a := H_a.st C0
  clear p1 p2 p3 p4
  obtain ⟨W0, hW0⟩ : ∃ W0, W0 = w.alloc (.cells #[.bool ra.s, .slice A1 ra.a.length c1, .slice D1 ra.b.length d1, .bool ia.s, .slice A2 ia.a.length c2, .slice D2 ia.b.length d2] 26) := ⟨_, rfl⟩
  go_enter Try.func7, Try.ntmps7
  go_wp2_with fail
  rw [← hW0] at S_a C0 H_a ⊢
  clear hW0
  refine (awake4_any _).mono ?_; rintro e w3 ⟨rfl, B3⟩
  have S_a := S_a.nx B3
  have H_a := H_a.st B3
  have C0 := bt C0 B3
  have i0 := S_a.cell 0
  have i1 := S_a.cell 1
  have i2 := S_a.cell 2
  have i3 := S_a.cell 3
  have i4 := S_a.cell 4
  have i5 := S_a.cell 5
  go_wp2_with fail
  refine (u1 _ _ H_a).mono ?_; rintro e w4 ⟨rfl, B4⟩
  have S_a := S_a.nx B4
  have H_a := H_a.st B4
  have C0 := bt C0 B4
  clear i0 i1 i2 i3 i4 i5
  go_wp2_with fail
  refine (oi _).mono ?_; rintro e w5 ⟨A5a, c5a, D5a, d5a, A5b, c5b, D5b, d5b, rfl, O5a, O5b, O5c, O5d, B5⟩
  have H_t : VN w5 w5.heap.size (.agg #[.bool t.s, .slice A5a t.a.length c5a, .slice D5a t.b.length d5a, .bool z.s, .slice A5b z.a.length c5b, .slice D5b z.b.length d5b]) t z := ⟨A5a, c5a, D5a, d5a, A5b, c5b, D5b, d5b, rfl, O5a.rw, O5b.rw, O5c.rw, O5d.rw⟩
  clear O5a O5b O5c O5d
  have S_a := S_a.nx B5
  have H_a := H_a.st B5
  have C0 := bt C0 B5
  go_wp2_with fail
  refine (o1 _ _ H_t).mono ?_; rintro e w6 ⟨A6a, c6a, D6a, d6a, A6b, c6b, D6b, d6b, rfl, O6a, O6b, O6c, O6d, B6⟩
  try dsimp only at O6a O6b O6c O6d
  have H_p : VN w6 w6.heap.size (.agg #[.bool p.s, .slice A6a p.a.length c6a, .slice D6a p.b.length d6a, .bool z.s, .slice A6b z.a.length c6b, .slice D6b z.b.length d6b]) p z := ⟨A6a, c6a, D6a, d6a, A6b, c6b, D6b, d6b, rfl, O6a.rw, O6b.rw, O6c.rw, O6d.rw⟩
  clear O6a O6b O6c O6d
  have S_a := S_a.nx B6
  have H_a := H_a.st B6
  have H_t := H_t.st B6
  have C0 := bt C0 B6
  have L6 := bal w6 (.cells #[.bool p.s, .slice A6a p.a.length c6a, .slice D6a p.b.length d6a, .bool z.s, .slice A6b z.a.length c6b, .slice D6b z.b.length d6b] 26)
  have S_p := SB.new w6 [.bool p.s, .slice A6a p.a.length c6a, .slice D6a p.b.length d6a, .bool z.s, .slice A6b z.a.length c6b, .slice D6b z.b.length d6b] 26
  have S_a := S_a.nx L6
  have H_a := H_a.st L6
  have H_t := H_t.st L6
  have H_p := H_p.st L6
  have C0 := bt C0 L6
  clear H_t oi o1
  have i0 := S_a.cell 0
  have i1 := S_a.cell 1
  have i2 := S_a.cell 2
  have i3 := S_a.cell 3
  have i4 := S_a.cell 4
  have i5 := S_a.cell 5
  go_wp2_with fail
  clear i0 i1 i2 i3 i4 i5
  refine (o2 _ _ H_a).mono ?_; rintro e w7 ⟨A7a, c7a, D7a, d7a, A7b, c7b, D7b, d7b, rfl, O7a, O7b, O7c, O7d, B7⟩
  try dsimp only at O7a O7b O7c O7d
  have H_u : VN w7 w7.heap.size (.agg #[.bool mr.s, .slice A7a mr.a.length c7a, .slice D7a mr.b.length d7a, .bool mi.s, .slice A7b mi.a.length c7b, .slice D7b mi.b.length d7b]) mr mi := ⟨A7a, c7a, D7a, d7a, A7b, c7b, D7b, d7b, rfl, O7a.rw, O7b.rw, O7c.rw, O7d.rw⟩
  clear O7a O7b O7c O7d
  have S_a := S_a.nx B7
  have H_a := H_a.st B7
  have S_p := S_p.nx B7
  have H_p := H_p.st B7
  have C0 := bt C0 B7
  have L7 := bal w7 (.cells #[.bool mr.s, .slice A7a mr.a.length c7a, .slice D7a mr.b.length d7a, .bool mi.s, .slice A7b mi.a.length c7b, .slice D7b mi.b.length d7b] 26)
  have S_u := SB.new w7 [.bool mr.s, .slice A7a mr.a.length c7a, .slice D7a mr.b.length d7a, .bool mi.s, .slice A7b mi.a.length c7b, .slice D7b mi.b.length d7b] 26
  have S_a := S_a.nx L7
  have H_a := H_a.st L7
  have S_p := S_p.nx L7
  have H_p := H_p.st L7
  have H_u := H_u.st L7
  have C0 := bt C0 L7
  have i0 := S_a.cell 0
  have i1 := S_a.cell 1
  have i2 := S_a.cell 2
  have i3 := S_a.cell 3
  have i4 := S_a.cell 4
  have i5 := S_a.cell 5
  have j0 := S_p.cell 0
  have j1 := S_p.cell 1
  have j2 := S_p.cell 2
  have j3 := S_p.cell 3
  have j4 := S_p.cell 4
  have j5 := S_p.cell 5
  go_wp2_with fail
  clear i0 i1 i2 i3 i4 i5
  clear j0 j1 j2 j3 j4 j5
  refine (o3 _ _ _ H_a H_p).mono ?_; rintro e w8 ⟨A8a, c8a, D8a, d8a, A8b, c8b, D8b, d8b, rfl, O8a, O8b, O8c, O8d, B8⟩
  try dsimp only at O8a O8b O8c O8d
  have H_m : VN w8 w8.heap.size (.agg #[.bool mr.s, .slice A8a mr.a.length c8a, .slice D8a mr.b.length d8a, .bool mi.s, .slice A8b mi.a.length c8b, .slice D8b mi.b.length d8b]) mr mi := ⟨A8a, c8a, D8a, d8a, A8b, c8b, D8b, d8b, rfl, O8a.rw, O8b.rw, O8c.rw, O8d.rw⟩
  clear O8a O8b O8c O8d
  have S_a := S_a.nx B8
  have H_a := H_a.st B8
  have S_p := S_p.nx B8
  have H_p := H_p.st B8
  have S_u := S_u.nx B8
  have H_u := H_u.st B8
  have C0 := bt C0 B8
  have L8 := bal w8 (.cells #[.bool mr.s, .slice A8a mr.a.length c8a, .slice D8a mr.b.length d8a, .bool mi.s, .slice A8b mi.a.length c8b, .slice D8b mi.b.length d8b] 26)
  have S_m := SB.new w8 [.bool mr.s, .slice A8a mr.a.length c8a, .slice D8a mr.b.length d8a, .bool mi.s, .slice A8b mi.a.length c8b, .slice D8b mi.b.length d8b] 26
  have S_a := S_a.nx L8
  have H_a := H_a.st L8
  have S_p := S_p.nx L8
  have H_p := H_p.st L8
  have S_u := S_u.nx L8
  have H_u := H_u.st L8
  have H_m := H_m.st L8
  have C0 := bt C0 L8
  have i0 := S_a.cell 0
  have i1 := S_a.cell 1
  have i2 := S_a.cell 2
  have i3 := S_a.cell 3
  have i4 := S_a.cell 4
  have i5 := S_a.cell 5
  go_wp2_with fail
  clear i0 i1 i2 i3 i4 i5
  refine (o4 _ _ H_a).mono ?_; rintro e w9 ⟨A9a, c9a, D9a, d9a, A9b, c9b, D9b, d9b, rfl, O9a, O9b, O9c, O9d, B9⟩
  try dsimp only at O9a O9b O9c O9d
  have H_d : VN w9 w9.heap.size (.agg #[.bool d.s, .slice A9a d.a.length c9a, .slice D9a d.b.length d9a, .bool z.s, .slice A9b z.a.length c9b, .slice D9b z.b.length d9b]) d z := ⟨A9a, c9a, D9a, d9a, A9b, c9b, D9b, d9b, rfl, O9a.rw, O9b.rw, O9c.rw, O9d.rw⟩
  clear O9a O9b O9c O9d
  have S_a := S_a.nx B9
  have H_a := H_a.st B9
  have S_p := S_p.nx B9
  have H_p := H_p.st B9
  have S_u := S_u.nx B9
  have H_u := H_u.st B9
  have S_m := S_m.nx B9
  have H_m := H_m.st B9
  have C0 := bt C0 B9
  have L9 := bal w9 (.cells #[.bool d.s, .slice A9a d.a.length c9a, .slice D9a d.b.length d9a, .bool z.s, .slice A9b z.a.length c9b, .slice D9b z.b.length d9b] 26)
  have S_d := SB.new w9 [.bool d.s, .slice A9a d.a.length c9a, .slice D9a d.b.length d9a, .bool z.s, .slice A9b z.a.length c9b, .slice D9b z.b.length d9b] 26
  have S_a := S_a.nx L9
  have H_a := H_a.st L9
  have S_p := S_p.nx L9
  have H_p := H_p.st L9
  have S_u := S_u.nx L9
  have H_u := H_u.st L9
  have S_m := S_m.nx L9
  have H_m := H_m.st L9
  have H_d := H_d.st L9
  have C0 := bt C0 L9
  have i0 := S_a.cell 0
  have i1 := S_a.cell 1
  have i2 := S_a.cell 2
  have i3 := S_a.cell 3
  have i4 := S_a.cell 4
  have i5 := S_a.cell 5
  have j0 := S_p.cell 0
  have j1 := S_p.cell 1
  have j2 := S_p.cell 2
  have j3 := S_p.cell 3
  have j4 := S_p.cell 4
  have j5 := S_p.cell 5
  go_wp2_with fail
  refine (o5 _ _ _ H_a H_p).mono ?_; rintro e w10 ⟨A10a, c10a, D10a, d10a, A10b, c10b, D10b, d10b, A10c, c10c, D10c, d10c, A10d, c10d, D10d, d10d, rfl, ⟨O1, O2, O3, O4⟩, ⟨O5, O6, O7, O8⟩, B10⟩
  try dsimp only at O1 O2 O3 O4 O5 O6 O7 O8
  clear i0 i1 i2 i3 i4 i5
  clear j0 j1 j2 j3 j4 j5
  have H_q : VN w10 w10.heap.size (.agg #[.bool d.s, .slice A10a d.a.length c10a, .slice D10a d.b.length d10a, .bool z.s, .slice A10b z.a.length c10b, .slice D10b z.b.length d10b]) d z := ⟨A10a, c10a, D10a, d10a, A10b, c10b, D10b, d10b, rfl, O1.rw, O2.rw, O3.rw, O4.rw⟩
  have H_r : VN w10 w10.heap.size (.agg #[.bool q.s, .slice A10c q.a.length c10c, .slice D10c q.b.length d10c, .bool z.s, .slice A10d z.a.length c10d, .slice D10d z.b.length d10d]) q z := ⟨A10c, c10c, D10c, d10c, A10d, c10d, D10d, d10d, rfl, O5.rw, O6.rw, O7.rw, O8.rw⟩
  clear O1 O2 O3 O4 O5 O6 O7 O8
  have S_a := S_a.nx B10
  have H_a := H_a.st B10
  have S_p := S_p.nx B10
  have H_p := H_p.st B10
  have S_u := S_u.nx B10
  have H_u := H_u.st B10
  have S_m := S_m.nx B10
  have H_m := H_m.st B10
  have S_d := S_d.nx B10
  have H_d := H_d.st B10
  have C0 := bt C0 B10
  have L2 := bt (bal w10 (.cells #[.bool false, .slice none 0 0, .slice none 0 0, .bool false, .slice none 0 0, .slice none 0 0] 26)) (bal (w10.alloc (.cells #[.bool false, .slice none 0 0, .slice none 0 0, .bool false, .slice none 0 0, .slice none 0 0] 26)) (.cells #[.bool false, .slice none 0 0, .slice none 0 0, .bool false, .slice none 0 0, .slice none 0 0] 26))
  have S1 := (SB.new w10 [.bool false, .slice none 0 0, .slice none 0 0, .bool false, .slice none 0 0, .slice none 0 0] 26).nx (bal (w10.alloc (.cells #[.bool false, .slice none 0 0, .slice none 0 0, .bool false, .slice none 0 0, .slice none 0 0] 26)) (.cells #[.bool false, .slice none 0 0, .slice none 0 0, .bool false, .slice none 0 0, .slice none 0 0] 26))
  have S2 := SB.new (w10.alloc (.cells #[.bool false, .slice none 0 0, .slice none 0 0, .bool false, .slice none 0 0, .slice none 0 0] 26)) [.bool false, .slice none 0 0, .slice none 0 0, .bool false, .slice none 0 0, .slice none 0 0] 26
  rw [show (w10.alloc (.cells #[.bool false, .slice none 0 0, .slice none 0 0, .bool false, .slice none 0 0, .slice none 0 0] 26)).heap.size = w10.heap.size + 1 by simp] at S2
  have hR1 := S1.rc (n := 6)
  have hR2 := (S2.wr6 (r := w10.heap.size) (by omega) (.bool d.s) (.slice A10a d.a.length c10a) (.slice D10a d.b.length d10a) (.bool z.s) (.slice A10b z.a.length c10b) (.slice D10b z.b.length d10b)).rc (n := 6)
  have S_q := (hR1.put6 (.bool d.s) (.slice A10a d.a.length c10a) (.slice D10a d.b.length d10a) (.bool z.s) (.slice A10b z.a.length c10b) (.slice D10b z.b.length d10b)).wr6 (r := w10.heap.size + 1) (by omega) (.bool q.s) (.slice A10c q.a.length c10c) (.slice D10c q.b.length d10c) (.bool z.s) (.slice A10d z.a.length c10d) (.slice D10d z.b.length d10d)
  have S_r := hR2.put6 (.bool q.s) (.slice A10c q.a.length c10c) (.slice D10c q.b.length d10c) (.bool z.s) (.slice A10d z.a.length c10d) (.slice D10d z.b.length d10d)
  have BW := wr6_below (b := w10.heap.size + 1) (wr6_below (b := w10.heap.size) L2 (Nat.le_refl _) (.bool d.s) (.slice A10a d.a.length c10a) (.slice D10a d.b.length d10a) (.bool z.s) (.slice A10b z.a.length c10b) (.slice D10b z.b.length d10b)) (by omega) (.bool q.s) (.slice A10c q.a.length c10c) (.slice D10c q.b.length d10c) (.bool z.s) (.slice A10d z.a.length c10d) (.slice D10d z.b.length d10d)
  obtain ⟨WF, hWF⟩ : ∃ WF, WF = wr6 (wr6 ((w10.alloc (.cells #[.bool false, .slice none 0 0, .slice none 0 0, .bool false, .slice none 0 0, .slice none 0 0] 26)).alloc (.cells #[.bool false, .slice none 0 0, .slice none 0 0, .bool false, .slice none 0 0, .slice none 0 0] 26)) w10.heap.size (.bool d.s) (.slice A10a d.a.length c10a) (.slice D10a d.b.length d10a) (.bool z.s) (.slice A10b z.a.length c10b) (.slice D10b z.b.length d10b)) (w10.heap.size + 1) (.bool q.s) (.slice A10c q.a.length c10c) (.slice D10c q.b.length d10c) (.bool z.s) (.slice A10d z.a.length c10d) (.slice D10d z.b.length d10d) := ⟨_, rfl⟩
  rw [← hWF] at S_q S_r BW
  have S_a := S_a.nx BW
  have H_a := H_a.st BW
  have S_p := S_p.nx BW
  have H_p := H_p.st BW
  have S_u := S_u.nx BW
  have H_u := H_u.st BW
  have S_m := S_m.nx BW
  have H_m := H_m.st BW
  have S_d := S_d.nx BW
  have H_d := H_d.st BW
  have H_q := H_q.st BW
  have H_r := H_r.st BW
  have C0 := bt C0 BW
  clear S1 S2 L2 BW
  go_upto_region 9 with ((refine wp_st6 rfl (.tmp 14) (.tmp 59) rfl _ rfl _ _ _ _ _ _ rfl hR1 rfl rfl rfl rfl rfl rfl ?_; refine wp_st6 rfl (.tmp 15) (.tmp 60) rfl _ rfl _ _ _ _ _ _ rfl hR2 rfl rfl rfl rfl rfl rfl ?_; rw [← hWF]; clear hWF hR1 hR2))
  generalize w10.heap.size = g10 at S_q S_r ⊢
  have i0 := S_a.cell 0
  have i1 := S_a.cell 1
  have i2 := S_a.cell 2
  have i3 := S_a.cell 3
  have i4 := S_a.cell 4
  have i5 := S_a.cell 5
  go_wp2_with fail
  clear i0 i1 i2 i3 i4 i5
  refine (o6 _ _ H_a).mono ?_; rintro e w11 ⟨A11a, c11a, D11a, d11a, A11b, c11b, D11b, d11b, rfl, O11a, O11b, O11c, O11d, B11⟩
  try dsimp only at O11a O11b O11c O11d
  have H_f : VN w11 w11.heap.size (.agg #[.bool q.s, .slice A11a q.a.length c11a, .slice D11a q.b.length d11a, .bool z.s, .slice A11b z.a.length c11b, .slice D11b z.b.length d11b]) q z := ⟨A11a, c11a, D11a, d11a, A11b, c11b, D11b, d11b, rfl, O11a.rw, O11b.rw, O11c.rw, O11d.rw⟩
  clear O11a O11b O11c O11d
  have S_a := S_a.nx B11
  have H_a := H_a.st B11
  have S_p := S_p.nx B11
  have H_p := H_p.st B11
  have S_u := S_u.nx B11
  have H_u := H_u.st B11
  have S_m := S_m.nx B11
  have H_m := H_m.st B11
  have S_d := S_d.nx B11
  have H_d := H_d.st B11
  have S_q := S_q.nx B11
  have H_q := H_q.st B11
  have S_r := S_r.nx B11
  have H_r := H_r.st B11
  have C0 := bt C0 B11
  have L11 := bal w11 (.cells #[.bool q.s, .slice A11a q.a.length c11a, .slice D11a q.b.length d11a, .bool z.s, .slice A11b z.a.length c11b, .slice D11b z.b.length d11b] 26)
  have S_f := SB.new w11 [.bool q.s, .slice A11a q.a.length c11a, .slice D11a q.b.length d11a, .bool z.s, .slice A11b z.a.length c11b, .slice D11b z.b.length d11b] 26
  have S_a := S_a.nx L11
  have H_a := H_a.st L11
  have S_p := S_p.nx L11
  have H_p := H_p.st L11
  have S_u := S_u.nx L11
  have H_u := H_u.st L11
  have S_m := S_m.nx L11
  have H_m := H_m.st L11
  have S_d := S_d.nx L11
  have H_d := H_d.st L11
  have S_q := S_q.nx L11
  have H_q := H_q.st L11
  have S_r := S_r.nx L11
  have H_r := H_r.st L11
  have H_f := H_f.st L11
  have C0 := bt C0 L11
  have i0 := S_d.cell 0
  have i1 := S_d.cell 1
  have i2 := S_d.cell 2
  have i3 := S_d.cell 3
  have i4 := S_d.cell 4
  have i5 := S_d.cell 5
  have j0 := S_q.cell 0
  have j1 := S_q.cell 1
  have j2 := S_q.cell 2
  have j3 := S_q.cell 3
  have j4 := S_q.cell 4
  have j5 := S_q.cell 5
  go_wp2_with fail
  refine (l1 _ _ _ H_d H_q).mono ?_; rintro e w12 ⟨rfl, B12⟩
  have S_a := S_a.nx B12
  have H_a := H_a.st B12
  have S_p := S_p.nx B12
  have H_p := H_p.st B12
  have S_u := S_u.nx B12
  have H_u := H_u.st B12
  have S_m := S_m.nx B12
  have H_m := H_m.st B12
  have S_d := S_d.nx B12
  have H_d := H_d.st B12
  have S_q := S_q.nx B12
  have H_q := H_q.st B12
  have S_r := S_r.nx B12
  have H_r := H_r.st B12
  have S_f := S_f.nx B12
  have H_f := H_f.st B12
  have C0 := bt C0 B12
  clear i0 i1 i2 i3 i4 i5
  clear j0 j1 j2 j3 j4 j5
  have i0 := S_f.cell 0
  have i1 := S_f.cell 1
  have i2 := S_f.cell 2
  have i3 := S_f.cell 3
  have i4 := S_f.cell 4
  have i5 := S_f.cell 5
  have j0 := S_r.cell 0
  have j1 := S_r.cell 1
  have j2 := S_r.cell 2
  have j3 := S_r.cell 3
  have j4 := S_r.cell 4
  have j5 := S_r.cell 5
  go_wp2_with fail
  refine (l2 _ _ _ H_f H_r).mono ?_; rintro e w13 ⟨rfl, B13⟩
  have S_a := S_a.nx B13
  have H_a := H_a.st B13
  have S_p := S_p.nx B13
  have H_p := H_p.st B13
  have S_u := S_u.nx B13
  have H_u := H_u.st B13
  have S_m := S_m.nx B13
  have H_m := H_m.st B13
  have S_d := S_d.nx B13
  have H_d := H_d.st B13
  have S_q := S_q.nx B13
  have H_q := H_q.st B13
  have S_r := S_r.nx B13
  have H_r := H_r.st B13
  have S_f := S_f.nx B13
  have H_f := H_f.st B13
  have C0 := bt C0 B13
  clear i0 i1 i2 i3 i4 i5
  clear j0 j1 j2 j3 j4 j5
  go_wp2_with fail
  go_ret
  exact ⟨rfl, C0⟩
theorem bitsMoves_walk (V : Value) (ra ia : Rw) (n : Int) (w : World) (hV : VN w w.heap.size V ra ia) (hn : 0 ≤ n ∧ n ≤ 255) : Calls Try.prog 7 #[V, .int .u8 n] w fun e w' => e = .returned (.bool true) ∧ Below w.heap.size w w' := by
  cases hq : wB ra ia with
  | false => exact bitsMoves_not V ra ia n _ w hV hn rfl hq
  | true =>
    obtain ⟨k, hk⟩ : ∃ k : Nat, n % 100 = (k : Int) := ⟨(n % 100).toNat, by omega⟩
    obtain ⟨p, m, z, d, q, hz, e1, e2, e3, e4, e5, e6, e7, e8⟩ := moves_facts hq (k := k) (by omega)
    rcases ef : fitQ (qv m) 0 with ⟨mr, mi, mk⟩
    rw [ef] at e2 e3
    have e9 : mk = 0 → sameB mr mi mr mi = true := fun h => by
      subst h
      obtain ⟨f1, f2, f3, f4⟩ := fitQ_inv ef
      rw [f1, f2]
      exact sameB_self (nB_rwq f3 f4)
    have oi := fun w' => int_any 2 w' (by omega) (by omega)
    subst hz
    by_cases hm : mk = 0
    · exact bitsMoves_ok0 V ra ia n k w hV hn hk hq _ p _ d q mr mi mk hm oi e1 e2 e3 e4 e5 e6 e7 e8 e9
    · exact bitsMoves_ok1 V ra ia n k w hV hn hk hq _ p _ d q mr mi mk hm oi e1 e2 e3 e4 e5 e6 e7 e8

end Go.Proofs.Ytnlgoedklmjhlaa
