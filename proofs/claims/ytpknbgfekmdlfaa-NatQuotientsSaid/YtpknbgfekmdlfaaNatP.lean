/- The walk of the law NatMoves. -/
import Derived.Test.YtpknbgfekmdlfaaNatO
namespace Go.Proofs.Ytpknbgfekmdlfaa
open Go.RowKit

theorem moves_big {a : List Nat} {k : Nat} (hb : B32 a) (hk : k ≤ 255) (h : ¬ (digs (val a * 2 ^ k)).length ≤ 512) : 500 < a.length := by
  rw [digs_len_le] at h
  rcases Nat.lt_or_ge 500 a.length with h1 | h1
  · exact h1
  · exfalso
    have h2 : val a < Wp 500 := Nat.lt_of_lt_of_le (val_lt hb) (Wp_mono h1)
    have h3 : 2 ^ k ≤ Wp 8 := by rw [Wp_eq]; exact Nat.pow_le_pow_right (by omega) (by omega)
    have h4 : val a * 2 ^ k < Wp 500 * Wp 8 := Nat.lt_of_lt_of_le (Nat.mul_lt_mul_of_pos_right h2 (Nat.pow_pos (by omega))) (Nat.mul_le_mul_left _ h3)
    rw [← Wp_add] at h4
    exact h (Nat.lt_of_lt_of_le h4 (Wp_mono (by omega)))
theorem sound_digs {N : Nat} (h : (digs N).length ≤ 512) : soundB (digs N) = true := by
  simp only [soundB, decide_eq_true_eq, val_digs]; exact ⟨h, trivial⟩
theorem blen_mul {n k : Nat} (h : n ≠ 0) : blen (n * 2 ^ k) = blen n + k := by
  have h1 : 2 ^ k ≤ n * 2 ^ k := by
    have := Nat.mul_le_mul_right (2 ^ k) (show 1 ≤ n by omega); omega
  rw [blen_div k h1, Nat.mul_div_cancel _ (Nat.pow_pos (by omega))]
theorem shift_back {N n k : Nat} (hN : N = n * 2 ^ k) (hl : (digs N).length ≤ 512) (hk : k ≤ 255) : shiftA (digs N) (-(k : Int)) = (n, 0) := by
  unfold shiftA
  rw [if_pos (sound_digs hl), if_neg (by omega)]
  by_cases h0 : k = 0
  · subst h0
    rw [if_neg (by omega)]
    subst hN
    simp only [val_digs, fitA]
    simp at hl ⊢
    simp [hl]
  · rw [if_pos (by omega), val_digs, hN]
    simp only [Int.neg_neg, Int.toNat_natCast]
    rw [Nat.mul_div_cancel _ (Nat.pow_pos (by omega))]
theorem shift_one {k : Nat} (hk : k ≤ 255) : shiftA [1] (k : Int) = (2 ^ k, 0) := by
  have h1 : soundB [1] = true := by simp only [soundB, decide_eq_true_eq]; exact ⟨by simp, digs_one_ _ (by omega) (by omega)⟩
  have h2 : (digs (2 ^ k)).length ≤ 512 := by
    exact digs_len_le.2 (Nat.lt_of_lt_of_eq (Nat.pow_lt_pow_right (by omega) (show k < 32 * 512 by omega)) (Wp_eq 512).symm)
  unfold shiftA fitA
  rw [if_pos h1, if_neg (by omega), if_neg (by omega), val_one, Nat.one_mul, Int.toNat_natCast, if_pos h2]
theorem mul_pow {a : List Nat} {k : Nat} (hs : soundB a = true) (hk : k ≤ 255) (hl : (digs (val a * 2 ^ k)).length ≤ 512) : mulA a (digs (2 ^ k)) = (val a * 2 ^ k, 0) := by
  have h2 : (digs (2 ^ k)).length ≤ 512 := by
    exact digs_len_le.2 (Nat.lt_of_lt_of_eq (Nat.pow_lt_pow_right (by omega) (show k < 32 * 512 by omega)) (Wp_eq 512).symm)
  unfold mulA fitA chk2
  rw [hs, sound_digs h2, val_digs, if_pos hl]; rfl

set_option maxRecDepth 100000 in
set_option maxHeartbeats 4000000 in
theorem natMoves_walk (A : Option Addr) (c : Nat) (a : List Nat) (n : Int) (w : World) (ha : RW w w.heap.size A c a) (hn : 0 ≤ n ∧ n ≤ 255) :
    Calls Try.prog 6 #[.slice A a.length c, .int .u8 n] w fun e w' => e = .returned (.bool true) ∧ Below w.heap.size w w' := by
  obtain ⟨k, rfl⟩ := Int.eq_ofNat_of_zero_le hn.1
  have hk : k ≤ 255 := by omega
  have hbig := ha.big
  clear hn
  have hS := shift_any A c _ a (k : Int) w rfl ha (by omega) (by omega)
  cases hs : soundB a with
  | false =>
    have e0 : shiftA a (k : Int) = (0, 2) := by unfold shiftA; rw [hs]; rfl
    rw [e0] at hS
    have hsd := fun w' h => sound_any A c _ a w' rfl h
    rw [hs] at hsd
    clear e0 hs
    go_enter Try.func6, Try.ntmps6
    go_wp2_with fail
    refine hS.mono ?_; rintro e w1 ⟨A1, c1, rfl, O1, B1⟩
    go_wp2_with fail
    refine (awake_any w1).mono ?_; rintro e w2 ⟨rfl, B2⟩
    go_wp2_with fail
    refine (awake_any w2).mono ?_; rintro e w3 ⟨rfl, B3⟩
    go_wp2_with fail
    have B := (B1.trans (B2.mono B1.size)).trans (B3.mono (Nat.le_trans B1.size B2.size))
    refine (hsd w3 (ha.step B B.size)).mono ?_; rintro e w4 ⟨rfl, rfl⟩
    go_wp2_with fail
    go_ret
    exact ⟨rfl, B⟩
  | true =>
    have hd : a = digs (val a) := by simp only [soundB, decide_eq_true_eq] at hs; exact hs.2
    have e0 : shiftA a (k : Int) = fitA (val a * 2 ^ k) := by unfold shiftA; rw [if_pos hs, if_neg (by omega), if_neg (by omega), Int.toNat_natCast]
    rw [e0] at hS
    clear e0
    by_cases hl : (digs (val a * 2 ^ k)).length ≤ 512
    · have e1 : fitA (val a * 2 ^ k) = (val a * 2 ^ k, 0) := by unfold fitA; rw [if_pos hl]
      rw [e1] at hS
      have H2 := fun A1 c1 w' h => shift_any A1 c1 _ (digs (val a * 2 ^ k)) (-(k : Int)) w' rfl h (by omega) (by omega)
      rw [shift_back rfl hl hk] at H2
      have H3 := fun A1 c1 w' h => shift_any A1 c1 1 [1] (k : Int) w' rfl h (by omega) (by omega)
      rw [shift_one hk] at H3
      have H4 := fun A1 c1 w' h1 h2 => mul_any A A1 c c1 a.length (digs (2 ^ k)).length a (digs (2 ^ k)) w' rfl rfl h1 h2
      rw [mul_pow hs hk hl] at H4
      have H5 := fun w' h => bits_any A c _ a w' rfl h
      have H6 := fun A1 c1 w' h => bits_any A1 c1 _ (digs (val a * 2 ^ k)) w' rfl h
      have hb5 : bitsA a = blen (val a) := by unfold bitsA; rw [if_pos hs]
      have hb6 : bitsA (digs (val a * 2 ^ k)) = blen (val a * 2 ^ k) := by unfold bitsA; rw [if_pos (sound_digs hl), val_digs]
      rw [hb5] at H5
      rw [hb6] at H6
      have hbl : blen (val a) ≤ 1125899906842624 := Nat.le_trans (blen_le.2 (val_lt2 ha.b32)) (by omega)
      have hz : Hid (a.length = 0 → blen (val a * 2 ^ k) = 0) := fun h0 => by
        have : a = [] := List.eq_nil_of_length_eq_zero h0
        subst this; simp [val, blen_zero]
      have hnz : Hid (a.length ≠ 0 → (blen (val a * 2 ^ k) : Int) = (blen (val a) : Int) + k) := fun h0 => by
        have : val a ≠ 0 := by
          intro hv; rw [hv, digs_zero] at hd; rw [hd] at h0; exact h0 rfl
        rw [blen_mul this]; omega
      have HD := Lib.hid hd
      have HL := Lib.hid hl
      generalize val a * 2 ^ k = N at *
      generalize blen (val a) = ba at *
      generalize blen N = bn at *
      clear hd hl e1 hb5 hb6 hs
      by_cases h0 : a.length = 0
      · have t0 : ((a.length : Int) == 0) = true := by simp [h0]
        have hbn := Lib.hid (hz.out h0)
        rw [hbn.out] at H6
        clear h0
        go_enter Try.func6, Try.ntmps6
        go_wp2_with fail
        refine hS.mono ?_; rintro e w1 ⟨A1, c1, rfl, O1, B1⟩
        go_wp2_with fail
        refine (awake_any w1).mono ?_; rintro e w2 ⟨rfl, B2⟩
        go_wp2_with fail
        refine (H2 A1 c1 w2 (O1.rw.step B2 B2.size)).mono ?_; rintro e w3 ⟨A3, c3, rfl, O3, B3⟩
        go_wp2_with fail
        have B13 := (B1.trans (B2.mono B1.size)).trans (B3.mono (Nat.le_trans B1.size B2.size))
        have Ba : Below w3.heap.size w3 (w3.alloc (.cells #[.int .u32 (1 : Nat)] 33)) := (Below.refl _ _).alloc (Nat.le_refl _) _
        refine (H3 _ 1 _ ((RW.one w3 33 (show 1 < 4294967296 by omega)).more (by simp))).mono ?_; rintro e w4 ⟨A4, c4, rfl, O4, B4⟩
        go_wp2_with fail
        have B34 := Ba.trans (B4.mono Ba.size)
        have B14 := B13.trans (B34.mono B13.size)
        refine (H4 A4 c4 w4 (ha.step B14 B14.size) O4.rw).mono ?_; rintro e w5 ⟨A5, c5, rfl, O5, B5⟩
        go_wp2_with fail
        have B15 := B14.trans (B5.mono B14.size)
        refine (H5 w5 (ha.step B15 B15.size)).mono ?_; rintro e w6 ⟨rfl, rfl⟩
        go_wp2_with fail
        have R3 : RW w5 w5.heap.size A3 c3 a := by
          have h := O3.rw.step (B34.trans (B5.mono B34.size)) (Nat.le_trans B34.size B5.size)
          rwa [← HD.out] at h
        have hl3 : (digs (val a)).length = a.length := by rw [← HD.out]
        refine (same_eq A3 A c3 c _ _ a _ hl3 rfl R3 (ha.step B15 B15.size)).mono ?_; rintro e w6 ⟨rfl, q, rfl⟩
        go_wp2_with fail
        have B25 := (B2.trans (B3.mono B2.size)).trans ((B34.trans (B5.mono B34.size)).mono (Nat.le_trans B2.size B3.size))
        refine (same_eq A5 A1 c5 c1 _ _ (digs N) _ rfl rfl (O5.rw.drewN q) ((O1.rw.step B25 B25.size).drewN q)).mono ?_; rintro e w6 ⟨rfl, q2, rfl⟩
        go_wp2_with fail
        refine (H6 A1 c1 _ ((O1.rw.step B25 B25.size).drewN (q + q2))).mono ?_; rintro e w6 ⟨rfl, rfl⟩
        go_wp2_with fail
        go_ret
        exact ⟨rfl, bdN B15 (q + q2)⟩
      · have t0 : ((a.length : Int) == 0) = false := beq_eq_false_iff_ne.2 (by omega)
        have hbn := Lib.hid (hnz.out h0)
        go_enter Try.func6, Try.ntmps6
        go_wp2_with fail
        refine hS.mono ?_; rintro e w1 ⟨A1, c1, rfl, O1, B1⟩
        go_wp2_with fail
        refine (awake_any w1).mono ?_; rintro e w2 ⟨rfl, B2⟩
        go_wp2_with fail
        refine (H2 A1 c1 w2 (O1.rw.step B2 B2.size)).mono ?_; rintro e w3 ⟨A3, c3, rfl, O3, B3⟩
        go_wp2_with fail
        have B13 := (B1.trans (B2.mono B1.size)).trans (B3.mono (Nat.le_trans B1.size B2.size))
        have Ba : Below w3.heap.size w3 (w3.alloc (.cells #[.int .u32 (1 : Nat)] 33)) := (Below.refl _ _).alloc (Nat.le_refl _) _
        refine (H3 _ 1 _ ((RW.one w3 33 (show 1 < 4294967296 by omega)).more (by simp))).mono ?_; rintro e w4 ⟨A4, c4, rfl, O4, B4⟩
        go_wp2_with fail
        have B34 := Ba.trans (B4.mono Ba.size)
        have B14 := B13.trans (B34.mono B13.size)
        refine (H4 A4 c4 w4 (ha.step B14 B14.size) O4.rw).mono ?_; rintro e w5 ⟨A5, c5, rfl, O5, B5⟩
        go_wp2_with fail
        have B15 := B14.trans (B5.mono B14.size)
        refine (H5 w5 (ha.step B15 B15.size)).mono ?_; rintro e w6 ⟨rfl, rfl⟩
        go_wp2_with fail
        have R3 : RW w5 w5.heap.size A3 c3 a := by
          have h := O3.rw.step (B34.trans (B5.mono B34.size)) (Nat.le_trans B34.size B5.size)
          rwa [← HD.out] at h
        have hl3 : (digs (val a)).length = a.length := by rw [← HD.out]
        refine (same_eq A3 A c3 c _ _ a _ hl3 rfl R3 (ha.step B15 B15.size)).mono ?_; rintro e w6 ⟨rfl, q, rfl⟩
        go_wp2_with fail
        have B25 := (B2.trans (B3.mono B2.size)).trans ((B34.trans (B5.mono B34.size)).mono (Nat.le_trans B2.size B3.size))
        refine (same_eq A5 A1 c5 c1 _ _ (digs N) _ rfl rfl (O5.rw.drewN q) ((O1.rw.step B25 B25.size).drewN q)).mono ?_; rintro e w6 ⟨rfl, q2, rfl⟩
        go_wp2_with fail
        refine (H6 A1 c1 _ ((O1.rw.step B25 B25.size).drewN (q + q2))).mono ?_; rintro e w6 ⟨rfl, rfl⟩
        go_wp2_with fail
        go_ret
        exact ⟨ret_bool (by rw [hbn.out]; simp), bdN B15 (q + q2)⟩
    · have e1 : fitA (val a * 2 ^ k) = (0, 4) := by unfold fitA; rw [if_neg hl]
      rw [e1] at hS
      have h500 := moves_big ha.b32 hk hl
      have h5 : decide ((500 : Int) < (a.length : Int)) = true := by simp; omega
      clear e1 hl hd hs
      go_enter Try.func6, Try.ntmps6
      go_wp2_with fail
      refine hS.mono ?_; rintro e w1 ⟨A1, c1, rfl, O1, B1⟩
      go_wp2_with fail
      refine (awake_any w1).mono ?_; rintro e w2 ⟨rfl, B2⟩
      go_wp2_with fail
      refine (awake_any w2).mono ?_; rintro e w3 ⟨rfl, B3⟩
      go_wp2_with fail
      go_ret
      have B := (B1.trans (B2.mono B1.size)).trans (B3.mono (Nat.le_trans B1.size B2.size))
      exact ⟨rfl, B⟩
end Go.Proofs.Ytpknbgfekmdlfaa
