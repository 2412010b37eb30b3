/- Walks: fractions: rat, minus, sum, product. -/
import Derived.Test.YtabcnpcfknlmlaaRat
namespace Go.Proofs.Ytabcnpcfknlmlaa
open Go.RowKit
theorem cmpN_ge {X Y : Nat} (h : Y ≤ X) : 0 ≤ cmpN X Y := by
  unfold cmpN
  rw [if_neg (by omega)]
  split <;> omega
theorem digs_pos_iff {n : Nat} : (decide (0 < n)) = decide (0 < (digs n).length) := by
  rw [decide_eq_decide, Nat.pos_iff_ne_zero, Nat.pos_iff_ne_zero, ne_eq, ne_eq, digs_len0]

set_option maxHeartbeats 1000000 in
theorem rat_any (neg : Bool) (A D : Option Addr) (c d n m : Nat) (a b : List Nat) (w : World) (hn : n = a.length) (hm : m = b.length) (ha : RW w w.heap.size A c a) (hb : RW w w.heap.size D d b) (na : Nrm a) (nb : Nrm b) (h0 : val b ≠ 0)
    (hla : a.length ≤ 15000) (hlb : b.length ≤ 15000) :
    Calls Try.prog 74 #[.bool neg, .slice A n c, .slice D m d] w (RetR w (ratN neg (val a) (val b))) := by
  subst hn hm
  have B1 := bal w (.cells #[.bool false, .slice none 0 0, .slice none 0 0] 25)
  have s1 := SB.new w [.bool false, .slice none 0 0, .slice none 0 0] 25
  obtain ⟨g, hg⟩ : ∃ g, g = Nat.gcd (val a) (val b) := ⟨_, rfl⟩
  have hd := divisor_any A D c d _ _ a b _ rfl rfl (st ha B1) (st hb B1) na nb (by omega) (by omega)
  rw [← hg] at hd
  have hg0 : val (digs g) ≠ 0 := by rw [val_digs, hg]; exact Nat.gcd_ne_zero_right h0
  have hlg : (digs g).length ≤ 1000000 := by
    have := digs_mono (Nat.le_of_dvd (Nat.pos_of_ne_zero h0) (Nat.gcd_dvd_right (val a) (val b)))
    rw [digs_val hb.b32 nb, ← hg] at this
    omega
  have hq := ratN_facts neg (val a) (val b) h0
  rw [← hg] at hq
  clear hg
  obtain ⟨t, ht⟩ : ∃ t, t = val a / g := ⟨_, rfl⟩
  obtain ⟨u, hu⟩ : ∃ u, u = val b / g := ⟨_, rfl⟩
  rw [← ht, ← hu] at hq
  have HT := Lib.hid ht
  have HU := Lib.hid hu
  clear ht hu
  cases neg with
  | true =>
    have HQ := Lib.hid hq
    clear hq
    go_enter Try.func74, Try.ntmps74
    go_wp2_with fail
    refine hd.mono ?_; rintro e w3 ⟨A2, c2, rfl, O2, B2⟩
    have ov1 := over_any A A2 c c2 _ _ a (digs g) w3 rfl rfl (st (st ha B1) B2) O2.rw na (Nrm_digs _) hg0 (by omega)
    rw [val_digs, ← HT.out] at ov1
    go_wp2_with fail
    refine ov1.mono ?_; rintro e w4 ⟨A3, c3, A9, c9, rfl, O3, O9, B3⟩
    have ov2 := over_any D A2 d c2 _ _ b (digs g) w4 rfl rfl (st (st (st hb B1) B2) B3) (st O2.rw B3) nb (Nrm_digs _) hg0 (by omega)
    rw [val_digs, ← HU.out] at ov2
    go_wp2_with fail
    refine ov2.mono ?_; rintro e w5 ⟨A4, c4, A8, c8, rfl, O4, O8, B4⟩
    have s5 := ((s1.nx B2).nx B3).nx B4
    have m0 := s5.cell 0
    have m1 := s5.cell 1
    have m2 := s5.cell 2
    have f0 := s5.frozen 0
    have f1 := s5.frozen 1
    have f2 := s5.frozen 2
    have hz : w.heap.size + 1 ≤ (w.alloc (.cells #[.bool false, .slice none 0 0, .slice none 0 0] 25)).heap.size := by simp
    have hz4 := B3.size
    have hz3 := B2.size
    have s6 := s5.put3 (.bool (decide (0 < (digs t).length))) (.slice A3 (digs t).length c3) (.slice A4 (digs u).length c4)
    have B5 : Below w.heap.size w (wr3 w5 w.heap.size (.bool (decide (0 < (digs t).length))) (.slice A3 (digs t).length c3) (.slice A4 (digs u).length c4)) := put3_below (bt (bt (bt B1 B2) B3) B4) (Nat.le_refl _) _ _ _
    have O3' := (O3.below B4 (Nat.le_refl _)).put3 (b := w.heap.size) (by omega) (.bool (decide (0 < (digs t).length))) (.slice A3 (digs t).length c3) (.slice A4 (digs u).length c4)
    have O4' := O4.put3 (b := w.heap.size) (by omega) (.bool (decide (0 < (digs t).length))) (.slice A3 (digs t).length c3) (.slice A4 (digs u).length c4)
    have r0 := s6.cell 0
    have r1 := s6.cell 1
    have r2 := s6.cell 2
    unfold wr3 at s6 B5 O3' O4' r0 r1 r2
    clear ov1 ov2
    go_wp2_with fail
    refine bodyPost_ret (v := .agg #[.bool (decide (0 < (digs t).length)), .slice A3 (digs t).length c3, .slice A4 (digs u).length c4]) (by simp [results, r0, r1, r2, go_sem]) rfl ?_
    refine ⟨A3, c3, A4, c4, ?_, ?_, ?_, B5⟩
    · rw [HQ.out.1, HQ.out.2.1, HQ.out.2.2, digs_pos_iff (n := t)]; rfl
    · rw [HQ.out.2.1]; exact O3'.base_le (by omega)
    · rw [HQ.out.2.2]; exact O4'.base_le (by omega)

  | false =>
    have HQ := Lib.hid hq
    clear hq
    go_enter Try.func74, Try.ntmps74
    go_wp2_with fail
    refine hd.mono ?_; rintro e w3 ⟨A2, c2, rfl, O2, B2⟩
    have ov1 := over_any A A2 c c2 _ _ a (digs g) w3 rfl rfl (st (st ha B1) B2) O2.rw na (Nrm_digs _) hg0 (by omega)
    rw [val_digs, ← HT.out] at ov1
    go_wp2_with fail
    refine ov1.mono ?_; rintro e w4 ⟨A3, c3, A9, c9, rfl, O3, O9, B3⟩
    have ov2 := over_any D A2 d c2 _ _ b (digs g) w4 rfl rfl (st (st (st hb B1) B2) B3) (st O2.rw B3) nb (Nrm_digs _) hg0 (by omega)
    rw [val_digs, ← HU.out] at ov2
    go_wp2_with fail
    refine ov2.mono ?_; rintro e w5 ⟨A4, c4, A8, c8, rfl, O4, O8, B4⟩
    have s5 := ((s1.nx B2).nx B3).nx B4
    have m0 := s5.cell 0
    have m1 := s5.cell 1
    have m2 := s5.cell 2
    have f0 := s5.frozen 0
    have f1 := s5.frozen 1
    have f2 := s5.frozen 2
    have hz : w.heap.size + 1 ≤ (w.alloc (.cells #[.bool false, .slice none 0 0, .slice none 0 0] 25)).heap.size := by simp
    have hz4 := B3.size
    have hz3 := B2.size
    have s6 := s5.put3 (.bool false) (.slice A3 (digs t).length c3) (.slice A4 (digs u).length c4)
    have B5 : Below w.heap.size w (wr3 w5 w.heap.size (.bool false) (.slice A3 (digs t).length c3) (.slice A4 (digs u).length c4)) := put3_below (bt (bt (bt B1 B2) B3) B4) (Nat.le_refl _) _ _ _
    have O3' := (O3.below B4 (Nat.le_refl _)).put3 (b := w.heap.size) (by omega) (.bool false) (.slice A3 (digs t).length c3) (.slice A4 (digs u).length c4)
    have O4' := O4.put3 (b := w.heap.size) (by omega) (.bool false) (.slice A3 (digs t).length c3) (.slice A4 (digs u).length c4)
    have r0 := s6.cell 0
    have r1 := s6.cell 1
    have r2 := s6.cell 2
    unfold wr3 at s6 B5 O3' O4' r0 r1 r2
    clear ov1 ov2
    go_wp2_with fail
    refine bodyPost_ret (v := .agg #[.bool false, .slice A3 (digs t).length c3, .slice A4 (digs u).length c4]) (by simp [results, r0, r1, r2, go_sem]) rfl ?_
    refine ⟨A3, c3, A4, c4, ?_, ?_, ?_, B5⟩
    · rw [HQ.out.1, HQ.out.2.1, HQ.out.2.2]; rfl
    · rw [HQ.out.2.1]; exact O3'.base_le (by omega)
    · rw [HQ.out.2.2]; exact O4'.base_le (by omega)


set_option maxHeartbeats 2000000 in
theorem product_any (v u : Value) (p q : Rat) (w : World) (hv : RQ w w.heap.size v p) (hu : RQ w w.heap.size u q) (hl : qw p + qw q ≤ 14000) :
    Calls Try.prog 73 #[v, u] w (RetR w (p * q)) := by
  obtain ⟨A, c, D, d, rfl, ra, rb⟩ := hv
  obtain ⟨E, e0, H, h0, rfl, rc, rd⟩ := hu
  have lp1 := qw_t p
  have lp2 := qw_d p
  have lq1 := qw_t q
  have lq2 := qw_d q
  have k0 := S3.new w [.bool (qn p), .slice A (digs (qt p)).length c, .slice D (digs (qd p)).length d] [.bool (qn q), .slice E (digs (qt q)).length e0, .slice H (digs (qd q)).length h0] [.bool false, .slice none 0 0, .slice none 0 0] 25 25 25 3
  have hT1 := fun w' x y => times_any A E c e0 _ _ (digs (qt p)) (digs (qt q)) w' rfl rfl x y (by omega) (by omega)
  have hT2 := fun w' x y => times_any D H d h0 _ _ (digs (qd p)) (digs (qd q)) w' rfl rfl x y (by omega) (by omega)
  simp only [val_digs] at hT1 hT2
  have hdd : qd p * qd q ≠ 0 := Nat.mul_ne_zero (qd_pos p) (qd_pos q)
  have hl1 : (digs (qt p * qt q)).length ≤ 15000 := by have := digs_mul (qt p) (qt q); omega
  have hl2 : (digs (qd p * qd q)).length ≤ 15000 := by have := digs_mul (qd p) (qd q); omega
  have hR := fun A4 c4 A5 c5 w' x y => rat_any (qn p != qn q) A4 A5 c4 c5 _ _ (digs (qt p * qt q)) (digs (qd p * qd q)) w' rfl rfl x y (Nrm_digs _) (Nrm_digs _) (by rw [val_digs]; exact hdd) hl1 hl2
  simp only [val_digs, q_mul] at hR
  clear hl1 hl2 hdd lp1 lp2 lq1 lq2 hl
  go_enter Try.func73, Try.ntmps73
  go_wp2_with fail
  have k0d := k0.dr
  have k0s := And.intro (k0d.1.cell 0) (And.intro (k0d.1.cell 1) (And.intro (k0d.1.cell 2) (And.intro (k0d.2.1.cell 0) (And.intro (k0d.2.1.cell 1) (And.intro (k0d.2.1.cell 2) (And.intro (k0d.2.2.1.cell 0) (And.intro (k0d.2.2.1.frozen 0) (And.intro (k0d.2.2.1.cell 1) (And.intro (k0d.2.2.1.frozen 1) (And.intro (k0d.2.2.1.cell 2) (And.intro (k0d.2.2.1.frozen 2) (k0d))))))))))))
  go_region_held3 (fun w' => w'.cell? ⟨w.heap.size, 0, none⟩ = some (.bool (qn p)) ∧ w'.cell? ⟨w.heap.size, 1, none⟩ = some (.slice A (digs (qt p)).length c) ∧ w'.cell? ⟨w.heap.size, 2, none⟩ = some (.slice D (digs (qd p)).length d) ∧ w'.cell? ⟨w.heap.size + 1, 0, none⟩ = some (.bool (qn q)) ∧ w'.cell? ⟨w.heap.size + 1, 1, none⟩ = some (.slice E (digs (qt q)).length e0) ∧ w'.cell? ⟨w.heap.size + 1, 2, none⟩ = some (.slice H (digs (qd q)).length h0) ∧ w'.cell? ⟨w.heap.size + 2, 0, none⟩ = some (cv w' (w.heap.size + 2) 0) ∧ w'.frozen? ⟨w.heap.size + 2, 0, none⟩ = false ∧ w'.cell? ⟨w.heap.size + 2, 1, none⟩ = some (cv w' (w.heap.size + 2) 1) ∧ w'.frozen? ⟨w.heap.size + 2, 1, none⟩ = false ∧ w'.cell? ⟨w.heap.size + 2, 2, none⟩ = some (cv w' (w.heap.size + 2) 2) ∧ w'.frozen? ⟨w.heap.size + 2, 2, none⟩ = false ∧ S3 w w.heap.size [.bool (qn p), .slice A (digs (qt p)).length c, .slice D (digs (qd p)).length d] [.bool (qn q), .slice E (digs (qt q)).length e0, .slice H (digs (qd q)).length h0] 3 w')
    (first
      | with_reducible exact k0s
      | (have s1 := (by assumption : _ ∧ _ ∧ _ ∧ _ ∧ _ ∧ _ ∧ _ ∧ _ ∧ _ ∧ _ ∧ _ ∧ _ ∧ S3 w w.heap.size [.bool (qn p), .slice A (digs (qt p)).length c, .slice D (digs (qd p)).length d] [.bool (qn q), .slice E (digs (qt q)).length e0, .slice H (digs (qd q)).length h0] 3 _).2.2.2.2.2.2.2.2.2.2.2.2.nx BX; have q0_ := s1.1.cell 0; have q1_ := s1.1.cell 1; have q2_ := s1.1.cell 2; have q3_ := s1.2.1.cell 0; have q4_ := s1.2.1.cell 1; have q5_ := s1.2.1.cell 2; have q6_ := s1.2.2.1.cell 0; have q7_ := s1.2.2.1.frozen 0; have q8_ := s1.2.2.1.cell 1; have q9_ := s1.2.2.1.frozen 1; have q10_ := s1.2.2.1.cell 2; have q11_ := s1.2.2.1.frozen 2; with_reducible exact ⟨q0_, q1_, q2_, q3_, q4_, q5_, q6_, q7_, q8_, q9_, q10_, q11_, s1⟩)
      | (have s1 := (by assumption : _ ∧ _ ∧ _ ∧ _ ∧ _ ∧ _ ∧ _ ∧ _ ∧ _ ∧ _ ∧ _ ∧ _ ∧ S3 w w.heap.size [.bool (qn p), .slice A (digs (qt p)).length c, .slice D (digs (qd p)).length d] [.bool (qn q), .slice E (digs (qt q)).length e0, .slice H (digs (qd q)).length h0] 3 _).2.2.2.2.2.2.2.2.2.2.2.2.put (.bool (qn (p * q))) (.slice A6 (digs (qt (p * q))).length c6) (.slice A7 (digs (qd (p * q))).length c7); have q0_ := s1.1.cell 0; have q1_ := s1.1.cell 1; have q2_ := s1.1.cell 2; have q3_ := s1.2.1.cell 0; have q4_ := s1.2.1.cell 1; have q5_ := s1.2.1.cell 2; have q6_ := s1.2.2.1.cell 0; have q7_ := s1.2.2.1.frozen 0; have q8_ := s1.2.2.1.cell 1; have q9_ := s1.2.2.1.frozen 1; have q10_ := s1.2.2.1.cell 2; have q11_ := s1.2.2.1.frozen 2; with_reducible exact ⟨q0_, q1_, q2_, q3_, q4_, q5_, q6_, q7_, q8_, q9_, q10_, q11_, s1⟩))
    (first
      | (go_at_call_of 47 (Value.slice A (digs (qt p)).length c); have hh := (by assumption : _ ∧ _ ∧ _ ∧ _ ∧ _ ∧ _ ∧ _ ∧ _ ∧ _ ∧ _ ∧ _ ∧ _ ∧ S3 w w.heap.size [.bool (qn p), .slice A (digs (qt p)).length c, .slice D (digs (qd p)).length d] [.bool (qn q), .slice E (digs (qt q)).length e0, .slice H (digs (qd q)).length h0] 3 _).2.2.2.2.2.2.2.2.2.2.2.2; refine (hT1 _ (st ra hh.2.2.2) (st rc hh.2.2.2)).mono ?_; rintro e w4 ⟨A4, c4, rfl, O4, BX⟩)
      | (go_at_call_of 47 (Value.slice D (digs (qd p)).length d); have hh := (by assumption : _ ∧ _ ∧ _ ∧ _ ∧ _ ∧ _ ∧ _ ∧ _ ∧ _ ∧ _ ∧ _ ∧ _ ∧ S3 w w.heap.size [.bool (qn p), .slice A (digs (qt p)).length c, .slice D (digs (qd p)).length d] [.bool (qn q), .slice E (digs (qt q)).length e0, .slice H (digs (qd q)).length h0] 3 _).2.2.2.2.2.2.2.2.2.2.2.2; refine (hT2 _ (st rb hh.2.2.2) (st rd hh.2.2.2)).mono ?_; rintro e w5 ⟨A5, c5, rfl, O5, BX⟩)
      | (go_at_call 74; have hh := (by assumption : _ ∧ _ ∧ _ ∧ _ ∧ _ ∧ _ ∧ _ ∧ _ ∧ _ ∧ _ ∧ _ ∧ _ ∧ S3 w w.heap.size [.bool (qn p), .slice A (digs (qt p)).length c, .slice D (digs (qd p)).length d] [.bool (qn q), .slice E (digs (qt q)).length e0, .slice H (digs (qd q)).length h0] 3 _).2.2.2.2.2.2.2.2.2.2.2.2; refine (hR A4 c4 A5 c5 _ (st O4.rw BX) O5.rw).mono ?_; rintro e w6 ⟨A6, c6, A7, c7, rfl, O6, O7, BX⟩; have kk := hh.nx BX; have B7 := BX))
  have s6 := kk.2.2.1.put3 (.bool (qn (p * q))) (.slice A6 (digs (qt (p * q))).length c6) (.slice A7 (digs (qd (p * q))).length c7)
  have hb6 := hh.2.2.1.2
  have B6 := put3_below (b := w.heap.size + 2) kk.2.2.2 (by omega) (.bool (qn (p * q))) (.slice A6 (digs (qt (p * q))).length c6) (.slice A7 (digs (qd (p * q))).length c7)
  have Oa := O6.put3 (b := w.heap.size + 2) hb6 (.bool (qn (p * q))) (.slice A6 (digs (qt (p * q))).length c6) (.slice A7 (digs (qd (p * q))).length c7)
  have Ob := O7.put3 (b := w.heap.size + 2) hb6 (.bool (qn (p * q))) (.slice A6 (digs (qt (p * q))).length c6) (.slice A7 (digs (qd (p * q))).length c7)
  have r0 := s6.cell 0
  have r1 := s6.cell 1
  have r2 := s6.cell 2
  unfold wr3 at s6 B6 Oa Ob r0 r1 r2
  go_wp2_with fail
  refine bodyPost_ret (v := .agg #[.bool (qn (p * q)), .slice A6 (digs (qt (p * q))).length c6, .slice A7 (digs (qd (p * q))).length c7]) (by simp [results, r0, r1, r2, go_sem]) rfl ?_
  exact ⟨A6, c6, A7, c7, rfl, Oa.base_le (by omega), Ob.base_le (by omega), B6⟩

set_option maxHeartbeats 1000000 in
theorem minus_raw (s : Bool) (A D : Option Addr) (c d n m : Nat) (w : World) :
    Calls Try.prog 54 #[.agg #[.bool s, .slice A n c, .slice D m d]] w fun e w' => e = .returned (.agg #[.bool (!s && decide (0 < n)), .slice A n c, .slice D m d]) ∧ Below w.heap.size w w' := by
  have B1 := bal w (.cells #[.bool s, .slice A n c, .slice D m d] 25)
  have B2 := bal (w.alloc (.cells #[.bool s, .slice A n c, .slice D m d] 25)) (.cells #[.bool false, .slice none 0 0, .slice none 0 0] 25)
  have z1 : (w.alloc (.cells #[.bool s, .slice A n c, .slice D m d] 25)).heap.size = w.heap.size + 1 := by simp
  have s1 := (SB.new w [.bool s, .slice A n c, .slice D m d] 25).nx B2
  have s2 := SB.new (w.alloc (.cells #[.bool s, .slice A n c, .slice D m d] 25)) [.bool false, .slice none 0 0, .slice none 0 0] 25
  rw [z1] at s2
  have m0 := s1.cell 0
  have m1 := s1.cell 1
  have m2 := s1.cell 2
  have n0 := s2.cell 0
  have n1 := s2.cell 1
  have n2 := s2.cell 2
  have g0 := s2.frozen 0
  have g1 := s2.frozen 1
  have g2 := s2.frozen 2
  have s3 := s2.put3 (.bool (!s && decide (0 < n))) (.slice A n c) (.slice D m d)
  have B3 := put3_below (b := w.heap.size + 1) (bt B1 B2) (by omega) (.bool (!s && decide (0 < n))) (.slice A n c) (.slice D m d)
  have r0 := s3.cell 0
  have r1 := s3.cell 1
  have r2 := s3.cell 2
  unfold wr3 at s3 B3 r0 r1 r2
  cases s with
  | true =>
    simp only [Bool.not_true, Bool.false_and] at *
    go_enter Try.func54, Try.ntmps54
    go_wp2_with fail
    refine bodyPost_ret (v := .agg #[.bool false, .slice A n c, .slice D m d]) (by simp [results, r0, r1, r2, go_sem]) rfl ?_
    exact ⟨rfl, bt B1 (bal _ _)⟩
  | false =>
    simp only [Bool.not_false, Bool.true_and] at *
    go_enter Try.func54, Try.ntmps54
    go_wp2_with fail
    refine bodyPost_ret (v := .agg #[.bool (decide (0 < n)), .slice A n c, .slice D m d]) (by simp [results, r0, r1, r2, go_sem]) rfl ?_
    exact ⟨rfl, bt B1 (bal _ _)⟩
theorem minus_any (q : Rat) (A D : Option Addr) (c d : Nat) (w : World) :
    Calls Try.prog 54 #[.agg #[.bool (qn q), .slice A (digs (qt q)).length c, .slice D (digs (qd q)).length d]] w fun e w' => e = .returned (.agg #[.bool (qn (-q)), .slice A (digs (qt (-q))).length c, .slice D (digs (qd (-q))).length d]) ∧ Below w.heap.size w w' := by
  rw [q_neg_n, q_neg_t, q_neg_d, digs_pos_iff (n := qt q)]
  exact minus_raw (qn q) A D c d _ _ w

set_option maxHeartbeats 4000000 in
theorem sum_any (v u : Value) (p q : Rat) (w : World) (hv : RQ w w.heap.size v p) (hu : RQ w w.heap.size u q) (hl : qw p + qw q ≤ 14000) :
    Calls Try.prog 53 #[v, u] w (RetR w (p + q)) := by
  obtain ⟨A, c, D, d, rfl, ra, rb⟩ := hv
  obtain ⟨E, e0, H, h0, rfl, rc, rd⟩ := hu
  have lp1 := qw_t p
  have lp2 := qw_d p
  have lq1 := qw_t q
  have lq2 := qw_d q
  have k0 := S3.new w [.bool (qn p), .slice A (digs (qt p)).length c, .slice D (digs (qd p)).length d] [.bool (qn q), .slice E (digs (qt q)).length e0, .slice H (digs (qd q)).length h0] [.bool false, .slice none 0 0, .slice none 0 0] 25 25 25 3
  have hT1 := fun w' x y => times_any A H c h0 _ _ (digs (qt p)) (digs (qd q)) w' rfl rfl x y (by omega) (by omega)
  have hT2 := fun w' x y => times_any E D e0 d _ _ (digs (qt q)) (digs (qd p)) w' rfl rfl x y (by omega) (by omega)
  have hT3 := fun w' x y => times_any D H d h0 _ _ (digs (qd p)) (digs (qd q)) w' rfl rfl x y (by omega) (by omega)
  simp only [val_digs] at hT1 hT2 hT3
  have hl1 := q_xy p q
  have hl2 := q_xy q p
  have hl3 := q_bb p q
  have hB0 : qd p * qd q ≠ 0 := Nat.mul_ne_zero (qd_pos p) (qd_pos q)
  have hE1 : qn p = qn q → ratN (qn p) (qt p * qd q + qt q * qd p) (qd p * qd q) = p + q := q_sum_same
  have hE2 : qn p ≠ qn q → qt q * qd p ≤ qt p * qd q → ratN (qn p) (qt p * qd q - qt q * qd p) (qd p * qd q) = p + q := q_sum_left
  have hE3 : qn p ≠ qn q → qt p * qd q ≤ qt q * qd p → ratN (qn q) (qt q * qd p - qt p * qd q) (qd p * qd q) = p + q := q_sum_right
  generalize qt p * qd q = X at *
  generalize qt q * qd p = Y at *
  generalize qd p * qd q = B at *
  have hl4 : (digs (X + Y)).length ≤ 15000 := Nat.le_trans (digs_add hl1 (by omega)) (by omega)
  have hl5 : (digs (X - Y)).length ≤ 15000 := Nat.le_trans (digs_mono (Nat.sub_le X Y)) (by omega)
  have hl6 : (digs (Y - X)).length ≤ 15000 := Nat.le_trans (digs_mono (Nat.sub_le Y X)) (by omega)
  by_cases hs : qn p = qn q
  · have hsb : (qn p == qn q) = true := by rw [hs]; simp
    have hR := fun A4 c4 A5 c5 w' x y => rat_any (qn p) A4 c4 A5 c5 _ _ (digs (X + Y)) (digs B) w' rfl rfl x y (Nrm_digs _) (Nrm_digs _) (by rw [val_digs]; exact hB0) hl4 (by omega)
    simp only [val_digs, hE1 hs] at hR
    clear hE1 hE2 hE3 hs
    go_enter Try.func53, Try.ntmps53
    go_wp2_with fail
    have k0d := k0.dr
    have k0s := And.intro (k0d.1.cell 1) (And.intro (k0d.1.cell 2) (And.intro (k0d.2.1.cell 1) (And.intro (k0d.2.1.cell 2) (k0d))))
    go_region_held3 (fun w' => w'.cell? ⟨w.heap.size, 1, none⟩ = some (.slice A (digs (qt p)).length c) ∧ w'.cell? ⟨w.heap.size, 2, none⟩ = some (.slice D (digs (qd p)).length d) ∧ w'.cell? ⟨w.heap.size + 1, 1, none⟩ = some (.slice E (digs (qt q)).length e0) ∧ w'.cell? ⟨w.heap.size + 1, 2, none⟩ = some (.slice H (digs (qd q)).length h0) ∧ S3 w w.heap.size [.bool (qn p), .slice A (digs (qt p)).length c, .slice D (digs (qd p)).length d] [.bool (qn q), .slice E (digs (qt q)).length e0, .slice H (digs (qd q)).length h0] 3 w')
      (first
        | with_reducible exact k0s
        | (have s1 := (by assumption : _ ∧ _ ∧ _ ∧ _ ∧ S3 w w.heap.size [.bool (qn p), .slice A (digs (qt p)).length c, .slice D (digs (qd p)).length d] [.bool (qn q), .slice E (digs (qt q)).length e0, .slice H (digs (qd q)).length h0] 3 _).2.2.2.2.nx BX; have q0_ := s1.1.cell 1; have q1_ := s1.1.cell 2; have q2_ := s1.2.1.cell 1; have q3_ := s1.2.1.cell 2; with_reducible exact ⟨q0_, q1_, q2_, q3_, s1⟩))
      (first
        | (go_at_call_of 47 (Value.slice A (digs (qt p)).length c); have hh := (by assumption : _ ∧ _ ∧ _ ∧ _ ∧ S3 w w.heap.size [.bool (qn p), .slice A (digs (qt p)).length c, .slice D (digs (qd p)).length d] [.bool (qn q), .slice E (digs (qt q)).length e0, .slice H (digs (qd q)).length h0] 3 _).2.2.2.2; refine (hT1 _ (st ra hh.2.2.2) (st rd hh.2.2.2)).mono ?_; rintro e w4 ⟨A4, c4, rfl, O4, BX⟩)
        | (go_at_call_of 47 (Value.slice E (digs (qt q)).length e0); have hh := (by assumption : _ ∧ _ ∧ _ ∧ _ ∧ S3 w w.heap.size [.bool (qn p), .slice A (digs (qt p)).length c, .slice D (digs (qd p)).length d] [.bool (qn q), .slice E (digs (qt q)).length e0, .slice H (digs (qd q)).length h0] 3 _).2.2.2.2; refine (hT2 _ (st rc hh.2.2.2) (st rb hh.2.2.2)).mono ?_; rintro e w5 ⟨A5, c5, rfl, O5, BX⟩; have k1 := hh.nx BX; have B5 := BX))
    have m0 := k1.1.cell 2
    have m1 := k1.2.1.cell 2
    go_wp2_with fail
    refine (hT3 _ (st rb k1.2.2.2) (st rd k1.2.2.2)).mono ?_; rintro e w6 ⟨A6, c6, rfl, O6, B6⟩
    have k2 := k1.nx B6
    have m2 := k2.1.cell 0
    have m3 := k2.2.1.cell 0
    have rx := st (st O4.rw B5) B6
    have ry := st O5.rw B6
    have hP := plus_any A4 A5 c4 c5 _ _ (digs X) (digs Y) w6.drew rfl rfl rx ry (by omega) (by omega)
    rw [val_digs, val_digs] at hP
    go_wp2_with fail
    have k2d := k2.dr
    have k2s := And.intro (k2d.1.cell 0) (And.intro (k2d.2.2.1.cell 0) (And.intro (k2d.2.2.1.frozen 0) (And.intro (k2d.2.2.1.cell 1) (And.intro (k2d.2.2.1.frozen 1) (And.intro (k2d.2.2.1.cell 2) (And.intro (k2d.2.2.1.frozen 2) (k2d)))))))
    go_region_held3 (fun w' => w'.cell? ⟨w.heap.size, 0, none⟩ = some (.bool (qn p)) ∧ w'.cell? ⟨w.heap.size + 2, 0, none⟩ = some (cv w' (w.heap.size + 2) 0) ∧ w'.frozen? ⟨w.heap.size + 2, 0, none⟩ = false ∧ w'.cell? ⟨w.heap.size + 2, 1, none⟩ = some (cv w' (w.heap.size + 2) 1) ∧ w'.frozen? ⟨w.heap.size + 2, 1, none⟩ = false ∧ w'.cell? ⟨w.heap.size + 2, 2, none⟩ = some (cv w' (w.heap.size + 2) 2) ∧ w'.frozen? ⟨w.heap.size + 2, 2, none⟩ = false ∧ S3 w w.heap.size [.bool (qn p), .slice A (digs (qt p)).length c, .slice D (digs (qd p)).length d] [.bool (qn q), .slice E (digs (qt q)).length e0, .slice H (digs (qd q)).length h0] 3 w')
      (first
        | with_reducible exact k2s
        | (have s1 := (by assumption : _ ∧ _ ∧ _ ∧ _ ∧ _ ∧ _ ∧ _ ∧ S3 w w.heap.size [.bool (qn p), .slice A (digs (qt p)).length c, .slice D (digs (qd p)).length d] [.bool (qn q), .slice E (digs (qt q)).length e0, .slice H (digs (qd q)).length h0] 3 _).2.2.2.2.2.2.2.nx BX; have q0_ := s1.1.cell 0; have q1_ := s1.2.2.1.cell 0; have q2_ := s1.2.2.1.frozen 0; have q3_ := s1.2.2.1.cell 1; have q4_ := s1.2.2.1.frozen 1; have q5_ := s1.2.2.1.cell 2; have q6_ := s1.2.2.1.frozen 2; with_reducible exact ⟨q0_, q1_, q2_, q3_, q4_, q5_, q6_, s1⟩)
        | (have s1 := (by assumption : _ ∧ _ ∧ _ ∧ _ ∧ _ ∧ _ ∧ _ ∧ S3 w w.heap.size [.bool (qn p), .slice A (digs (qt p)).length c, .slice D (digs (qd p)).length d] [.bool (qn q), .slice E (digs (qt q)).length e0, .slice H (digs (qd q)).length h0] 3 _).2.2.2.2.2.2.2.put (.bool (qn (p + q))) (.slice A8 (digs (qt (p + q))).length c8) (.slice A9 (digs (qd (p + q))).length c9); have q0_ := s1.1.cell 0; have q1_ := s1.2.2.1.cell 0; have q2_ := s1.2.2.1.frozen 0; have q3_ := s1.2.2.1.cell 1; have q4_ := s1.2.2.1.frozen 1; have q5_ := s1.2.2.1.cell 2; have q6_ := s1.2.2.1.frozen 2; with_reducible exact ⟨q0_, q1_, q2_, q3_, q4_, q5_, q6_, s1⟩))
      (first
        | (go_at_call 75; have hh := (by assumption : _ ∧ _ ∧ _ ∧ _ ∧ _ ∧ _ ∧ _ ∧ S3 w w.heap.size [.bool (qn p), .slice A (digs (qt p)).length c, .slice D (digs (qd p)).length d] [.bool (qn q), .slice E (digs (qt q)).length e0, .slice H (digs (qd q)).length h0] 3 _).2.2.2.2.2.2.2; refine hP.mono ?_; rintro e w7 ⟨A7, c7, rfl, O7, BX⟩; have B7 := BX)
        | (go_at_call 74; have hh := (by assumption : _ ∧ _ ∧ _ ∧ _ ∧ _ ∧ _ ∧ _ ∧ S3 w w.heap.size [.bool (qn p), .slice A (digs (qt p)).length c, .slice D (digs (qd p)).length d] [.bool (qn q), .slice E (digs (qt q)).length e0, .slice H (digs (qd q)).length h0] 3 _).2.2.2.2.2.2.2; refine (hR A7 A6 c7 c6 _ O7.rw (st (show RW w6.drew w6.drew.heap.size A6 c6 (digs B) from O6.rw) B7)).mono ?_; rintro e w8 ⟨A8, c8, A9, c9, rfl, O8, O9, BX⟩; have kk := hh.nx BX; have B8 := BX))
    have s6 := kk.2.2.1.put3 (.bool (qn (p + q))) (.slice A8 (digs (qt (p + q))).length c8) (.slice A9 (digs (qd (p + q))).length c9)
    have hb6 := hh.2.2.1.2
    have B6 := put3_below (b := w.heap.size + 2) kk.2.2.2 (by omega) (.bool (qn (p + q))) (.slice A8 (digs (qt (p + q))).length c8) (.slice A9 (digs (qd (p + q))).length c9)
    have Oa := O8.put3 (b := w.heap.size + 2) hb6 (.bool (qn (p + q))) (.slice A8 (digs (qt (p + q))).length c8) (.slice A9 (digs (qd (p + q))).length c9)
    have Ob := O9.put3 (b := w.heap.size + 2) hb6 (.bool (qn (p + q))) (.slice A8 (digs (qt (p + q))).length c8) (.slice A9 (digs (qd (p + q))).length c9)
    have r0 := s6.cell 0
    have r1 := s6.cell 1
    have r2 := s6.cell 2
    unfold wr3 at s6 B6 Oa Ob r0 r1 r2
    go_wp2_with fail
    refine bodyPost_ret (v := .agg #[.bool (qn (p + q)), .slice A8 (digs (qt (p + q))).length c8, .slice A9 (digs (qd (p + q))).length c9]) (by simp [results, r0, r1, r2, go_sem]) rfl ?_
    exact ⟨A8, c8, A9, c9, rfl, Oa.base_le (by omega), Ob.base_le (by omega), B6⟩
  · have hsb : (qn p == qn q) = false := beq_eq_false_iff_ne.2 hs
    rcases Nat.lt_or_ge X Y with hlt | hge
    · have hz : cmpN X Y = -1 := cmpN_lt hlt
      have hle : Hid (X ≤ Y) := Nat.le_of_lt hlt
      have hR := fun A4 c4 A5 c5 w' x y => rat_any (qn q) A4 c4 A5 c5 _ _ (digs (Y - X)) (digs B) w' rfl rfl x y (Nrm_digs _) (Nrm_digs _) (by rw [val_digs]; exact hB0) hl6 (by omega)
      simp only [val_digs, hE3 hs hle.out] at hR
      clear hE1 hE2 hE3 hs hlt
      go_enter Try.func53, Try.ntmps53
      go_wp2_with fail
      have k0d := k0.dr
      have k0s := And.intro (k0d.1.cell 1) (And.intro (k0d.1.cell 2) (And.intro (k0d.2.1.cell 1) (And.intro (k0d.2.1.cell 2) (k0d))))
      go_region_held3 (fun w' => w'.cell? ⟨w.heap.size, 1, none⟩ = some (.slice A (digs (qt p)).length c) ∧ w'.cell? ⟨w.heap.size, 2, none⟩ = some (.slice D (digs (qd p)).length d) ∧ w'.cell? ⟨w.heap.size + 1, 1, none⟩ = some (.slice E (digs (qt q)).length e0) ∧ w'.cell? ⟨w.heap.size + 1, 2, none⟩ = some (.slice H (digs (qd q)).length h0) ∧ S3 w w.heap.size [.bool (qn p), .slice A (digs (qt p)).length c, .slice D (digs (qd p)).length d] [.bool (qn q), .slice E (digs (qt q)).length e0, .slice H (digs (qd q)).length h0] 3 w')
        (first
          | with_reducible exact k0s
          | (have s1 := (by assumption : _ ∧ _ ∧ _ ∧ _ ∧ S3 w w.heap.size [.bool (qn p), .slice A (digs (qt p)).length c, .slice D (digs (qd p)).length d] [.bool (qn q), .slice E (digs (qt q)).length e0, .slice H (digs (qd q)).length h0] 3 _).2.2.2.2.nx BX; have q0_ := s1.1.cell 1; have q1_ := s1.1.cell 2; have q2_ := s1.2.1.cell 1; have q3_ := s1.2.1.cell 2; with_reducible exact ⟨q0_, q1_, q2_, q3_, s1⟩))
        (first
          | (go_at_call_of 47 (Value.slice A (digs (qt p)).length c); have hh := (by assumption : _ ∧ _ ∧ _ ∧ _ ∧ S3 w w.heap.size [.bool (qn p), .slice A (digs (qt p)).length c, .slice D (digs (qd p)).length d] [.bool (qn q), .slice E (digs (qt q)).length e0, .slice H (digs (qd q)).length h0] 3 _).2.2.2.2; refine (hT1 _ (st ra hh.2.2.2) (st rd hh.2.2.2)).mono ?_; rintro e w4 ⟨A4, c4, rfl, O4, BX⟩)
          | (go_at_call_of 47 (Value.slice E (digs (qt q)).length e0); have hh := (by assumption : _ ∧ _ ∧ _ ∧ _ ∧ S3 w w.heap.size [.bool (qn p), .slice A (digs (qt p)).length c, .slice D (digs (qd p)).length d] [.bool (qn q), .slice E (digs (qt q)).length e0, .slice H (digs (qd q)).length h0] 3 _).2.2.2.2; refine (hT2 _ (st rc hh.2.2.2) (st rb hh.2.2.2)).mono ?_; rintro e w5 ⟨A5, c5, rfl, O5, BX⟩; have k1 := hh.nx BX; have B5 := BX))
      have m0 := k1.1.cell 2
      have m1 := k1.2.1.cell 2
      go_wp2_with fail
      refine (hT3 _ (st rb k1.2.2.2) (st rd k1.2.2.2)).mono ?_; rintro e w6 ⟨A6, c6, rfl, O6, B6⟩
      have k2 := k1.nx B6
      have m2 := k2.1.cell 0
      have m3 := k2.2.1.cell 0
      have rx := st (st O4.rw B5) B6
      have ry := st O5.rw B6
      have hO := order_any A4 A5 c4 c5 _ _ (digs X) (digs Y) w6 rfl rfl rx ry (Nrm_digs _) (Nrm_digs _)
      rw [val_digs, val_digs, hz] at hO
      clear hz
      go_wp2_with fail
      refine hO.mono ?_; rintro e wo ⟨rfl, ko, hwo⟩
      have Bo : Below w6.heap.size w6 wo := by rw [hwo]; exact bdN (Below.refl _ _) ko
      clear hwo
      have k3 := k2.nx Bo
      have sx := st rx Bo
      have sy := st ry Bo
      have R6 := st O6.rw Bo
      have hP := less_any A5 A4 c5 c4 _ _ (digs Y) (digs X) wo.drew rfl rfl sy sx (digs_mono hle.out) (by rw [val_digs, val_digs]; exact hle.out)
      rw [val_digs, val_digs] at hP
      go_wp2_with fail
      have k3d := k3.dr
      have k3s := And.intro (k3d.2.1.cell 0) (And.intro (k3d.2.2.1.cell 0) (And.intro (k3d.2.2.1.frozen 0) (And.intro (k3d.2.2.1.cell 1) (And.intro (k3d.2.2.1.frozen 1) (And.intro (k3d.2.2.1.cell 2) (And.intro (k3d.2.2.1.frozen 2) (k3d)))))))
      go_region_held3 (fun w' => w'.cell? ⟨w.heap.size + 1, 0, none⟩ = some (.bool (qn q)) ∧ w'.cell? ⟨w.heap.size + 2, 0, none⟩ = some (cv w' (w.heap.size + 2) 0) ∧ w'.frozen? ⟨w.heap.size + 2, 0, none⟩ = false ∧ w'.cell? ⟨w.heap.size + 2, 1, none⟩ = some (cv w' (w.heap.size + 2) 1) ∧ w'.frozen? ⟨w.heap.size + 2, 1, none⟩ = false ∧ w'.cell? ⟨w.heap.size + 2, 2, none⟩ = some (cv w' (w.heap.size + 2) 2) ∧ w'.frozen? ⟨w.heap.size + 2, 2, none⟩ = false ∧ S3 w w.heap.size [.bool (qn p), .slice A (digs (qt p)).length c, .slice D (digs (qd p)).length d] [.bool (qn q), .slice E (digs (qt q)).length e0, .slice H (digs (qd q)).length h0] 3 w')
        (first
          | with_reducible exact k3s
          | (have s1 := (by assumption : _ ∧ _ ∧ _ ∧ _ ∧ _ ∧ _ ∧ _ ∧ S3 w w.heap.size [.bool (qn p), .slice A (digs (qt p)).length c, .slice D (digs (qd p)).length d] [.bool (qn q), .slice E (digs (qt q)).length e0, .slice H (digs (qd q)).length h0] 3 _).2.2.2.2.2.2.2.nx BX; have q0_ := s1.2.1.cell 0; have q1_ := s1.2.2.1.cell 0; have q2_ := s1.2.2.1.frozen 0; have q3_ := s1.2.2.1.cell 1; have q4_ := s1.2.2.1.frozen 1; have q5_ := s1.2.2.1.cell 2; have q6_ := s1.2.2.1.frozen 2; with_reducible exact ⟨q0_, q1_, q2_, q3_, q4_, q5_, q6_, s1⟩)
          | (have s1 := (by assumption : _ ∧ _ ∧ _ ∧ _ ∧ _ ∧ _ ∧ _ ∧ S3 w w.heap.size [.bool (qn p), .slice A (digs (qt p)).length c, .slice D (digs (qd p)).length d] [.bool (qn q), .slice E (digs (qt q)).length e0, .slice H (digs (qd q)).length h0] 3 _).2.2.2.2.2.2.2.put (.bool (qn (p + q))) (.slice A8 (digs (qt (p + q))).length c8) (.slice A9 (digs (qd (p + q))).length c9); have q0_ := s1.2.1.cell 0; have q1_ := s1.2.2.1.cell 0; have q2_ := s1.2.2.1.frozen 0; have q3_ := s1.2.2.1.cell 1; have q4_ := s1.2.2.1.frozen 1; have q5_ := s1.2.2.1.cell 2; have q6_ := s1.2.2.1.frozen 2; with_reducible exact ⟨q0_, q1_, q2_, q3_, q4_, q5_, q6_, s1⟩))
        (first
          | (go_at_call 28; have hh := (by assumption : _ ∧ _ ∧ _ ∧ _ ∧ _ ∧ _ ∧ _ ∧ S3 w w.heap.size [.bool (qn p), .slice A (digs (qt p)).length c, .slice D (digs (qd p)).length d] [.bool (qn q), .slice E (digs (qt q)).length e0, .slice H (digs (qd q)).length h0] 3 _).2.2.2.2.2.2.2; refine hP.mono ?_; rintro e w7 ⟨A7, c7, rfl, O7, BX⟩; have B7 := BX)
          | (go_at_call 74; have hh := (by assumption : _ ∧ _ ∧ _ ∧ _ ∧ _ ∧ _ ∧ _ ∧ S3 w w.heap.size [.bool (qn p), .slice A (digs (qt p)).length c, .slice D (digs (qd p)).length d] [.bool (qn q), .slice E (digs (qt q)).length e0, .slice H (digs (qd q)).length h0] 3 _).2.2.2.2.2.2.2; refine (hR A7 A6 c7 c6 _ O7.rw (st (show RW wo.drew wo.drew.heap.size A6 c6 (digs B) from R6) B7)).mono ?_; rintro e w8 ⟨A8, c8, A9, c9, rfl, O8, O9, BX⟩; have kk := hh.nx BX; have B8 := BX))
      have s6 := kk.2.2.1.put3 (.bool (qn (p + q))) (.slice A8 (digs (qt (p + q))).length c8) (.slice A9 (digs (qd (p + q))).length c9)
      have hb6 := hh.2.2.1.2
      have B6 := put3_below (b := w.heap.size + 2) kk.2.2.2 (by omega) (.bool (qn (p + q))) (.slice A8 (digs (qt (p + q))).length c8) (.slice A9 (digs (qd (p + q))).length c9)
      have Oa := O8.put3 (b := w.heap.size + 2) hb6 (.bool (qn (p + q))) (.slice A8 (digs (qt (p + q))).length c8) (.slice A9 (digs (qd (p + q))).length c9)
      have Ob := O9.put3 (b := w.heap.size + 2) hb6 (.bool (qn (p + q))) (.slice A8 (digs (qt (p + q))).length c8) (.slice A9 (digs (qd (p + q))).length c9)
      have r0 := s6.cell 0
      have r1 := s6.cell 1
      have r2 := s6.cell 2
      unfold wr3 at s6 B6 Oa Ob r0 r1 r2
      go_wp2_with fail
      refine bodyPost_ret (v := .agg #[.bool (qn (p + q)), .slice A8 (digs (qt (p + q))).length c8, .slice A9 (digs (qd (p + q))).length c9]) (by simp [results, r0, r1, r2, go_sem]) rfl ?_
      exact ⟨A8, c8, A9, c9, rfl, Oa.base_le (by omega), Ob.base_le (by omega), B6⟩
    · obtain ⟨z, hz, hz0⟩ : ∃ z, cmpN X Y = z ∧ 0 ≤ z := ⟨_, rfl, cmpN_ge hge⟩
      have hle : Hid (Y ≤ X) := hge
      have hR := fun A4 c4 A5 c5 w' x y => rat_any (qn p) A4 c4 A5 c5 _ _ (digs (X - Y)) (digs B) w' rfl rfl x y (Nrm_digs _) (Nrm_digs _) (by rw [val_digs]; exact hB0) hl5 (by omega)
      simp only [val_digs, hE2 hs hle.out] at hR
      clear hE1 hE2 hE3 hs hge
      go_enter Try.func53, Try.ntmps53
      go_wp2_with fail
      have k0d := k0.dr
      have k0s := And.intro (k0d.1.cell 1) (And.intro (k0d.1.cell 2) (And.intro (k0d.2.1.cell 1) (And.intro (k0d.2.1.cell 2) (k0d))))
      go_region_held3 (fun w' => w'.cell? ⟨w.heap.size, 1, none⟩ = some (.slice A (digs (qt p)).length c) ∧ w'.cell? ⟨w.heap.size, 2, none⟩ = some (.slice D (digs (qd p)).length d) ∧ w'.cell? ⟨w.heap.size + 1, 1, none⟩ = some (.slice E (digs (qt q)).length e0) ∧ w'.cell? ⟨w.heap.size + 1, 2, none⟩ = some (.slice H (digs (qd q)).length h0) ∧ S3 w w.heap.size [.bool (qn p), .slice A (digs (qt p)).length c, .slice D (digs (qd p)).length d] [.bool (qn q), .slice E (digs (qt q)).length e0, .slice H (digs (qd q)).length h0] 3 w')
        (first
          | with_reducible exact k0s
          | (have s1 := (by assumption : _ ∧ _ ∧ _ ∧ _ ∧ S3 w w.heap.size [.bool (qn p), .slice A (digs (qt p)).length c, .slice D (digs (qd p)).length d] [.bool (qn q), .slice E (digs (qt q)).length e0, .slice H (digs (qd q)).length h0] 3 _).2.2.2.2.nx BX; have q0_ := s1.1.cell 1; have q1_ := s1.1.cell 2; have q2_ := s1.2.1.cell 1; have q3_ := s1.2.1.cell 2; with_reducible exact ⟨q0_, q1_, q2_, q3_, s1⟩))
        (first
          | (go_at_call_of 47 (Value.slice A (digs (qt p)).length c); have hh := (by assumption : _ ∧ _ ∧ _ ∧ _ ∧ S3 w w.heap.size [.bool (qn p), .slice A (digs (qt p)).length c, .slice D (digs (qd p)).length d] [.bool (qn q), .slice E (digs (qt q)).length e0, .slice H (digs (qd q)).length h0] 3 _).2.2.2.2; refine (hT1 _ (st ra hh.2.2.2) (st rd hh.2.2.2)).mono ?_; rintro e w4 ⟨A4, c4, rfl, O4, BX⟩)
          | (go_at_call_of 47 (Value.slice E (digs (qt q)).length e0); have hh := (by assumption : _ ∧ _ ∧ _ ∧ _ ∧ S3 w w.heap.size [.bool (qn p), .slice A (digs (qt p)).length c, .slice D (digs (qd p)).length d] [.bool (qn q), .slice E (digs (qt q)).length e0, .slice H (digs (qd q)).length h0] 3 _).2.2.2.2; refine (hT2 _ (st rc hh.2.2.2) (st rb hh.2.2.2)).mono ?_; rintro e w5 ⟨A5, c5, rfl, O5, BX⟩; have k1 := hh.nx BX; have B5 := BX))
      have m0 := k1.1.cell 2
      have m1 := k1.2.1.cell 2
      go_wp2_with fail
      refine (hT3 _ (st rb k1.2.2.2) (st rd k1.2.2.2)).mono ?_; rintro e w6 ⟨A6, c6, rfl, O6, B6⟩
      have k2 := k1.nx B6
      have m2 := k2.1.cell 0
      have m3 := k2.2.1.cell 0
      have rx := st (st O4.rw B5) B6
      have ry := st O5.rw B6
      have hO := order_any A4 A5 c4 c5 _ _ (digs X) (digs Y) w6 rfl rfl rx ry (Nrm_digs _) (Nrm_digs _)
      rw [val_digs, val_digs, hz] at hO
      clear hz
      go_wp2_with fail
      refine hO.mono ?_; rintro e wo ⟨rfl, ko, hwo⟩
      have Bo : Below w6.heap.size w6 wo := by rw [hwo]; exact bdN (Below.refl _ _) ko
      clear hwo
      have k3 := k2.nx Bo
      have sx := st rx Bo
      have sy := st ry Bo
      have R6 := st O6.rw Bo
      have hP := less_any A4 A5 c4 c5 _ _ (digs X) (digs Y) wo.drew rfl rfl sx sy (digs_mono hle.out) (by rw [val_digs, val_digs]; exact hle.out)
      rw [val_digs, val_digs] at hP
      go_wp2_with fail
      have k3d := k3.dr
      have k3s := And.intro (k3d.1.cell 0) (And.intro (k3d.2.2.1.cell 0) (And.intro (k3d.2.2.1.frozen 0) (And.intro (k3d.2.2.1.cell 1) (And.intro (k3d.2.2.1.frozen 1) (And.intro (k3d.2.2.1.cell 2) (And.intro (k3d.2.2.1.frozen 2) (k3d)))))))
      go_region_held3 (fun w' => w'.cell? ⟨w.heap.size, 0, none⟩ = some (.bool (qn p)) ∧ w'.cell? ⟨w.heap.size + 2, 0, none⟩ = some (cv w' (w.heap.size + 2) 0) ∧ w'.frozen? ⟨w.heap.size + 2, 0, none⟩ = false ∧ w'.cell? ⟨w.heap.size + 2, 1, none⟩ = some (cv w' (w.heap.size + 2) 1) ∧ w'.frozen? ⟨w.heap.size + 2, 1, none⟩ = false ∧ w'.cell? ⟨w.heap.size + 2, 2, none⟩ = some (cv w' (w.heap.size + 2) 2) ∧ w'.frozen? ⟨w.heap.size + 2, 2, none⟩ = false ∧ S3 w w.heap.size [.bool (qn p), .slice A (digs (qt p)).length c, .slice D (digs (qd p)).length d] [.bool (qn q), .slice E (digs (qt q)).length e0, .slice H (digs (qd q)).length h0] 3 w')
        (first
          | with_reducible exact k3s
          | (have s1 := (by assumption : _ ∧ _ ∧ _ ∧ _ ∧ _ ∧ _ ∧ _ ∧ S3 w w.heap.size [.bool (qn p), .slice A (digs (qt p)).length c, .slice D (digs (qd p)).length d] [.bool (qn q), .slice E (digs (qt q)).length e0, .slice H (digs (qd q)).length h0] 3 _).2.2.2.2.2.2.2.nx BX; have q0_ := s1.1.cell 0; have q1_ := s1.2.2.1.cell 0; have q2_ := s1.2.2.1.frozen 0; have q3_ := s1.2.2.1.cell 1; have q4_ := s1.2.2.1.frozen 1; have q5_ := s1.2.2.1.cell 2; have q6_ := s1.2.2.1.frozen 2; with_reducible exact ⟨q0_, q1_, q2_, q3_, q4_, q5_, q6_, s1⟩)
          | (have s1 := (by assumption : _ ∧ _ ∧ _ ∧ _ ∧ _ ∧ _ ∧ _ ∧ S3 w w.heap.size [.bool (qn p), .slice A (digs (qt p)).length c, .slice D (digs (qd p)).length d] [.bool (qn q), .slice E (digs (qt q)).length e0, .slice H (digs (qd q)).length h0] 3 _).2.2.2.2.2.2.2.put (.bool (qn (p + q))) (.slice A8 (digs (qt (p + q))).length c8) (.slice A9 (digs (qd (p + q))).length c9); have q0_ := s1.1.cell 0; have q1_ := s1.2.2.1.cell 0; have q2_ := s1.2.2.1.frozen 0; have q3_ := s1.2.2.1.cell 1; have q4_ := s1.2.2.1.frozen 1; have q5_ := s1.2.2.1.cell 2; have q6_ := s1.2.2.1.frozen 2; with_reducible exact ⟨q0_, q1_, q2_, q3_, q4_, q5_, q6_, s1⟩))
        (first
          | (go_at_call 28; have hh := (by assumption : _ ∧ _ ∧ _ ∧ _ ∧ _ ∧ _ ∧ _ ∧ S3 w w.heap.size [.bool (qn p), .slice A (digs (qt p)).length c, .slice D (digs (qd p)).length d] [.bool (qn q), .slice E (digs (qt q)).length e0, .slice H (digs (qd q)).length h0] 3 _).2.2.2.2.2.2.2; refine hP.mono ?_; rintro e w7 ⟨A7, c7, rfl, O7, BX⟩; have B7 := BX)
          | (go_at_call 74; have hh := (by assumption : _ ∧ _ ∧ _ ∧ _ ∧ _ ∧ _ ∧ _ ∧ S3 w w.heap.size [.bool (qn p), .slice A (digs (qt p)).length c, .slice D (digs (qd p)).length d] [.bool (qn q), .slice E (digs (qt q)).length e0, .slice H (digs (qd q)).length h0] 3 _).2.2.2.2.2.2.2; refine (hR A7 A6 c7 c6 _ O7.rw (st (show RW wo.drew wo.drew.heap.size A6 c6 (digs B) from R6) B7)).mono ?_; rintro e w8 ⟨A8, c8, A9, c9, rfl, O8, O9, BX⟩; have kk := hh.nx BX; have B8 := BX))
      have s6 := kk.2.2.1.put3 (.bool (qn (p + q))) (.slice A8 (digs (qt (p + q))).length c8) (.slice A9 (digs (qd (p + q))).length c9)
      have hb6 := hh.2.2.1.2
      have B6 := put3_below (b := w.heap.size + 2) kk.2.2.2 (by omega) (.bool (qn (p + q))) (.slice A8 (digs (qt (p + q))).length c8) (.slice A9 (digs (qd (p + q))).length c9)
      have Oa := O8.put3 (b := w.heap.size + 2) hb6 (.bool (qn (p + q))) (.slice A8 (digs (qt (p + q))).length c8) (.slice A9 (digs (qd (p + q))).length c9)
      have Ob := O9.put3 (b := w.heap.size + 2) hb6 (.bool (qn (p + q))) (.slice A8 (digs (qt (p + q))).length c8) (.slice A9 (digs (qd (p + q))).length c9)
      have r0 := s6.cell 0
      have r1 := s6.cell 1
      have r2 := s6.cell 2
      unfold wr3 at s6 B6 Oa Ob r0 r1 r2
      go_wp2_with fail
      refine bodyPost_ret (v := .agg #[.bool (qn (p + q)), .slice A8 (digs (qt (p + q))).length c8, .slice A9 (digs (qd (p + q))).length c9]) (by simp [results, r0, r1, r2, go_sem]) rfl ?_
      exact ⟨A8, c8, A9, c9, rfl, Oa.base_le (by omega), Ob.base_le (by omega), B6⟩
end Go.Proofs.Ytabcnpcfknlmlaa
