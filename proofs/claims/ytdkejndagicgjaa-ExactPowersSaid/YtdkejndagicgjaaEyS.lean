/- Walk: the reference's Expt, a real number. -/
import Derived.Test.YtdkejndagicgjaaEyX
namespace Go.Proofs.Ytdkejndagicgjaa
open Go.RowKit


set_option maxRecDepth 100000 in
set_option maxHeartbeats 16000000 in
theorem rexpt_real_c (V : Value) (x y : Rat) (n : Int) (w : World) (hV : RN w w.heap.size V x y) (bx : qw x ≤ 512) (by_ : qw y ≤ 512) (hy : (rwq y).a.length = 0) (m : Nat) (hm1 : 1 ≤ m) (hm2 : m ≤ 1024) (hn1 : -n ≤ (m : Int)) (hn2 : (m : Int) ≤ -n) (hz0 : ¬ (x = 0 ∧ y = 0)) (p : Nat → Rat) (hp : p 0 = 1)
    (hpt : ∀ k, qt (p (k + 1)) = qt (p k) * qt x) (hpd : ∀ k, qd (p (k + 1)) = qd (p k) * qd x) (hsg : ∀ k, qn (p (k + 1)) = (qn (p k) != qn x) ∧ (qn (p k) ≠ qn x → 0 < (digs (qt x)).length) ∧ (qn (p k) = true → qn x = true))
    (hLg : ∀ k V w', RN w' w'.heap.size V (p k) 0 → Calls Try.prog 65 #[V] w' fun e w2 => e = .returned (.bool (!decide ((digs (qt (p k))).length ≤ 512 ∧ (digs (qd (p k))).length ≤ 512))) ∧ Below w'.heap.size w' w2)
    (fr fi : Rw) (fk : Int) (ans : Rw × Rw × Int) (ip : Rat)
    (hI : ∀ V w', RN w' w'.heap.size V (p m) 0 → (digs (qt (p m))).length ≤ 512 ∧ (digs (qd (p m))).length ≤ 512 → Calls Try.prog 52 #[V] w' (RetP w' ip 0))
    (hF : ∀ A1 D1 A2 D2 c1 d1 c2 d2 base w', OW w' base A1 c1 (digs (qt ip)) → OW w' base D1 d1 (digs (qd ip)) → OW w' base A2 c2 (digs (qt (0 : Rat))) → OW w' base D2 d2 (digs (qd (0 : Rat))) → Calls Try.prog 47 #[(.agg #[.bool (qn ip), .slice A1 (digs (qt ip)).length c1, .slice D1 (digs (qd ip)).length d1, .bool (qn (0 : Rat)), .slice A2 (digs (qt (0 : Rat))).length c2, .slice D2 (digs (qd (0 : Rat))).length d2])] w' (RetF w' base (fr, fi, fk)))
    (hbig : ∀ k, k < m → ¬ ((digs (qt (p (k + 1)))).length ≤ 512 ∧ (digs (qd (p (k + 1)))).length ≤ 512) → ans = (rw0, rw0, 4)) (hfit : (∀ k, k ≤ m → (digs (qt (p k))).length ≤ 512 ∧ (digs (qd (p k))).length ≤ 512) → ans = (fr, fi, fk)) :
    Calls Try.prog 28 #[V, .int .i64 n] w (RetNE w ans) := by
  have hr1 := fun V w' h => rreal_any V (rwq x) (rwq y) w' h
  rw [decide_eq_true hy] at hr1
  have hs1 := fun V w' h => resound_any V (rwq x) (rwq y) w' h
  rw [nB_rwq bx by_] at hs1
  obtain ⟨A1, c1, D1, d1, A2, c2, D2, d2, rfl, p1, p2, p3, p4⟩ := hV
  have Ha : VN w w.heap.size (.agg #[.bool (qn x), .slice A1 (digs (qt x)).length c1, .slice D1 (digs (qd x)).length d1, .bool (qn y), .slice A2 (digs (qt y)).length c2, .slice D2 (digs (qd y)).length d2]) (rwq x) (rwq y) := ⟨A1, c1, D1, d1, A2, c2, D2, d2, rfl, p1, p2, p3, p4⟩
  simp only [rwq] at p1 p2 p3 p4
  have k0 := S2.new w [.bool (qn x), .slice A1 (digs (qt x)).length c1, .slice D1 (digs (qd x)).length d1, .bool (qn y), .slice A2 (digs (qt y)).length c2, .slice D2 (digs (qd y)).length d2] [.bool false, .slice none 0 0, .slice none 0 0, .bool false, .slice none 0 0, .slice none 0 0] 26 26 6
  have C0 := k0.2.2
  have i0 := k0.1.cell 0
  have i1 := k0.1.cell 1
  have i2 := k0.1.cell 2
  have i3 := k0.1.cell 3
  have i4 := k0.1.cell 4
  have i5 := k0.1.cell 5
  have hZ := fun V w' h => risZero_any V (rwq x) (rwq y) w' h
  rw [zeroB_q] at hZ
  rw [decide_eq_false hz0] at hZ
  have e1 : ¬ n < -1024 := by omega
  have e2 : ¬ 1024 < n := by omega
  have e3 : (n == 0) = false := beq_eq_false_iff_ne.2 (by omega)
  have e4 : n < 0 := by omega
  have hM1 := fun k T ct (w' : World) (h : RW w' w'.heap.size T ct (digs (qt (p k)))) (h2 : RW w' w'.heap.size A1 c1 (digs (qt x))) (hk : (digs (qt (p k))).length ≤ 512) => (show Calls Try.prog 71 #[.slice T (digs (qt (p k))).length ct, .slice A1 (digs (qt x)).length c1] w' (RetW w' (qt (p (k + 1)))) from by
    have hh := rtimes_any T A1 ct c1 _ _ _ _ w' rfl rfl h h2 (by omega) (by have := qw_t x; omega)
    rw [val_digs, val_digs, ← hpt] at hh
    exact hh)
  have hM2 := fun k T ct (w' : World) (h : RW w' w'.heap.size T ct (digs (qd (p k)))) (h2 : RW w' w'.heap.size D1 d1 (digs (qd x))) (hk : (digs (qd (p k))).length ≤ 512) => (show Calls Try.prog 71 #[.slice T (digs (qd (p k))).length ct, .slice D1 (digs (qd x)).length d1] w' (RetW w' (qd (p (k + 1)))) from by
    have hh := rtimes_any T D1 ct d1 _ _ _ _ w' rfl rfl h h2 (by omega) (by have := qw_d x; omega)
    rw [val_digs, val_digs, ← hpd] at hh
    exact hh)
  have hI1 := fun w' => rint_any 1 w' (by omega) (by omega)
  rw [show ((1 : Int) : Rat) = 1 from rfl] at hI1
  clear hy hpt hpd bx by_ hz0
  go_enter Try.func28, Try.ntmps28
  go_wp2_with fail
  refine (hs1 _ _ (Ha.st C0)).mono ?_; rintro e w3 ⟨rfl, B3⟩
  have k3 := k0.nx B3
  clear i0 i1 i2 i3 i4 i5 hs1
  have C3 := k3.2.2
  have j0 := k3.1.cell 0
  have j1 := k3.1.cell 1
  have j2 := k3.1.cell 2
  have j3 := k3.1.cell 3
  have j4 := k3.1.cell 4
  have j5 := k3.1.cell 5
  go_wp2_with fail
  refine (hZ _ _ (Ha.st C3)).mono ?_; rintro e w4 ⟨rfl, B4⟩
  have k4 := k3.nx B4
  clear hZ j0 j1 j2 j3 j4 j5
  go_wp2_with fail
  refine (hI1 _).mono ?_; rintro e w5 ⟨Ara, cra, Dra, dra, E1, e1, E2, e2, rfl, O1, O2, O3, O4, B5⟩
  simp only [rwq] at O1 O2 O3 O4
  have hg0 : w.heap.size + 1 < w4.heap.size := k4.2.1.2
  have k5 := k4.nx B5
  have hfA : ∀ b, E1 = some ⟨b, 0, none⟩ → b ≠ w5.heap.size := fun b hb => by subst hb; exact Nat.ne_of_lt O3.lt.2
  have hfD : ∀ b, E2 = some ⟨b, 0, none⟩ → b ≠ w5.heap.size := fun b hb => by subst hb; exact Nat.ne_of_lt O4.lt.2
  have L := bal w5 (.cells #[.bool (qn (1 : Rat)), .slice Ara (digs (qt (1 : Rat))).length cra, .slice Dra (digs (qd (1 : Rat))).length dra, .bool (qn (0 : Rat)), .slice E1 (digs (qt (0 : Rat))).length e1, .slice E2 (digs (qd (0 : Rat))).length e2] 26)
  have sp := SB.new w5 [.bool (qn (1 : Rat)), .slice Ara (digs (qt (1 : Rat))).length cra, .slice Dra (digs (qd (1 : Rat))).length dra, .bool (qn (0 : Rat)), .slice E1 (digs (qt (0 : Rat))).length e1, .slice E2 (digs (qd (0 : Rat))).length e2] 26
  have hg : w.heap.size + 1 < w5.heap.size := k5.2.1.2
  have k6 := k5.nx L
  have hb0 : w.heap.size + 2 ≤ w4.heap.size := hg0
  have O1 := (O1.below L (Nat.le_refl _)).base_le hb0
  have O2 := (O2.below L (Nat.le_refl _)).base_le hb0
  have O3 := (O3.below L (Nat.le_refl _)).base_le hb0
  have O4 := (O4.below L (Nat.le_refl _)).base_le hb0
  obtain ⟨W5, hW5⟩ : ∃ W5, W5 = w5.alloc (.cells #[.bool (qn (1 : Rat)), .slice Ara (digs (qt (1 : Rat))).length cra, .slice Dra (digs (qd (1 : Rat))).length dra, .bool (qn (0 : Rat)), .slice E1 (digs (qt (0 : Rat))).length e1, .slice E2 (digs (qd (0 : Rat))).length e2] 26) := ⟨_, rfl⟩
  rw [← hW5] at L sp k6 O1 O2 O3 O4
  simp only [rwq]
  go_wp2_with fail
  rw [← hW5]
  clear hW5 L k4 k5 hg0
  generalize w5.heap.size = g at *
  go_loopg [8] m (fun gg kv wr => ∃ (k : Nat) (T D : Option Addr) (ct cd : Nat), k ≤ m ∧ m - k = gg ∧ kv = .int .i64 (k : Int) ∧ SB wr g [.bool (qn (p k)), .slice T (digs (qt (p k))).length ct, .slice D (digs (qd (p k))).length cd, .bool (qn (0 : Rat)), .slice E1 (digs (qt (0 : Rat))).length e1, .slice E2 (digs (qd (0 : Rat))).length e2] ∧ OW wr (w.heap.size + 2) T ct (digs (qt (p k))) ∧ OW wr (w.heap.size + 2) D cd (digs (qd (p k))) ∧ OW wr (w.heap.size + 2) E1 e1 (digs (qt (0 : Rat))) ∧ OW wr (w.heap.size + 2) E2 e2 (digs (qd (0 : Rat))) ∧ Hid (∀ j, j ≤ k → (digs (qt (p j))).length ≤ 512 ∧ (digs (qd (p j))).length ≤ 512) ∧ S2 w w.heap.size [.bool (qn x), .slice A1 (digs (qt x)).length c1, .slice D1 (digs (qd x)).length d1, .bool (qn y), .slice A2 (digs (qt y)).length c2, .slice D2 (digs (qd y)).length d2] 6 wr)
  case atStart =>
    refine ⟨0, Ara, Dra, cra, dra, Nat.zero_le _, rfl, rfl, ?_, ?_, ?_, O3, O4, ?_, k6⟩
    · rw [hp]; exact sp
    · rw [hp]; exact O1
    · rw [hp]; exact O2
    · refine Lib.hid (fun j hj => ?_)
      obtain rfl : j = 0 := by omega
      rw [hp]
      have a1 := qw_t 1
      have a2 := qw_d 1
      have a3 := qw1'
      exact ⟨by omega, by omega⟩
  case round =>
    clear sp k6 O1 O2 O3 O4
    obtain ⟨k, T, D, ct, cd, hkm, rfl, rfl, sp, h1, h2, h3, h4, hle, kr⟩ := hrel
    by_cases hlt : k < m
    · have i0 := kr.1.cell 0
      have i1 := kr.1.cell 1
      have i2 := kr.1.cell 2
      have i3 := kr.1.cell 3
      have i4 := kr.1.cell 4
      have i5 := kr.1.cell 5
      have j0 := sp.cell 0
      have j1 := sp.cell 1
      have j2 := sp.cell 2
      have j3 := sp.cell 3
      have j4 := sp.cell 4
      have j5 := sp.cell 5
      go_wp2_with fail
      refine (hr1 _ _ (Ha.st kr.2.2)).mono ?_; rintro e w20 ⟨rfl, B20⟩
      have hgr : w.heap.size + 2 ≤ wr.heap.size := by have := sp.2; omega
      have kr := kr.nx B20
      have sp := sp.nx B20
      have h1 := h1.below B20 (Nat.le_refl _)
      have h2 := h2.below B20 (Nat.le_refl _)
      have h3 := h3.below B20 (Nat.le_refl _)
      have h4 := h4.below B20 (Nat.le_refl _)
      clear i0 i1 i2 i3 i4 i5 j0 j1 j2 j3 j4 j5
      go_wp2_with fail
      have BD := Below.drew (Below.refl w20.heap.size w20)
      have krd := kr.nx BD
      have spd := sp.nx BD
      have h1d := h1.below BD (Nat.le_refl _)
      have h2d := h2.below BD (Nat.le_refl _)
      have h3d := h3.below BD (Nat.le_refl _)
      have h4d := h4.below BD (Nat.le_refl _)
      obtain ⟨hlt1, hlt2⟩ := hle.out k (Nat.le_refl _)
      obtain ⟨hs1, hs2, hs3⟩ := hsg k
      generalize qn (p k) = sp_ at *
      generalize qn x = sx at *
      have hgl := sp.2
      have hgr2 : w.heap.size + 2 ≤ w20.heap.size := Nat.le_trans hgr B20.size
      cases sx with
      | false =>
        obtain rfl : sp_ = false := by cases sp_ with | false => rfl | true => exact absurd (hs3 rfl) (by simp)
        have hsk : qn (p (k + 1)) = false := by rw [hs1]; rfl
        clear hs1 hs2 hs3 hsg
        refine AnyU.regionQ 30 31 (fun w' => w'.cell? ⟨w.heap.size, 0, none⟩ = some (.bool false) ∧ w'.cell? ⟨w.heap.size, 1, none⟩ = some (.slice A1 (digs (qt x)).length c1) ∧ w'.cell? ⟨w.heap.size, 2, none⟩ = some (.slice D1 (digs (qd x)).length d1) ∧ w'.cell? ⟨g, 0, none⟩ = some (.bool false) ∧ w'.cell? ⟨g, 1, none⟩ = some (.slice T (digs (qt (p k))).length ct) ∧ w'.cell? ⟨g, 2, none⟩ = some (.slice D (digs (qd (p k))).length cd)) rfl (by kernel_rfl) (by kernel_rfl) (by repeat (first | refine quiet_then ?_ | refine quiet_block ?_ | exact quiet_body)) ⟨krd.1.cell 0, krd.1.cell 1, krd.1.cell 2, spd.cell 0, spd.cell 1, spd.cell 2⟩ (fun Q hQK hq hns hHeld => ?_)
        refine AnyU.next (i := 0) (v := ?_) hq hns hHeld rfl rfl (by kernel_rfl) (Or.inl ⟨by rfl, ?_⟩) ?_
        rotate_left
        · intro w' hSw; (try dsimp only at hSw); go_simp <;> with_reducible rfl
        try simp only [List.setIfInBounds_toArray, List.set_cons_zero, List.set_cons_succ]
        refine AnyU.next (i := 1) (v := ?_) hq hns hHeld rfl rfl (by kernel_rfl) (Or.inl ⟨by rfl, ?_⟩) ?_
        rotate_left
        · intro w' hSw; (try dsimp only at hSw); go_simp <;> with_reducible rfl
        try simp only [List.setIfInBounds_toArray, List.set_cons_zero, List.set_cons_succ]
        refine AnyU.next (i := 2) (v := ?_) hq hns hHeld rfl rfl (by kernel_rfl) (Or.inl ⟨by rfl, ?_⟩) ?_
        rotate_left
        · intro w' hSw; (try dsimp only at hSw); go_simp <;> with_reducible rfl
        try simp only [List.setIfInBounds_toArray, List.set_cons_zero, List.set_cons_succ]
        refine AnyU.next (i := 3) (v := ?_) hq hns hHeld rfl rfl (by kernel_rfl) (Or.inl ⟨by rfl, ?_⟩) ?_
        rotate_left
        · intro w' hSw; (try dsimp only at hSw); go_simp <;> with_reducible rfl
        try simp only [List.setIfInBounds_toArray, List.set_cons_zero, List.set_cons_succ]
        refine AnyU.next (i := 4) (v := ?_) hq hns hHeld rfl rfl (by kernel_rfl) (Or.inl ⟨by rfl, ?_⟩) ?_
        rotate_left
        · intro w' hSw; (try dsimp only at hSw); go_simp <;> with_reducible rfl
        try simp only [List.setIfInBounds_toArray, List.set_cons_zero, List.set_cons_succ]
        refine AnyU.next (i := 5) (v := ?_) hq hns hHeld rfl rfl (by kernel_rfl) (Or.inl ⟨by rfl, ?_⟩) ?_
        rotate_left
        · intro w' hSw; (try dsimp only at hSw); go_simp <;> with_reducible rfl
        try simp only [List.setIfInBounds_toArray, List.set_cons_zero, List.set_cons_succ]
        refine AnyU.next (i := 6) (v := ?_) hq hns hHeld rfl rfl (by kernel_rfl) (Or.inl ⟨by rfl, ?_⟩) ?_
        rotate_left
        · intro w' hSw; (try dsimp only at hSw); go_simp <;> with_reducible rfl
        try simp only [List.setIfInBounds_toArray, List.set_cons_zero, List.set_cons_succ]
        refine AnyU.next (i := 7) (v := ?_) hq hns hHeld rfl rfl (by kernel_rfl) (Or.inl ⟨by rfl, ?_⟩) ?_
        rotate_left
        · intro w' hSw; (try dsimp only at hSw); go_simp <;> with_reducible rfl
        try simp only [List.setIfInBounds_toArray, List.set_cons_zero, List.set_cons_succ]
        refine AnyU.next (i := 8) (v := undef) hq hns hHeld rfl rfl (by kernel_rfl) (Or.inr ⟨by kernel_rfl, rfl⟩) ?_
        try simp only [List.setIfInBounds_toArray, List.set_cons_zero, List.set_cons_succ]
        refine AnyU.next (i := 9) (v := undef) hq hns hHeld rfl rfl (by kernel_rfl) (Or.inr ⟨by kernel_rfl, rfl⟩) ?_
        try simp only [List.setIfInBounds_toArray, List.set_cons_zero, List.set_cons_succ]
        refine AnyU.next (i := 10) (v := undef) hq hns hHeld rfl rfl (by kernel_rfl) (Or.inr ⟨by kernel_rfl, rfl⟩) ?_
        try simp only [List.setIfInBounds_toArray, List.set_cons_zero, List.set_cons_succ]
        refine AnyU.next (i := 11) (v := undef) hq hns hHeld rfl rfl (by kernel_rfl) (Or.inr ⟨by kernel_rfl, rfl⟩) ?_
        try simp only [List.setIfInBounds_toArray, List.set_cons_zero, List.set_cons_succ]
        refine AnyU.next (i := 12) (v := undef) hq hns hHeld rfl rfl (by kernel_rfl) (Or.inr ⟨by kernel_rfl, rfl⟩) ?_
        try simp only [List.setIfInBounds_toArray, List.set_cons_zero, List.set_cons_succ]
        refine AnyU.next (i := 13) (v := ?_) hq hns hHeld rfl rfl (by kernel_rfl) (Or.inl ⟨by rfl, ?_⟩) ?_
        rotate_left
        · intro w' hSw; (try dsimp only at hSw); go_simp <;> with_reducible rfl
        try simp only [List.setIfInBounds_toArray, List.set_cons_zero, List.set_cons_succ]
        refine AnyU.next (i := 14) (v := ?_) hq hns hHeld rfl rfl (by kernel_rfl) (Or.inl ⟨by rfl, ?_⟩) ?_
        rotate_left
        · intro w' hSw; (try dsimp only at hSw); go_simp <;> with_reducible rfl
        try simp only [List.setIfInBounds_toArray, List.set_cons_zero, List.set_cons_succ]
        refine AnyU.next (i := 15) (v := ?_) hq hns hHeld rfl rfl (by kernel_rfl) (Or.inl ⟨by rfl, ?_⟩) ?_
        rotate_left
        · intro w' hSw; (try dsimp only at hSw); go_simp <;> with_reducible rfl
        try simp only [List.setIfInBounds_toArray, List.set_cons_zero, List.set_cons_succ]
        refine AnyU.next (i := 16) (v := ?_) hq hns hHeld rfl rfl (by kernel_rfl) (Or.inl ⟨by rfl, ?_⟩) ?_
        rotate_left
        · intro w' hSw; (try dsimp only at hSw); go_simp <;> with_reducible rfl
        try simp only [List.setIfInBounds_toArray, List.set_cons_zero, List.set_cons_succ]
        refine AnyU.next (i := 17) (v := ?_) hq hns hHeld rfl rfl (by kernel_rfl) (Or.inl ⟨by rfl, ?_⟩) ?_
        rotate_left
        · intro w' hSw; (try dsimp only at hSw); go_simp <;> with_reducible rfl
        try simp only [List.setIfInBounds_toArray, List.set_cons_zero, List.set_cons_succ]
        refine AnyU.next (i := 18) (v := ?_) hq hns hHeld rfl rfl (by kernel_rfl) (Or.inl ⟨by rfl, ?_⟩) ?_
        rotate_left
        · intro w' hSw; (try dsimp only at hSw); go_simp <;> with_reducible rfl
        try simp only [List.setIfInBounds_toArray, List.set_cons_zero, List.set_cons_succ]
        refine AnyU.next (i := 19) (v := ?_) hq hns hHeld rfl rfl (by kernel_rfl) (Or.inl ⟨by rfl, ?_⟩) ?_
        rotate_left
        · intro w' hSw; (try dsimp only at hSw); go_simp <;> with_reducible rfl
        try simp only [List.setIfInBounds_toArray, List.set_cons_zero, List.set_cons_succ]
        refine AnyU.next (i := 21) (v := ?_) hq hns hHeld rfl rfl (by kernel_rfl) (Or.inl ⟨by rfl, ?_⟩) ?_
        rotate_left
        · intro w' hSw; (try dsimp only at hSw); go_simp <;> with_reducible rfl
        try simp only [List.setIfInBounds_toArray, List.set_cons_zero, List.set_cons_succ]
        refine AnyU.next (i := 22) (v := ?_) hq hns hHeld rfl rfl (by kernel_rfl) (Or.inl ⟨by rfl, ?_⟩) ?_
        rotate_left
        · intro w' hSw; (try dsimp only at hSw); go_simp <;> with_reducible rfl
        try simp only [List.setIfInBounds_toArray, List.set_cons_zero, List.set_cons_succ]
        refine AnyU.next (i := 23) (v := ?_) hq hns hHeld rfl rfl (by kernel_rfl) (Or.inl ⟨by rfl, ?_⟩) ?_
        rotate_left
        · intro w' hSw; (try dsimp only at hSw); go_simp <;> with_reducible rfl
        try simp only [List.setIfInBounds_toArray, List.set_cons_zero, List.set_cons_succ]
        refine AnyU.next (i := 24) (v := ?_) hq hns hHeld rfl rfl (by kernel_rfl) (Or.inl ⟨by rfl, ?_⟩) ?_
        rotate_left
        · intro w' hSw; (try dsimp only at hSw); go_simp <;> with_reducible rfl
        try simp only [List.setIfInBounds_toArray, List.set_cons_zero, List.set_cons_succ]
        refine AnyU.next (i := 25) (v := ?_) hq hns hHeld rfl rfl (by kernel_rfl) (Or.inl ⟨by rfl, ?_⟩) ?_
        rotate_left
        · intro w' hSw; (try dsimp only at hSw); go_simp <;> with_reducible rfl
        try simp only [List.setIfInBounds_toArray, List.set_cons_zero, List.set_cons_succ]
        refine AnyU.next (i := 26) (v := ?_) hq hns hHeld rfl rfl (by kernel_rfl) (Or.inl ⟨by rfl, ?_⟩) ?_
        rotate_left
        · intro w' hSw; (try dsimp only at hSw); go_simp <;> with_reducible rfl
        try simp only [List.setIfInBounds_toArray, List.set_cons_zero, List.set_cons_succ]
        refine AnyU.one 20 (by kernel_rfl) rfl (fun K hK => ?_)
        go_simp
        refine (hM1 k T ct _ h1d.rw (st p1 krd.2.2) hlt1).mono ?_; rintro e w21 ⟨T2, ct2, rfl, O1, BX⟩
        go_wp2_with fail
        have h2x := h2d.below BX (Nat.le_refl _)
        have hgl1 := (spd.nx BX).2
        have hgr3 := Nat.le_trans hgr2 (show w20.heap.size ≤ w21.heap.size from BX.size)
        have h3x := h3d.below BX (Nat.le_refl _)
        have h4x := h4d.below BX (Nat.le_refl _)
        have kr1 := krd.nx BX
        have sp1 := spd.nx BX
        refine hK.out _ _ (.inr ⟨kr1.1.cell 0, kr1.1.cell 1, kr1.1.cell 2, sp1.cell 0, sp1.cell 1, sp1.cell 2⟩) (fun hHeld => ?_)
        have hHeld := hHeld.resolve_left (by decide)
        clear hK K
        try simp only [List.setIfInBounds_toArray, List.set_cons_zero, List.set_cons_succ]
        refine AnyU.one 27 (by kernel_rfl) rfl (fun K hK => ?_)
        go_simp
        refine (hM2 k D cd _ h2x.rw (st p2 kr1.2.2) hlt2).mono ?_; rintro e w22 ⟨U2, cu2, rfl, O2, BX⟩
        go_wp2_with fail
        have O1 := O1.below BX (Nat.le_refl _)
        have h3y := h3x.below BX (Nat.le_refl _)
        have h4y := h4x.below BX (Nat.le_refl _)
        have kr2 := kr1.nx BX
        have sp2 := sp1.nx BX
        refine hK.out _ _ (.inr ⟨kr2.1.cell 0, kr2.1.cell 1, kr2.1.cell 2, sp2.cell 0, sp2.cell 1, sp2.cell 2⟩) (fun hHeld => ?_)
        have hHeld := hHeld.resolve_left (by decide)
        clear hK K
        try simp only [List.setIfInBounds_toArray, List.set_cons_zero, List.set_cons_succ]
        refine AnyU.next (i := 28) (v := ?_) hq hns hHeld rfl rfl (by kernel_rfl) (Or.inl ⟨by rfl, ?_⟩) ?_
        rotate_left
        · intro w' hSw; (try dsimp only at hSw); go_simp <;> with_reducible rfl
        try simp only [List.setIfInBounds_toArray, List.set_cons_zero, List.set_cons_succ]
        refine AnyU.next (i := 29) (v := ?_) hq hns hHeld rfl rfl (by kernel_rfl) (Or.inl ⟨by rfl, ?_⟩) ?_
        rotate_left
        · intro w' hSw; (try dsimp only at hSw); go_simp <;> with_reducible rfl
        try simp only [List.setIfInBounds_toArray, List.set_cons_zero, List.set_cons_succ]
        have f0 := sp2.frozen 0
        have f1 := sp2.frozen 1
        have f2 := sp2.frozen 2
        have i0 := sp2.cell 0
        have i1 := sp2.cell 1
        have i2 := sp2.cell 2
        refine AnyU.one 30 (by kernel_rfl) rfl (fun K hK => ?_)
        go_simp
        refine hK.out _ _ (.inl rfl) (fun _ => ?_)
        clear hK K
        try simp only [List.setIfInBounds_toArray, List.set_cons_zero, List.set_cons_succ]
        refine AnyU.done (by kernel_rfl) (hQK.out _ _ ?_)
        obtain ⟨W, hW⟩ : ∃ W, ((w22.setCell ⟨g, 0, none⟩ (.bool false)).setCell ⟨g, 1, none⟩ (.slice T2 (digs (qt (p (k + 1)))).length ct2)).setCell ⟨g, 2, none⟩ (.slice U2 (digs (qd (p (k + 1)))).length cu2) = W := ⟨_, rfl⟩
        have sp := sp2.put36 (.bool false) (.slice T2 (digs (qt (p (k + 1)))).length ct2) (.slice U2 (digs (qd (p (k + 1)))).length cu2)
        have kr := kr2.far3 hg (.bool false) (.slice T2 (digs (qt (p (k + 1)))).length ct2) (.slice U2 (digs (qd (p (k + 1)))).length cu2)
        have O1 := (O1.put3 (b := g) hgl (.bool false) (.slice T2 (digs (qt (p (k + 1)))).length ct2) (.slice U2 (digs (qd (p (k + 1)))).length cu2)).base_le hgr2
        have O2 := (O2.put3 (b := g) hgl1 (.bool false) (.slice T2 (digs (qt (p (k + 1)))).length ct2) (.slice U2 (digs (qd (p (k + 1)))).length cu2)).base_le hgr3
        have O3 := h3y.far3 hfA (.bool false) (.slice T2 (digs (qt (p (k + 1)))).length ct2) (.slice U2 (digs (qd (p (k + 1)))).length cu2)
        have O4 := h4y.far3 hfD (.bool false) (.slice T2 (digs (qt (p (k + 1)))).length ct2) (.slice U2 (digs (qd (p (k + 1)))).length cu2)
        rw [hW]
        unfold wr3 at sp kr O1 O2 O3 O4
        rw [hW] at sp kr O1 O2 O3 O4
        rw [show Value.bool false = .bool (qn (p (k + 1))) by rw [hsk]] at sp
        clear hsk hW h1 h2 h1d h2d h3d h4d h2x h3x h4x h3y h4y f0 f1 f2 i0 i1 i2 krd spd kr1 sp1 kr2 sp2 BD B20 hM1 hM2
        have j0 := sp.cell 0
        have j1 := sp.cell 1
        have j2 := sp.cell 2
        have j3 := sp.cell 3
        have j4 := sp.cell 4
        have j5 := sp.cell 5
        have hl := hLg (k + 1)
        by_cases hb : (digs (qt (p (k + 1)))).length ≤ 512 ∧ (digs (qd (p (k + 1)))).length ≤ 512
        · rw [decide_eq_true hb] at hl
          go_wp2_with fail
          refine (hl _ _ ⟨T2, ct2, U2, cu2, E1, e1, E2, e2, rfl, O1.rw, O2.rw, O3.rw, O4.rw⟩).mono ?_; rintro e w23 ⟨rfl, B23⟩
          have kk := kr.nx B23
          have sp := sp.nx B23
          have O1 := O1.below B23 (Nat.le_refl _)
          have O2 := O2.below B23 (Nat.le_refl _)
          have O3 := O3.below B23 (Nat.le_refl _)
          have O4 := O4.below B23 (Nat.le_refl _)
          go_wp2_with fail
          go_roundg (m - (k + 1))
          case measure => omega
          case rel => exact ⟨k + 1, T2, U2, ct2, cu2, by omega, rfl, by go_num, sp, O1, O2, O3, O4, Lib.hid (fun j hj => by
            by_cases hj2 : j ≤ k
            · exact hle.out j hj2
            · obtain rfl : j = k + 1 := by omega
              exact hb), kk⟩
        · rw [decide_eq_false hb] at hl
          have hans := hbig k hlt hb
          subst hans
          clear hbig hfit
          go_wp2_with fail
          refine (hl _ _ ⟨T2, ct2, U2, cu2, E1, e1, E2, e2, rfl, O1.rw, O2.rw, O3.rw, O4.rw⟩).mono ?_; rintro e w23 ⟨rfl, B23⟩
          have kk := kr.nx B23
          have sp := sp.nx B23
          have hRC := kk.2.1
          go_wp2_with (refine wp_st6 rfl (.tmp 4) (.tmp 78) rfl _ rfl _ _ _ _ _ _ rfl hRC rfl rfl rfl rfl rfl rfl ?_)
          have s6 := hRC.put6 (.bool false) (.slice none 0 0) (.slice none 0 0) (.bool false) (.slice none 0 0) (.slice none 0 0)
          have B6 := wr6_below (b := w.heap.size + 1) kk.2.2 (by omega) (.bool false) (.slice none 0 0) (.slice none 0 0) (.bool false) (.slice none 0 0) (.slice none 0 0)
          have r0' := s6.cell 0
          have r1' := s6.cell 1
          have r2' := s6.cell 2
          have r3' := s6.cell 3
          have r4' := s6.cell 4
          have r5' := s6.cell 5
          refine bodyPost_ret (v := .tuple #[.agg #[.bool false, .slice none 0 0, .slice none 0 0, .bool false, .slice none 0 0, .slice none 0 0], .int .i64 4]) (by simp [results, r0', r1', r2', r3', r4', r5', go_sem]) rfl ?_
          exact retNE_nil 4 B6
      | true =>
        cases sp_ with
        | true =>
          have hsk : qn (p (k + 1)) = false := by rw [hs1]; rfl
          clear hs1 hs2 hs3 hsg
          refine AnyU.regionQ 30 31 (fun w' => w'.cell? ⟨w.heap.size, 0, none⟩ = some (.bool true) ∧ w'.cell? ⟨w.heap.size, 1, none⟩ = some (.slice A1 (digs (qt x)).length c1) ∧ w'.cell? ⟨w.heap.size, 2, none⟩ = some (.slice D1 (digs (qd x)).length d1) ∧ w'.cell? ⟨g, 0, none⟩ = some (.bool true) ∧ w'.cell? ⟨g, 1, none⟩ = some (.slice T (digs (qt (p k))).length ct) ∧ w'.cell? ⟨g, 2, none⟩ = some (.slice D (digs (qd (p k))).length cd)) rfl (by kernel_rfl) (by kernel_rfl) (by repeat (first | refine quiet_then ?_ | refine quiet_block ?_ | exact quiet_body)) ⟨krd.1.cell 0, krd.1.cell 1, krd.1.cell 2, spd.cell 0, spd.cell 1, spd.cell 2⟩ (fun Q hQK hq hns hHeld => ?_)
          refine AnyU.next (i := 0) (v := ?_) hq hns hHeld rfl rfl (by kernel_rfl) (Or.inl ⟨by rfl, ?_⟩) ?_
          rotate_left
          · intro w' hSw; (try dsimp only at hSw); go_simp <;> with_reducible rfl
          try simp only [List.setIfInBounds_toArray, List.set_cons_zero, List.set_cons_succ]
          refine AnyU.next (i := 1) (v := ?_) hq hns hHeld rfl rfl (by kernel_rfl) (Or.inl ⟨by rfl, ?_⟩) ?_
          rotate_left
          · intro w' hSw; (try dsimp only at hSw); go_simp <;> with_reducible rfl
          try simp only [List.setIfInBounds_toArray, List.set_cons_zero, List.set_cons_succ]
          refine AnyU.next (i := 2) (v := ?_) hq hns hHeld rfl rfl (by kernel_rfl) (Or.inl ⟨by rfl, ?_⟩) ?_
          rotate_left
          · intro w' hSw; (try dsimp only at hSw); go_simp <;> with_reducible rfl
          try simp only [List.setIfInBounds_toArray, List.set_cons_zero, List.set_cons_succ]
          refine AnyU.next (i := 3) (v := ?_) hq hns hHeld rfl rfl (by kernel_rfl) (Or.inl ⟨by rfl, ?_⟩) ?_
          rotate_left
          · intro w' hSw; (try dsimp only at hSw); go_simp <;> with_reducible rfl
          try simp only [List.setIfInBounds_toArray, List.set_cons_zero, List.set_cons_succ]
          refine AnyU.next (i := 4) (v := ?_) hq hns hHeld rfl rfl (by kernel_rfl) (Or.inl ⟨by rfl, ?_⟩) ?_
          rotate_left
          · intro w' hSw; (try dsimp only at hSw); go_simp <;> with_reducible rfl
          try simp only [List.setIfInBounds_toArray, List.set_cons_zero, List.set_cons_succ]
          refine AnyU.next (i := 5) (v := ?_) hq hns hHeld rfl rfl (by kernel_rfl) (Or.inl ⟨by rfl, ?_⟩) ?_
          rotate_left
          · intro w' hSw; (try dsimp only at hSw); go_simp <;> with_reducible rfl
          try simp only [List.setIfInBounds_toArray, List.set_cons_zero, List.set_cons_succ]
          refine AnyU.next (i := 6) (v := ?_) hq hns hHeld rfl rfl (by kernel_rfl) (Or.inl ⟨by rfl, ?_⟩) ?_
          rotate_left
          · intro w' hSw; (try dsimp only at hSw); go_simp <;> with_reducible rfl
          try simp only [List.setIfInBounds_toArray, List.set_cons_zero, List.set_cons_succ]
          refine AnyU.next (i := 7) (v := ?_) hq hns hHeld rfl rfl (by kernel_rfl) (Or.inl ⟨by rfl, ?_⟩) ?_
          rotate_left
          · intro w' hSw; (try dsimp only at hSw); go_simp <;> with_reducible rfl
          try simp only [List.setIfInBounds_toArray, List.set_cons_zero, List.set_cons_succ]
          refine AnyU.next (i := 8) (v := undef) hq hns hHeld rfl rfl (by kernel_rfl) (Or.inr ⟨by kernel_rfl, rfl⟩) ?_
          try simp only [List.setIfInBounds_toArray, List.set_cons_zero, List.set_cons_succ]
          refine AnyU.next (i := 9) (v := undef) hq hns hHeld rfl rfl (by kernel_rfl) (Or.inr ⟨by kernel_rfl, rfl⟩) ?_
          try simp only [List.setIfInBounds_toArray, List.set_cons_zero, List.set_cons_succ]
          refine AnyU.next (i := 10) (v := undef) hq hns hHeld rfl rfl (by kernel_rfl) (Or.inr ⟨by kernel_rfl, rfl⟩) ?_
          try simp only [List.setIfInBounds_toArray, List.set_cons_zero, List.set_cons_succ]
          refine AnyU.next (i := 11) (v := undef) hq hns hHeld rfl rfl (by kernel_rfl) (Or.inr ⟨by kernel_rfl, rfl⟩) ?_
          try simp only [List.setIfInBounds_toArray, List.set_cons_zero, List.set_cons_succ]
          refine AnyU.next (i := 12) (v := undef) hq hns hHeld rfl rfl (by kernel_rfl) (Or.inr ⟨by kernel_rfl, rfl⟩) ?_
          try simp only [List.setIfInBounds_toArray, List.set_cons_zero, List.set_cons_succ]
          refine AnyU.next (i := 13) (v := ?_) hq hns hHeld rfl rfl (by kernel_rfl) (Or.inl ⟨by rfl, ?_⟩) ?_
          rotate_left
          · intro w' hSw; (try dsimp only at hSw); go_simp <;> with_reducible rfl
          try simp only [List.setIfInBounds_toArray, List.set_cons_zero, List.set_cons_succ]
          refine AnyU.next (i := 14) (v := ?_) hq hns hHeld rfl rfl (by kernel_rfl) (Or.inl ⟨by rfl, ?_⟩) ?_
          rotate_left
          · intro w' hSw; (try dsimp only at hSw); go_simp <;> with_reducible rfl
          try simp only [List.setIfInBounds_toArray, List.set_cons_zero, List.set_cons_succ]
          refine AnyU.next (i := 15) (v := ?_) hq hns hHeld rfl rfl (by kernel_rfl) (Or.inl ⟨by rfl, ?_⟩) ?_
          rotate_left
          · intro w' hSw; (try dsimp only at hSw); go_simp <;> with_reducible rfl
          try simp only [List.setIfInBounds_toArray, List.set_cons_zero, List.set_cons_succ]
          refine AnyU.next (i := 16) (v := ?_) hq hns hHeld rfl rfl (by kernel_rfl) (Or.inl ⟨by rfl, ?_⟩) ?_
          rotate_left
          · intro w' hSw; (try dsimp only at hSw); go_simp <;> with_reducible rfl
          try simp only [List.setIfInBounds_toArray, List.set_cons_zero, List.set_cons_succ]
          refine AnyU.next (i := 17) (v := ?_) hq hns hHeld rfl rfl (by kernel_rfl) (Or.inl ⟨by rfl, ?_⟩) ?_
          rotate_left
          · intro w' hSw; (try dsimp only at hSw); go_simp <;> with_reducible rfl
          try simp only [List.setIfInBounds_toArray, List.set_cons_zero, List.set_cons_succ]
          refine AnyU.next (i := 18) (v := ?_) hq hns hHeld rfl rfl (by kernel_rfl) (Or.inl ⟨by rfl, ?_⟩) ?_
          rotate_left
          · intro w' hSw; (try dsimp only at hSw); go_simp <;> with_reducible rfl
          try simp only [List.setIfInBounds_toArray, List.set_cons_zero, List.set_cons_succ]
          refine AnyU.next (i := 19) (v := ?_) hq hns hHeld rfl rfl (by kernel_rfl) (Or.inl ⟨by rfl, ?_⟩) ?_
          rotate_left
          · intro w' hSw; (try dsimp only at hSw); go_simp <;> with_reducible rfl
          try simp only [List.setIfInBounds_toArray, List.set_cons_zero, List.set_cons_succ]
          refine AnyU.next (i := 21) (v := ?_) hq hns hHeld rfl rfl (by kernel_rfl) (Or.inl ⟨by rfl, ?_⟩) ?_
          rotate_left
          · intro w' hSw; (try dsimp only at hSw); go_simp <;> with_reducible rfl
          try simp only [List.setIfInBounds_toArray, List.set_cons_zero, List.set_cons_succ]
          refine AnyU.next (i := 22) (v := ?_) hq hns hHeld rfl rfl (by kernel_rfl) (Or.inl ⟨by rfl, ?_⟩) ?_
          rotate_left
          · intro w' hSw; (try dsimp only at hSw); go_simp <;> with_reducible rfl
          try simp only [List.setIfInBounds_toArray, List.set_cons_zero, List.set_cons_succ]
          refine AnyU.next (i := 23) (v := ?_) hq hns hHeld rfl rfl (by kernel_rfl) (Or.inl ⟨by rfl, ?_⟩) ?_
          rotate_left
          · intro w' hSw; (try dsimp only at hSw); go_simp <;> with_reducible rfl
          try simp only [List.setIfInBounds_toArray, List.set_cons_zero, List.set_cons_succ]
          refine AnyU.next (i := 24) (v := ?_) hq hns hHeld rfl rfl (by kernel_rfl) (Or.inl ⟨by rfl, ?_⟩) ?_
          rotate_left
          · intro w' hSw; (try dsimp only at hSw); go_simp <;> with_reducible rfl
          try simp only [List.setIfInBounds_toArray, List.set_cons_zero, List.set_cons_succ]
          refine AnyU.next (i := 25) (v := ?_) hq hns hHeld rfl rfl (by kernel_rfl) (Or.inl ⟨by rfl, ?_⟩) ?_
          rotate_left
          · intro w' hSw; (try dsimp only at hSw); go_simp <;> with_reducible rfl
          try simp only [List.setIfInBounds_toArray, List.set_cons_zero, List.set_cons_succ]
          refine AnyU.next (i := 26) (v := ?_) hq hns hHeld rfl rfl (by kernel_rfl) (Or.inl ⟨by rfl, ?_⟩) ?_
          rotate_left
          · intro w' hSw; (try dsimp only at hSw); go_simp <;> with_reducible rfl
          try simp only [List.setIfInBounds_toArray, List.set_cons_zero, List.set_cons_succ]
          refine AnyU.one 20 (by kernel_rfl) rfl (fun K hK => ?_)
          go_simp
          refine (hM1 k T ct _ h1d.rw (st p1 krd.2.2) hlt1).mono ?_; rintro e w21 ⟨T2, ct2, rfl, O1, BX⟩
          go_wp2_with fail
          have h2x := h2d.below BX (Nat.le_refl _)
          have hgl1 := (spd.nx BX).2
          have hgr3 := Nat.le_trans hgr2 (show w20.heap.size ≤ w21.heap.size from BX.size)
          have h3x := h3d.below BX (Nat.le_refl _)
          have h4x := h4d.below BX (Nat.le_refl _)
          have kr1 := krd.nx BX
          have sp1 := spd.nx BX
          refine hK.out _ _ (.inr ⟨kr1.1.cell 0, kr1.1.cell 1, kr1.1.cell 2, sp1.cell 0, sp1.cell 1, sp1.cell 2⟩) (fun hHeld => ?_)
          have hHeld := hHeld.resolve_left (by decide)
          clear hK K
          try simp only [List.setIfInBounds_toArray, List.set_cons_zero, List.set_cons_succ]
          refine AnyU.one 27 (by kernel_rfl) rfl (fun K hK => ?_)
          go_simp
          refine (hM2 k D cd _ h2x.rw (st p2 kr1.2.2) hlt2).mono ?_; rintro e w22 ⟨U2, cu2, rfl, O2, BX⟩
          go_wp2_with fail
          have O1 := O1.below BX (Nat.le_refl _)
          have h3y := h3x.below BX (Nat.le_refl _)
          have h4y := h4x.below BX (Nat.le_refl _)
          have kr2 := kr1.nx BX
          have sp2 := sp1.nx BX
          refine hK.out _ _ (.inr ⟨kr2.1.cell 0, kr2.1.cell 1, kr2.1.cell 2, sp2.cell 0, sp2.cell 1, sp2.cell 2⟩) (fun hHeld => ?_)
          have hHeld := hHeld.resolve_left (by decide)
          clear hK K
          try simp only [List.setIfInBounds_toArray, List.set_cons_zero, List.set_cons_succ]
          refine AnyU.next (i := 28) (v := ?_) hq hns hHeld rfl rfl (by kernel_rfl) (Or.inl ⟨by rfl, ?_⟩) ?_
          rotate_left
          · intro w' hSw; (try dsimp only at hSw); go_simp <;> with_reducible rfl
          try simp only [List.setIfInBounds_toArray, List.set_cons_zero, List.set_cons_succ]
          refine AnyU.next (i := 29) (v := ?_) hq hns hHeld rfl rfl (by kernel_rfl) (Or.inl ⟨by rfl, ?_⟩) ?_
          rotate_left
          · intro w' hSw; (try dsimp only at hSw); go_simp <;> with_reducible rfl
          try simp only [List.setIfInBounds_toArray, List.set_cons_zero, List.set_cons_succ]
          have f0 := sp2.frozen 0
          have f1 := sp2.frozen 1
          have f2 := sp2.frozen 2
          have i0 := sp2.cell 0
          have i1 := sp2.cell 1
          have i2 := sp2.cell 2
          refine AnyU.one 30 (by kernel_rfl) rfl (fun K hK => ?_)
          go_simp
          refine hK.out _ _ (.inl rfl) (fun _ => ?_)
          clear hK K
          try simp only [List.setIfInBounds_toArray, List.set_cons_zero, List.set_cons_succ]
          refine AnyU.done (by kernel_rfl) (hQK.out _ _ ?_)
          obtain ⟨W, hW⟩ : ∃ W, ((w22.setCell ⟨g, 0, none⟩ (.bool false)).setCell ⟨g, 1, none⟩ (.slice T2 (digs (qt (p (k + 1)))).length ct2)).setCell ⟨g, 2, none⟩ (.slice U2 (digs (qd (p (k + 1)))).length cu2) = W := ⟨_, rfl⟩
          have sp := sp2.put36 (.bool false) (.slice T2 (digs (qt (p (k + 1)))).length ct2) (.slice U2 (digs (qd (p (k + 1)))).length cu2)
          have kr := kr2.far3 hg (.bool false) (.slice T2 (digs (qt (p (k + 1)))).length ct2) (.slice U2 (digs (qd (p (k + 1)))).length cu2)
          have O1 := (O1.put3 (b := g) hgl (.bool false) (.slice T2 (digs (qt (p (k + 1)))).length ct2) (.slice U2 (digs (qd (p (k + 1)))).length cu2)).base_le hgr2
          have O2 := (O2.put3 (b := g) hgl1 (.bool false) (.slice T2 (digs (qt (p (k + 1)))).length ct2) (.slice U2 (digs (qd (p (k + 1)))).length cu2)).base_le hgr3
          have O3 := h3y.far3 hfA (.bool false) (.slice T2 (digs (qt (p (k + 1)))).length ct2) (.slice U2 (digs (qd (p (k + 1)))).length cu2)
          have O4 := h4y.far3 hfD (.bool false) (.slice T2 (digs (qt (p (k + 1)))).length ct2) (.slice U2 (digs (qd (p (k + 1)))).length cu2)
          rw [hW]
          unfold wr3 at sp kr O1 O2 O3 O4
          rw [hW] at sp kr O1 O2 O3 O4
          rw [show Value.bool false = .bool (qn (p (k + 1))) by rw [hsk]] at sp
          clear hsk hW h1 h2 h1d h2d h3d h4d h2x h3x h4x h3y h4y f0 f1 f2 i0 i1 i2 krd spd kr1 sp1 kr2 sp2 BD B20 hM1 hM2
          have j0 := sp.cell 0
          have j1 := sp.cell 1
          have j2 := sp.cell 2
          have j3 := sp.cell 3
          have j4 := sp.cell 4
          have j5 := sp.cell 5
          have hl := hLg (k + 1)
          by_cases hb : (digs (qt (p (k + 1)))).length ≤ 512 ∧ (digs (qd (p (k + 1)))).length ≤ 512
          · rw [decide_eq_true hb] at hl
            go_wp2_with fail
            refine (hl _ _ ⟨T2, ct2, U2, cu2, E1, e1, E2, e2, rfl, O1.rw, O2.rw, O3.rw, O4.rw⟩).mono ?_; rintro e w23 ⟨rfl, B23⟩
            have kk := kr.nx B23
            have sp := sp.nx B23
            have O1 := O1.below B23 (Nat.le_refl _)
            have O2 := O2.below B23 (Nat.le_refl _)
            have O3 := O3.below B23 (Nat.le_refl _)
            have O4 := O4.below B23 (Nat.le_refl _)
            go_wp2_with fail
            go_roundg (m - (k + 1))
            case measure => omega
            case rel => exact ⟨k + 1, T2, U2, ct2, cu2, by omega, rfl, by go_num, sp, O1, O2, O3, O4, Lib.hid (fun j hj => by
            by_cases hj2 : j ≤ k
            · exact hle.out j hj2
            · obtain rfl : j = k + 1 := by omega
              exact hb), kk⟩
          · rw [decide_eq_false hb] at hl
            have hans := hbig k hlt hb
            subst hans
            clear hbig hfit
            go_wp2_with fail
            refine (hl _ _ ⟨T2, ct2, U2, cu2, E1, e1, E2, e2, rfl, O1.rw, O2.rw, O3.rw, O4.rw⟩).mono ?_; rintro e w23 ⟨rfl, B23⟩
            have kk := kr.nx B23
            have sp := sp.nx B23
            have hRC := kk.2.1
            go_wp2_with (refine wp_st6 rfl (.tmp 4) (.tmp 78) rfl _ rfl _ _ _ _ _ _ rfl hRC rfl rfl rfl rfl rfl rfl ?_)
            have s6 := hRC.put6 (.bool false) (.slice none 0 0) (.slice none 0 0) (.bool false) (.slice none 0 0) (.slice none 0 0)
            have B6 := wr6_below (b := w.heap.size + 1) kk.2.2 (by omega) (.bool false) (.slice none 0 0) (.slice none 0 0) (.bool false) (.slice none 0 0) (.slice none 0 0)
            have r0' := s6.cell 0
            have r1' := s6.cell 1
            have r2' := s6.cell 2
            have r3' := s6.cell 3
            have r4' := s6.cell 4
            have r5' := s6.cell 5
            refine bodyPost_ret (v := .tuple #[.agg #[.bool false, .slice none 0 0, .slice none 0 0, .bool false, .slice none 0 0, .slice none 0 0], .int .i64 4]) (by simp [results, r0', r1', r2', r3', r4', r5', go_sem]) rfl ?_
            exact retNE_nil 4 B6
        | false =>
          have hsk : qn (p (k + 1)) = true := by rw [hs1]; rfl
          have hlen := hs2 (by decide)
          have hgt : (0 : Int) < ((digs (qt x)).length : Int) := by omega
          clear hs1 hs2 hs3 hsg
          refine AnyU.regionQ 30 31 (fun w' => w'.cell? ⟨w.heap.size, 0, none⟩ = some (.bool true) ∧ w'.cell? ⟨w.heap.size, 1, none⟩ = some (.slice A1 (digs (qt x)).length c1) ∧ w'.cell? ⟨w.heap.size, 2, none⟩ = some (.slice D1 (digs (qd x)).length d1) ∧ w'.cell? ⟨g, 0, none⟩ = some (.bool false) ∧ w'.cell? ⟨g, 1, none⟩ = some (.slice T (digs (qt (p k))).length ct) ∧ w'.cell? ⟨g, 2, none⟩ = some (.slice D (digs (qd (p k))).length cd)) rfl (by kernel_rfl) (by kernel_rfl) (by repeat (first | refine quiet_then ?_ | refine quiet_block ?_ | exact quiet_body)) ⟨krd.1.cell 0, krd.1.cell 1, krd.1.cell 2, spd.cell 0, spd.cell 1, spd.cell 2⟩ (fun Q hQK hq hns hHeld => ?_)
          refine AnyU.next (i := 0) (v := ?_) hq hns hHeld rfl rfl (by kernel_rfl) (Or.inl ⟨by rfl, ?_⟩) ?_
          rotate_left
          · intro w' hSw; (try dsimp only at hSw); go_simp <;> with_reducible rfl
          try simp only [List.setIfInBounds_toArray, List.set_cons_zero, List.set_cons_succ]
          refine AnyU.next (i := 1) (v := ?_) hq hns hHeld rfl rfl (by kernel_rfl) (Or.inl ⟨by rfl, ?_⟩) ?_
          rotate_left
          · intro w' hSw; (try dsimp only at hSw); go_simp <;> with_reducible rfl
          try simp only [List.setIfInBounds_toArray, List.set_cons_zero, List.set_cons_succ]
          refine AnyU.next (i := 2) (v := ?_) hq hns hHeld rfl rfl (by kernel_rfl) (Or.inl ⟨by rfl, ?_⟩) ?_
          rotate_left
          · intro w' hSw; (try dsimp only at hSw); go_simp <;> with_reducible rfl
          try simp only [List.setIfInBounds_toArray, List.set_cons_zero, List.set_cons_succ]
          refine AnyU.next (i := 3) (v := ?_) hq hns hHeld rfl rfl (by kernel_rfl) (Or.inl ⟨by rfl, ?_⟩) ?_
          rotate_left
          · intro w' hSw; (try dsimp only at hSw); go_simp <;> with_reducible rfl
          try simp only [List.setIfInBounds_toArray, List.set_cons_zero, List.set_cons_succ]
          refine AnyU.next (i := 4) (v := ?_) hq hns hHeld rfl rfl (by kernel_rfl) (Or.inl ⟨by rfl, ?_⟩) ?_
          rotate_left
          · intro w' hSw; (try dsimp only at hSw); go_simp <;> with_reducible rfl
          try simp only [List.setIfInBounds_toArray, List.set_cons_zero, List.set_cons_succ]
          refine AnyU.next (i := 5) (v := ?_) hq hns hHeld rfl rfl (by kernel_rfl) (Or.inl ⟨by rfl, ?_⟩) ?_
          rotate_left
          · intro w' hSw; (try dsimp only at hSw); go_simp <;> with_reducible rfl
          try simp only [List.setIfInBounds_toArray, List.set_cons_zero, List.set_cons_succ]
          refine AnyU.next (i := 6) (v := ?_) hq hns hHeld rfl rfl (by kernel_rfl) (Or.inl ⟨by rfl, ?_⟩) ?_
          rotate_left
          · intro w' hSw; (try dsimp only at hSw); go_simp <;> with_reducible rfl
          try simp only [List.setIfInBounds_toArray, List.set_cons_zero, List.set_cons_succ]
          refine AnyU.next (i := 7) (v := ?_) hq hns hHeld rfl rfl (by kernel_rfl) (Or.inl ⟨by rfl, ?_⟩) ?_
          rotate_left
          · intro w' hSw; (try dsimp only at hSw); go_simp <;> with_reducible rfl
          try simp only [List.setIfInBounds_toArray, List.set_cons_zero, List.set_cons_succ]
          refine AnyU.next (i := 8) (v := ?_) hq hns hHeld rfl rfl (by kernel_rfl) (Or.inl ⟨by rfl, ?_⟩) ?_
          rotate_left
          · intro w' hSw; (try dsimp only at hSw); go_simp <;> with_reducible rfl
          try simp only [List.setIfInBounds_toArray, List.set_cons_zero, List.set_cons_succ]
          refine AnyU.next (i := 9) (v := ?_) hq hns hHeld rfl rfl (by kernel_rfl) (Or.inl ⟨by rfl, ?_⟩) ?_
          rotate_left
          · intro w' hSw; (try dsimp only at hSw); go_simp <;> with_reducible rfl
          try simp only [List.setIfInBounds_toArray, List.set_cons_zero, List.set_cons_succ]
          refine AnyU.next (i := 10) (v := ?_) hq hns hHeld rfl rfl (by kernel_rfl) (Or.inl ⟨by rfl, ?_⟩) ?_
          rotate_left
          · intro w' hSw; (try dsimp only at hSw); go_simp <;> with_reducible rfl
          try simp only [List.setIfInBounds_toArray, List.set_cons_zero, List.set_cons_succ]
          refine AnyU.next (i := 11) (v := ?_) hq hns hHeld rfl rfl (by kernel_rfl) (Or.inl ⟨by rfl, ?_⟩) ?_
          rotate_left
          · intro w' hSw; (try dsimp only at hSw); go_simp <;> with_reducible rfl
          try simp only [List.setIfInBounds_toArray, List.set_cons_zero, List.set_cons_succ]
          refine AnyU.next (i := 12) (v := ?_) hq hns hHeld rfl rfl (by kernel_rfl) (Or.inl ⟨by rfl, ?_⟩) ?_
          rotate_left
          · intro w' hSw; (try dsimp only at hSw); go_simp <;> with_reducible rfl
          try simp only [List.setIfInBounds_toArray, List.set_cons_zero, List.set_cons_succ]
          refine AnyU.next (i := 13) (v := ?_) hq hns hHeld rfl rfl (by kernel_rfl) (Or.inl ⟨by rfl, ?_⟩) ?_
          rotate_left
          · intro w' hSw; (try dsimp only at hSw); go_simp <;> with_reducible rfl
          try simp only [List.setIfInBounds_toArray, List.set_cons_zero, List.set_cons_succ]
          refine AnyU.next (i := 14) (v := ?_) hq hns hHeld rfl rfl (by kernel_rfl) (Or.inl ⟨by rfl, ?_⟩) ?_
          rotate_left
          · intro w' hSw; (try dsimp only at hSw); go_simp <;> with_reducible rfl
          try simp only [List.setIfInBounds_toArray, List.set_cons_zero, List.set_cons_succ]
          refine AnyU.next (i := 15) (v := ?_) hq hns hHeld rfl rfl (by kernel_rfl) (Or.inl ⟨by rfl, ?_⟩) ?_
          rotate_left
          · intro w' hSw; (try dsimp only at hSw); go_simp <;> with_reducible rfl
          try simp only [List.setIfInBounds_toArray, List.set_cons_zero, List.set_cons_succ]
          refine AnyU.next (i := 16) (v := ?_) hq hns hHeld rfl rfl (by kernel_rfl) (Or.inl ⟨by rfl, ?_⟩) ?_
          rotate_left
          · intro w' hSw; (try dsimp only at hSw); go_simp <;> with_reducible rfl
          try simp only [List.setIfInBounds_toArray, List.set_cons_zero, List.set_cons_succ]
          refine AnyU.next (i := 17) (v := ?_) hq hns hHeld rfl rfl (by kernel_rfl) (Or.inl ⟨by rfl, ?_⟩) ?_
          rotate_left
          · intro w' hSw; (try dsimp only at hSw); go_simp <;> with_reducible rfl
          try simp only [List.setIfInBounds_toArray, List.set_cons_zero, List.set_cons_succ]
          refine AnyU.next (i := 18) (v := ?_) hq hns hHeld rfl rfl (by kernel_rfl) (Or.inl ⟨by rfl, ?_⟩) ?_
          rotate_left
          · intro w' hSw; (try dsimp only at hSw); go_simp <;> with_reducible rfl
          try simp only [List.setIfInBounds_toArray, List.set_cons_zero, List.set_cons_succ]
          refine AnyU.next (i := 19) (v := ?_) hq hns hHeld rfl rfl (by kernel_rfl) (Or.inl ⟨by rfl, ?_⟩) ?_
          rotate_left
          · intro w' hSw; (try dsimp only at hSw); go_simp <;> with_reducible rfl
          try simp only [List.setIfInBounds_toArray, List.set_cons_zero, List.set_cons_succ]
          refine AnyU.next (i := 21) (v := ?_) hq hns hHeld rfl rfl (by kernel_rfl) (Or.inl ⟨by rfl, ?_⟩) ?_
          rotate_left
          · intro w' hSw; (try dsimp only at hSw); go_simp <;> with_reducible rfl
          try simp only [List.setIfInBounds_toArray, List.set_cons_zero, List.set_cons_succ]
          refine AnyU.next (i := 22) (v := ?_) hq hns hHeld rfl rfl (by kernel_rfl) (Or.inl ⟨by rfl, ?_⟩) ?_
          rotate_left
          · intro w' hSw; (try dsimp only at hSw); go_simp <;> with_reducible rfl
          try simp only [List.setIfInBounds_toArray, List.set_cons_zero, List.set_cons_succ]
          refine AnyU.next (i := 23) (v := ?_) hq hns hHeld rfl rfl (by kernel_rfl) (Or.inl ⟨by rfl, ?_⟩) ?_
          rotate_left
          · intro w' hSw; (try dsimp only at hSw); go_simp <;> with_reducible rfl
          try simp only [List.setIfInBounds_toArray, List.set_cons_zero, List.set_cons_succ]
          refine AnyU.next (i := 24) (v := ?_) hq hns hHeld rfl rfl (by kernel_rfl) (Or.inl ⟨by rfl, ?_⟩) ?_
          rotate_left
          · intro w' hSw; (try dsimp only at hSw); go_simp <;> with_reducible rfl
          try simp only [List.setIfInBounds_toArray, List.set_cons_zero, List.set_cons_succ]
          refine AnyU.next (i := 25) (v := ?_) hq hns hHeld rfl rfl (by kernel_rfl) (Or.inl ⟨by rfl, ?_⟩) ?_
          rotate_left
          · intro w' hSw; (try dsimp only at hSw); go_simp <;> with_reducible rfl
          try simp only [List.setIfInBounds_toArray, List.set_cons_zero, List.set_cons_succ]
          refine AnyU.next (i := 26) (v := ?_) hq hns hHeld rfl rfl (by kernel_rfl) (Or.inl ⟨by rfl, ?_⟩) ?_
          rotate_left
          · intro w' hSw; (try dsimp only at hSw); go_simp <;> with_reducible rfl
          try simp only [List.setIfInBounds_toArray, List.set_cons_zero, List.set_cons_succ]
          refine AnyU.one 20 (by kernel_rfl) rfl (fun K hK => ?_)
          go_simp
          refine (hM1 k T ct _ h1d.rw (st p1 krd.2.2) hlt1).mono ?_; rintro e w21 ⟨T2, ct2, rfl, O1, BX⟩
          go_wp2_with fail
          have h2x := h2d.below BX (Nat.le_refl _)
          have hgl1 := (spd.nx BX).2
          have hgr3 := Nat.le_trans hgr2 (show w20.heap.size ≤ w21.heap.size from BX.size)
          have h3x := h3d.below BX (Nat.le_refl _)
          have h4x := h4d.below BX (Nat.le_refl _)
          have kr1 := krd.nx BX
          have sp1 := spd.nx BX
          refine hK.out _ _ (.inr ⟨kr1.1.cell 0, kr1.1.cell 1, kr1.1.cell 2, sp1.cell 0, sp1.cell 1, sp1.cell 2⟩) (fun hHeld => ?_)
          have hHeld := hHeld.resolve_left (by decide)
          clear hK K
          try simp only [List.setIfInBounds_toArray, List.set_cons_zero, List.set_cons_succ]
          refine AnyU.one 27 (by kernel_rfl) rfl (fun K hK => ?_)
          go_simp
          refine (hM2 k D cd _ h2x.rw (st p2 kr1.2.2) hlt2).mono ?_; rintro e w22 ⟨U2, cu2, rfl, O2, BX⟩
          go_wp2_with fail
          have O1 := O1.below BX (Nat.le_refl _)
          have h3y := h3x.below BX (Nat.le_refl _)
          have h4y := h4x.below BX (Nat.le_refl _)
          have kr2 := kr1.nx BX
          have sp2 := sp1.nx BX
          refine hK.out _ _ (.inr ⟨kr2.1.cell 0, kr2.1.cell 1, kr2.1.cell 2, sp2.cell 0, sp2.cell 1, sp2.cell 2⟩) (fun hHeld => ?_)
          have hHeld := hHeld.resolve_left (by decide)
          clear hK K
          try simp only [List.setIfInBounds_toArray, List.set_cons_zero, List.set_cons_succ]
          refine AnyU.next (i := 28) (v := ?_) hq hns hHeld rfl rfl (by kernel_rfl) (Or.inl ⟨by rfl, ?_⟩) ?_
          rotate_left
          · intro w' hSw; (try dsimp only at hSw); go_simp <;> with_reducible rfl
          try simp only [List.setIfInBounds_toArray, List.set_cons_zero, List.set_cons_succ]
          refine AnyU.next (i := 29) (v := ?_) hq hns hHeld rfl rfl (by kernel_rfl) (Or.inl ⟨by rfl, ?_⟩) ?_
          rotate_left
          · intro w' hSw; (try dsimp only at hSw); go_simp <;> with_reducible rfl
          try simp only [List.setIfInBounds_toArray, List.set_cons_zero, List.set_cons_succ]
          have f0 := sp2.frozen 0
          have f1 := sp2.frozen 1
          have f2 := sp2.frozen 2
          have i0 := sp2.cell 0
          have i1 := sp2.cell 1
          have i2 := sp2.cell 2
          refine AnyU.one 30 (by kernel_rfl) rfl (fun K hK => ?_)
          go_simp
          refine hK.out _ _ (.inl rfl) (fun _ => ?_)
          clear hK K
          try simp only [List.setIfInBounds_toArray, List.set_cons_zero, List.set_cons_succ]
          refine AnyU.done (by kernel_rfl) (hQK.out _ _ ?_)
          obtain ⟨W, hW⟩ : ∃ W, ((w22.setCell ⟨g, 0, none⟩ (.bool true)).setCell ⟨g, 1, none⟩ (.slice T2 (digs (qt (p (k + 1)))).length ct2)).setCell ⟨g, 2, none⟩ (.slice U2 (digs (qd (p (k + 1)))).length cu2) = W := ⟨_, rfl⟩
          have sp := sp2.put36 (.bool true) (.slice T2 (digs (qt (p (k + 1)))).length ct2) (.slice U2 (digs (qd (p (k + 1)))).length cu2)
          have kr := kr2.far3 hg (.bool true) (.slice T2 (digs (qt (p (k + 1)))).length ct2) (.slice U2 (digs (qd (p (k + 1)))).length cu2)
          have O1 := (O1.put3 (b := g) hgl (.bool true) (.slice T2 (digs (qt (p (k + 1)))).length ct2) (.slice U2 (digs (qd (p (k + 1)))).length cu2)).base_le hgr2
          have O2 := (O2.put3 (b := g) hgl1 (.bool true) (.slice T2 (digs (qt (p (k + 1)))).length ct2) (.slice U2 (digs (qd (p (k + 1)))).length cu2)).base_le hgr3
          have O3 := h3y.far3 hfA (.bool true) (.slice T2 (digs (qt (p (k + 1)))).length ct2) (.slice U2 (digs (qd (p (k + 1)))).length cu2)
          have O4 := h4y.far3 hfD (.bool true) (.slice T2 (digs (qt (p (k + 1)))).length ct2) (.slice U2 (digs (qd (p (k + 1)))).length cu2)
          rw [hW]
          unfold wr3 at sp kr O1 O2 O3 O4
          rw [hW] at sp kr O1 O2 O3 O4
          rw [show Value.bool true = .bool (qn (p (k + 1))) by rw [hsk]] at sp
          clear hsk hW h1 h2 h1d h2d h3d h4d h2x h3x h4x h3y h4y f0 f1 f2 i0 i1 i2 krd spd kr1 sp1 kr2 sp2 BD B20 hM1 hM2
          have j0 := sp.cell 0
          have j1 := sp.cell 1
          have j2 := sp.cell 2
          have j3 := sp.cell 3
          have j4 := sp.cell 4
          have j5 := sp.cell 5
          have hl := hLg (k + 1)
          by_cases hb : (digs (qt (p (k + 1)))).length ≤ 512 ∧ (digs (qd (p (k + 1)))).length ≤ 512
          · rw [decide_eq_true hb] at hl
            go_wp2_with fail
            refine (hl _ _ ⟨T2, ct2, U2, cu2, E1, e1, E2, e2, rfl, O1.rw, O2.rw, O3.rw, O4.rw⟩).mono ?_; rintro e w23 ⟨rfl, B23⟩
            have kk := kr.nx B23
            have sp := sp.nx B23
            have O1 := O1.below B23 (Nat.le_refl _)
            have O2 := O2.below B23 (Nat.le_refl _)
            have O3 := O3.below B23 (Nat.le_refl _)
            have O4 := O4.below B23 (Nat.le_refl _)
            go_wp2_with fail
            go_roundg (m - (k + 1))
            case measure => omega
            case rel => exact ⟨k + 1, T2, U2, ct2, cu2, by omega, rfl, by go_num, sp, O1, O2, O3, O4, Lib.hid (fun j hj => by
            by_cases hj2 : j ≤ k
            · exact hle.out j hj2
            · obtain rfl : j = k + 1 := by omega
              exact hb), kk⟩
          · rw [decide_eq_false hb] at hl
            have hans := hbig k hlt hb
            subst hans
            clear hbig hfit
            go_wp2_with fail
            refine (hl _ _ ⟨T2, ct2, U2, cu2, E1, e1, E2, e2, rfl, O1.rw, O2.rw, O3.rw, O4.rw⟩).mono ?_; rintro e w23 ⟨rfl, B23⟩
            have kk := kr.nx B23
            have sp := sp.nx B23
            have hRC := kk.2.1
            go_wp2_with (refine wp_st6 rfl (.tmp 4) (.tmp 78) rfl _ rfl _ _ _ _ _ _ rfl hRC rfl rfl rfl rfl rfl rfl ?_)
            have s6 := hRC.put6 (.bool false) (.slice none 0 0) (.slice none 0 0) (.bool false) (.slice none 0 0) (.slice none 0 0)
            have B6 := wr6_below (b := w.heap.size + 1) kk.2.2 (by omega) (.bool false) (.slice none 0 0) (.slice none 0 0) (.bool false) (.slice none 0 0) (.slice none 0 0)
            have r0' := s6.cell 0
            have r1' := s6.cell 1
            have r2' := s6.cell 2
            have r3' := s6.cell 3
            have r4' := s6.cell 4
            have r5' := s6.cell 5
            refine bodyPost_ret (v := .tuple #[.agg #[.bool false, .slice none 0 0, .slice none 0 0, .bool false, .slice none 0 0, .slice none 0 0], .int .i64 4]) (by simp [results, r0', r1', r2', r3', r4', r5', go_sem]) rfl ?_
            exact retNE_nil 4 B6
    · have hkm' : k = m := by omega
      have hbm := hle.out k (Nat.le_refl _)
      clear hlt hm1 hkm
      subst hkm'
      have hans := hfit (fun j h1 => hle.out j h1)
      subst hans
      clear hbig hfit hle hLg hM1 hM2
      have hgr : w.heap.size + 2 ≤ wr.heap.size := by have := sp.2; omega
      have j0 := sp.cell 0
      have j1 := sp.cell 1
      have j2 := sp.cell 2
      have j3 := sp.cell 3
      have j4 := sp.cell 4
      have j5 := sp.cell 5
      go_wp2_with fail
      refine (hI _ _ ⟨T, ct, D, cd, E1, e1, E2, e2, rfl, h1.rw, h2.rw, h3.rw, h4.rw⟩ hbm).mono ?_; rintro e w21 ⟨Aua, cua, Dua, dua, Aub, cub, Dub, dub, rfl, O1, O2, O3, O4, B21⟩
      have kr := kr.nx B21
      have hgl := sp.2
      have sp := sp.nx B21
      have hRC := sp.rc (n := 6)
      clear j0 j1 j2 j3 j4 j5 h1 h2 h3 h4
      have sp := hRC.put6 (.bool (qn ip)) (.slice Aua (digs (qt ip)).length cua) (.slice Dua (digs (qd ip)).length dua) (.bool (qn (0 : Rat))) (.slice Aub (digs (qt (0 : Rat))).length cub) (.slice Dub (digs (qd (0 : Rat))).length dub)
      have kr := kr.far6 hg (.bool (qn ip)) (.slice Aua (digs (qt ip)).length cua) (.slice Dua (digs (qd ip)).length dua) (.bool (qn (0 : Rat))) (.slice Aub (digs (qt (0 : Rat))).length cub) (.slice Dub (digs (qd (0 : Rat))).length dub)
      have O1 := O1.put6 (b := g) hgl (.bool (qn ip)) (.slice Aua (digs (qt ip)).length cua) (.slice Dua (digs (qd ip)).length dua) (.bool (qn (0 : Rat))) (.slice Aub (digs (qt (0 : Rat))).length cub) (.slice Dub (digs (qd (0 : Rat))).length dub)
      have O2 := O2.put6 (b := g) hgl (.bool (qn ip)) (.slice Aua (digs (qt ip)).length cua) (.slice Dua (digs (qd ip)).length dua) (.bool (qn (0 : Rat))) (.slice Aub (digs (qt (0 : Rat))).length cub) (.slice Dub (digs (qd (0 : Rat))).length dub)
      have O3 := O3.put6 (b := g) hgl (.bool (qn ip)) (.slice Aua (digs (qt ip)).length cua) (.slice Dua (digs (qd ip)).length dua) (.bool (qn (0 : Rat))) (.slice Aub (digs (qt (0 : Rat))).length cub) (.slice Dub (digs (qd (0 : Rat))).length dub)
      have O4 := O4.put6 (b := g) hgl (.bool (qn ip)) (.slice Aua (digs (qt ip)).length cua) (.slice Dua (digs (qd ip)).length dua) (.bool (qn (0 : Rat))) (.slice Aub (digs (qt (0 : Rat))).length cub) (.slice Dub (digs (qd (0 : Rat))).length dub)
      have hb0 : w.heap.size + 2 ≤ wr.heap.size := by omega
      have O1 := O1.base_le hb0
      have O2 := O2.base_le hb0
      have O3 := O3.base_le hb0
      have O4 := O4.base_le hb0
      obtain ⟨W, hW⟩ : ∃ W, W = wr6 w21 g (.bool (qn ip)) (.slice Aua (digs (qt ip)).length cua) (.slice Dua (digs (qd ip)).length dua) (.bool (qn (0 : Rat))) (.slice Aub (digs (qt (0 : Rat))).length cub) (.slice Dub (digs (qd (0 : Rat))).length dub) := ⟨_, rfl⟩
      rw [← hW] at sp kr O1 O2 O3 O4
      go_upto_region 23 with ((refine wp_st6 rfl (.tmp 7) (.tmp 82) rfl _ rfl _ _ _ _ _ _ rfl hRC rfl rfl rfl rfl rfl rfl ?_; rw [← hW]; clear hW))
      clear hRC B21
      have j0 := sp.cell 0
      have j1 := sp.cell 1
      have j2 := sp.cell 2
      have j3 := sp.cell 3
      have j4 := sp.cell 4
      have j5 := sp.cell 5
      go_wp2_with fail
      refine (hF _ _ _ _ _ _ _ _ _ _ O1 O2 O3 O4).mono ?_; rintro e w7 ⟨A7, c7, D7, d7, A8, c8, D8, d8, rfl, Q1, Q2, Q3, Q4, B7⟩
      dsimp only at Q1 Q2 Q3 Q4
      have sz : w.heap.size + 1 < w.heap.size + 2 := Nat.lt_succ_self _
      have kk := kr.nx B7
      have hRC := kk.2.1
      go_wp2_with (refine wp_st6 rfl (.tmp 4) (.tmp 85) rfl _ rfl _ _ _ _ _ _ rfl hRC rfl rfl rfl rfl rfl rfl ?_)
      have s6 := hRC.put6 (.bool fr.s) (.slice A7 fr.a.length c7) (.slice D7 fr.b.length d7) (.bool fi.s) (.slice A8 fi.a.length c8) (.slice D8 fi.b.length d8)
      have B6 := wr6_below (b := w.heap.size + 1) kk.2.2 (by omega) (.bool fr.s) (.slice A7 fr.a.length c7) (.slice D7 fr.b.length d7) (.bool fi.s) (.slice A8 fi.a.length c8) (.slice D8 fi.b.length d8)
      have O1 := Q1.put6 (b := w.heap.size + 1) sz (.bool fr.s) (.slice A7 fr.a.length c7) (.slice D7 fr.b.length d7) (.bool fi.s) (.slice A8 fi.a.length c8) (.slice D8 fi.b.length d8)
      have O2 := Q2.put6 (b := w.heap.size + 1) sz (.bool fr.s) (.slice A7 fr.a.length c7) (.slice D7 fr.b.length d7) (.bool fi.s) (.slice A8 fi.a.length c8) (.slice D8 fi.b.length d8)
      have O3 := Q3.put6 (b := w.heap.size + 1) sz (.bool fr.s) (.slice A7 fr.a.length c7) (.slice D7 fr.b.length d7) (.bool fi.s) (.slice A8 fi.a.length c8) (.slice D8 fi.b.length d8)
      have O4 := Q4.put6 (b := w.heap.size + 1) sz (.bool fr.s) (.slice A7 fr.a.length c7) (.slice D7 fr.b.length d7) (.bool fi.s) (.slice A8 fi.a.length c8) (.slice D8 fi.b.length d8)
      have r0' := s6.cell 0
      have r1' := s6.cell 1
      have r2' := s6.cell 2
      have r3' := s6.cell 3
      have r4' := s6.cell 4
      have r5' := s6.cell 5
      refine bodyPost_ret (v := .tuple #[.agg #[.bool fr.s, .slice A7 fr.a.length c7, .slice D7 fr.b.length d7, .bool fi.s, .slice A8 fi.a.length c8, .slice D8 fi.b.length d8], .int .i64 fk]) (by simp [results, r0', r1', r2', r3', r4', r5', go_sem]) rfl ?_
      have hle : w.heap.size ≤ w.heap.size + 2 := by omega
      exact ⟨A7, c7, D7, d7, A8, c8, D8, d8, rfl, O1.base_le hle, O2.base_le hle, O3.base_le hle, O4.base_le hle, B6⟩

end Go.Proofs.Ytdkejndagicgjaa
