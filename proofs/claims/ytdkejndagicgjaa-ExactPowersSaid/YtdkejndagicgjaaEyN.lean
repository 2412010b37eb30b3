/- Walk: the reference's Expt, a number that is not real. -/
import Derived.Test.YtdkejndagicgjaaEyM
namespace Go.Proofs.Ytdkejndagicgjaa
open Go.RowKit

theorem qw1' : qw (1 : Rat) ≤ 512 := by decide_cbv


set_option maxRecDepth 100000 in
set_option maxHeartbeats 16000000 in
theorem rexpt_cx_pos (V : Value) (x y : Rat) (n : Int) (w : World) (hV : RN w w.heap.size V x y) (bx : qw x ≤ 512) (by_ : qw y ≤ 512) (hy : ¬ (rwq y).a.length = 0) (m : Nat) (hm1 : 1 ≤ m) (hm2 : m ≤ 1024) (hn1 : n ≤ (m : Int)) (hn2 : (m : Int) ≤ n) (p q : Nat → Rat) (hp : p 0 = 1) (hq : q 0 = 0)
    (hT : ∀ k V U w', RN w' w'.heap.size V (p k) (q k) → RN w' w'.heap.size U x y → qw (p k) ≤ 512 ∧ qw (q k) ≤ 512 → Calls Try.prog 48 #[V, U] w' (RetP w' (p (k + 1)) (q (k + 1))))
    (hLg : ∀ k V w', RN w' w'.heap.size V (p k) (q k) → Calls Try.prog 65 #[V] w' fun e w2 => e = .returned (.bool (!decide (qw (p k) ≤ 512 ∧ qw (q k) ≤ 512))) ∧ Below w'.heap.size w' w2)
    (fr fi : Rw) (fk : Int) (ans : Rw × Rw × Int)
    (hF : ∀ A1 D1 A2 D2 c1 d1 c2 d2 base w', OW w' base A1 c1 (digs (qt (p m))) → OW w' base D1 d1 (digs (qd (p m))) → OW w' base A2 c2 (digs (qt (q m))) → OW w' base D2 d2 (digs (qd (q m))) → Calls Try.prog 47 #[(.agg #[.bool (qn (p m)), .slice A1 (digs (qt (p m))).length c1, .slice D1 (digs (qd (p m))).length d1, .bool (qn (q m)), .slice A2 (digs (qt (q m))).length c2, .slice D2 (digs (qd (q m))).length d2])] w' (RetF w' base (fr, fi, fk)))
    (hbig : ∀ k, k < m → ¬ (qw (p (k + 1)) ≤ 512 ∧ qw (q (k + 1)) ≤ 512) → ans = (rw0, rw0, 4)) (hfit : (∀ k, k ≤ m → qw (p k) ≤ 512 ∧ qw (q k) ≤ 512) → ans = (fr, fi, fk)) :
    Calls Try.prog 28 #[V, .int .i64 n] w (RetNE w ans) := by
  have hr1 := fun V w' h => rreal_any V (rwq x) (rwq y) w' h
  rw [decide_eq_false hy] at hr1
  have hs1 := fun V w' h => resound_any V (rwq x) (rwq y) w' h
  rw [nB_rwq bx by_] at hs1
  obtain ⟨A1, c1, D1, d1, A2, c2, D2, d2, rfl, p1, p2, p3, p4⟩ := hV
  have Ha : VN w w.heap.size (.agg #[.bool (qn x), .slice A1 (digs (qt x)).length c1, .slice D1 (digs (qd x)).length d1, .bool (qn y), .slice A2 (digs (qt y)).length c2, .slice D2 (digs (qd y)).length d2]) (rwq x) (rwq y) := ⟨A1, c1, D1, d1, A2, c2, D2, d2, rfl, p1, p2, p3, p4⟩
  simp only [rwq] at p1 p2 p3 p4
  have k0 := S2.new w [.bool (qn x), .slice A1 (digs (qt x)).length c1, .slice D1 (digs (qd x)).length d1, .bool (qn y), .slice A2 (digs (qt y)).length c2, .slice D2 (digs (qd y)).length d2] [.bool false, .slice none 0 0, .slice none 0 0, .bool false, .slice none 0 0, .slice none 0 0] 26 26 6
  have C0 := k0.2.2
  have i0 := k0.1.cell 0
  have i1 := k0.1.cell 1
  have i2 := k0.1.cell 2
  have i3 := k0.1.cell 3
  have i4 := k0.1.cell 4
  have i5 := k0.1.cell 5
  have h0 : ¬ (x = 0 ∧ y = 0) := fun h => hy (by rw [h.2]; exact digs_len0.2 rfl)
  have hZ := fun V w' h => risZero_any V (rwq x) (rwq y) w' h
  rw [zeroB_q] at hZ
  rw [decide_eq_false h0] at hZ
  have e1 : ¬ n < -1024 := by omega
  have e2 : ¬ 1024 < n := by omega
  have e3 : (n == 0) = false := beq_eq_false_iff_ne.2 (by omega)
  have e4 : ¬ n < 0 := by omega
  have hI1 := fun w' => rint_any 1 w' (by omega) (by omega)
  rw [show ((1 : Int) : Rat) = 1 from rfl] at hI1
  clear h0 hy p1 p2 p3 p4
  go_enter Try.func28, Try.ntmps28
  go_wp2_with fail
  refine (hs1 _ _ (Ha.st C0)).mono ?_; rintro e w3 ⟨rfl, B3⟩
  have k3 := k0.nx B3
  clear i0 i1 i2 i3 i4 i5 hs1
  have C3 := k3.2.2
  have j0 := k3.1.cell 0
  have j1 := k3.1.cell 1
  have j2 := k3.1.cell 2
  have j3 := k3.1.cell 3
  have j4 := k3.1.cell 4
  have j5 := k3.1.cell 5
  go_wp2_with fail
  refine (hZ _ _ (Ha.st C3)).mono ?_; rintro e w4 ⟨rfl, B4⟩
  have k4 := k3.nx B4
  clear hZ j0 j1 j2 j3 j4 j5
  go_wp2_with fail
  refine (hI1 _).mono ?_; rintro e w5 ⟨Ara, cra, Dra, dra, Arb, crb, Drb, drb, rfl, O1, O2, O3, O4, B5⟩
  simp only [rwq] at O1 O2 O3 O4
  have hg0 : w.heap.size + 1 < w4.heap.size := k4.2.1.2
  have k5 := k4.nx B5
  have L := bal w5 (.cells #[.bool (qn (1 : Rat)), .slice Ara (digs (qt (1 : Rat))).length cra, .slice Dra (digs (qd (1 : Rat))).length dra, .bool (qn (0 : Rat)), .slice Arb (digs (qt (0 : Rat))).length crb, .slice Drb (digs (qd (0 : Rat))).length drb] 26)
  have sp := SB.new w5 [.bool (qn (1 : Rat)), .slice Ara (digs (qt (1 : Rat))).length cra, .slice Dra (digs (qd (1 : Rat))).length dra, .bool (qn (0 : Rat)), .slice Arb (digs (qt (0 : Rat))).length crb, .slice Drb (digs (qd (0 : Rat))).length drb] 26
  have hg : w.heap.size + 1 < w5.heap.size := k5.2.1.2
  have k6 := k5.nx L
  have hb0 : w.heap.size + 2 ≤ w4.heap.size := hg0
  have O1 := (O1.below L (Nat.le_refl _)).base_le hb0
  have O2 := (O2.below L (Nat.le_refl _)).base_le hb0
  have O3 := (O3.below L (Nat.le_refl _)).base_le hb0
  have O4 := (O4.below L (Nat.le_refl _)).base_le hb0
  obtain ⟨W5, hW5⟩ : ∃ W5, W5 = w5.alloc (.cells #[.bool (qn (1 : Rat)), .slice Ara (digs (qt (1 : Rat))).length cra, .slice Dra (digs (qd (1 : Rat))).length dra, .bool (qn (0 : Rat)), .slice Arb (digs (qt (0 : Rat))).length crb, .slice Drb (digs (qd (0 : Rat))).length drb] 26) := ⟨_, rfl⟩
  rw [← hW5] at L sp k6 O1 O2 O3 O4
  simp only [rwq]
  go_wp2_with fail
  rw [← hW5]
  clear hW5 L k4 k5 hg0
  generalize w5.heap.size = g at *
  go_loopg [8] m (fun gg kv wr => ∃ (k : Nat) (Apa Dpa Apb Dpb : Option Addr) (cpa dpa cpb dpb : Nat), k ≤ m ∧ m - k = gg ∧ kv = .int .i64 (k : Int) ∧ SB wr g [.bool (qn (p k)), .slice Apa (digs (qt (p k))).length cpa, .slice Dpa (digs (qd (p k))).length dpa, .bool (qn (q k)), .slice Apb (digs (qt (q k))).length cpb, .slice Dpb (digs (qd (q k))).length dpb] ∧ OW wr (w.heap.size + 2) Apa cpa (digs (qt (p k))) ∧ OW wr (w.heap.size + 2) Dpa dpa (digs (qd (p k))) ∧ OW wr (w.heap.size + 2) Apb cpb (digs (qt (q k))) ∧ OW wr (w.heap.size + 2) Dpb dpb (digs (qd (q k))) ∧ Hid (∀ j, j ≤ k → qw (p j) ≤ 512 ∧ qw (q j) ≤ 512) ∧ S2 w w.heap.size [.bool (qn x), .slice A1 (digs (qt x)).length c1, .slice D1 (digs (qd x)).length d1, .bool (qn y), .slice A2 (digs (qt y)).length c2, .slice D2 (digs (qd y)).length d2] 6 wr)
  case atStart =>
    refine ⟨0, Ara, Dra, Arb, Drb, cra, dra, crb, drb, Nat.zero_le _, rfl, rfl, ?_, ?_, ?_, ?_, ?_, ?_, k6⟩
    · rw [hp, hq]; exact sp
    · rw [hp]; exact O1
    · rw [hp]; exact O2
    · rw [hq]; exact O3
    · rw [hq]; exact O4
    · refine Lib.hid (fun j hj => ?_)
      obtain rfl : j = 0 := by omega
      rw [hp, hq]
      exact ⟨qw1', qw0⟩
  case round =>
    clear sp k6 O1 O2 O3 O4
    obtain ⟨k, Apa, Dpa, Apb, Dpb, cpa, dpa, cpb, dpb, hkm, rfl, rfl, sp, h1, h2, h3, h4, hle, kr⟩ := hrel
    by_cases hlt : k < m
    · have i0 := kr.1.cell 0
      have i1 := kr.1.cell 1
      have i2 := kr.1.cell 2
      have i3 := kr.1.cell 3
      have i4 := kr.1.cell 4
      have i5 := kr.1.cell 5
      have j0 := sp.cell 0
      have j1 := sp.cell 1
      have j2 := sp.cell 2
      have j3 := sp.cell 3
      have j4 := sp.cell 4
      have j5 := sp.cell 5
      go_wp2_with fail
      refine (hr1 _ _ (Ha.st kr.2.2)).mono ?_; rintro e w20 ⟨rfl, B20⟩
      have hgr : w.heap.size + 2 ≤ wr.heap.size := by have := sp.2; omega
      have kr := kr.nx B20
      have sp := sp.nx B20
      have h1 := h1.below B20 (Nat.le_refl _)
      have h2 := h2.below B20 (Nat.le_refl _)
      have h3 := h3.below B20 (Nat.le_refl _)
      have h4 := h4.below B20 (Nat.le_refl _)
      clear i0 i1 i2 i3 i4 i5 j0 j1 j2 j3 j4 j5
      have i0 := kr.1.cell 0
      have i1 := kr.1.cell 1
      have i2 := kr.1.cell 2
      have i3 := kr.1.cell 3
      have i4 := kr.1.cell 4
      have i5 := kr.1.cell 5
      have j0 := sp.cell 0
      have j1 := sp.cell 1
      have j2 := sp.cell 2
      have j3 := sp.cell 3
      have j4 := sp.cell 4
      have j5 := sp.cell 5
      go_wp2_with fail
      refine (hT k _ _ _ ⟨Apa, cpa, Dpa, dpa, Apb, cpb, Dpb, dpb, rfl, h1.rw, h2.rw, h3.rw, h4.rw⟩ (Ha.st kr.2.2) (hle.out k (Nat.le_refl _))).mono ?_; rintro e w21 ⟨Ara, cra, Dra, dra, Arb, crb, Drb, drb, rfl, O1, O2, O3, O4, B21⟩
      have hgr2 : w.heap.size + 2 ≤ w20.heap.size := Nat.le_trans hgr B20.size
      have kr := kr.nx B21
      have hgl := sp.2
      have sp := sp.nx B21
      have hRC := sp.rc (n := 6)
      clear i0 i1 i2 i3 i4 i5 j0 j1 j2 j3 j4 j5 h1 h2 h3 h4
      have sp := hRC.put6 (.bool (qn (p (k + 1)))) (.slice Ara (digs (qt (p (k + 1)))).length cra) (.slice Dra (digs (qd (p (k + 1)))).length dra) (.bool (qn (q (k + 1)))) (.slice Arb (digs (qt (q (k + 1)))).length crb) (.slice Drb (digs (qd (q (k + 1)))).length drb)
      have kr := kr.far6 hg (.bool (qn (p (k + 1)))) (.slice Ara (digs (qt (p (k + 1)))).length cra) (.slice Dra (digs (qd (p (k + 1)))).length dra) (.bool (qn (q (k + 1)))) (.slice Arb (digs (qt (q (k + 1)))).length crb) (.slice Drb (digs (qd (q (k + 1)))).length drb)
      have O1 := (O1.put6 (b := g) hgl (.bool (qn (p (k + 1)))) (.slice Ara (digs (qt (p (k + 1)))).length cra) (.slice Dra (digs (qd (p (k + 1)))).length dra) (.bool (qn (q (k + 1)))) (.slice Arb (digs (qt (q (k + 1)))).length crb) (.slice Drb (digs (qd (q (k + 1)))).length drb)).base_le hgr2
      have O2 := (O2.put6 (b := g) hgl (.bool (qn (p (k + 1)))) (.slice Ara (digs (qt (p (k + 1)))).length cra) (.slice Dra (digs (qd (p (k + 1)))).length dra) (.bool (qn (q (k + 1)))) (.slice Arb (digs (qt (q (k + 1)))).length crb) (.slice Drb (digs (qd (q (k + 1)))).length drb)).base_le hgr2
      have O3 := (O3.put6 (b := g) hgl (.bool (qn (p (k + 1)))) (.slice Ara (digs (qt (p (k + 1)))).length cra) (.slice Dra (digs (qd (p (k + 1)))).length dra) (.bool (qn (q (k + 1)))) (.slice Arb (digs (qt (q (k + 1)))).length crb) (.slice Drb (digs (qd (q (k + 1)))).length drb)).base_le hgr2
      have O4 := (O4.put6 (b := g) hgl (.bool (qn (p (k + 1)))) (.slice Ara (digs (qt (p (k + 1)))).length cra) (.slice Dra (digs (qd (p (k + 1)))).length dra) (.bool (qn (q (k + 1)))) (.slice Arb (digs (qt (q (k + 1)))).length crb) (.slice Drb (digs (qd (q (k + 1)))).length drb)).base_le hgr2
      obtain ⟨W, hW⟩ : ∃ W, W = wr6 w21 g (.bool (qn (p (k + 1)))) (.slice Ara (digs (qt (p (k + 1)))).length cra) (.slice Dra (digs (qd (p (k + 1)))).length dra) (.bool (qn (q (k + 1)))) (.slice Arb (digs (qt (q (k + 1)))).length crb) (.slice Drb (digs (qd (q (k + 1)))).length drb) := ⟨_, rfl⟩
      rw [← hW] at sp kr O1 O2 O3 O4
      go_upto_region 19 with ((refine wp_st6 rfl (.tmp 7) (.tmp 75) rfl _ rfl _ _ _ _ _ _ rfl hRC rfl rfl rfl rfl rfl rfl ?_; rw [← hW]; clear hW))
      clear hRC B21 B20
      have j0 := sp.cell 0
      have j1 := sp.cell 1
      have j2 := sp.cell 2
      have j3 := sp.cell 3
      have j4 := sp.cell 4
      have j5 := sp.cell 5
      have hl := hLg (k + 1)
      by_cases hb : qw (p (k + 1)) ≤ 512 ∧ qw (q (k + 1)) ≤ 512
      · rw [decide_eq_true hb] at hl
        go_wp2_with fail
        refine (hl _ _ ⟨Ara, cra, Dra, dra, Arb, crb, Drb, drb, rfl, O1.rw, O2.rw, O3.rw, O4.rw⟩).mono ?_; rintro e w22 ⟨rfl, B22⟩
        have kk := kr.nx B22
        have sp := sp.nx B22
        have O1 := O1.below B22 (Nat.le_refl _)
        have O2 := O2.below B22 (Nat.le_refl _)
        have O3 := O3.below B22 (Nat.le_refl _)
        have O4 := O4.below B22 (Nat.le_refl _)
        go_wp2_with fail
        go_roundg (m - (k + 1))
        case measure => omega
        case rel => exact ⟨k + 1, Ara, Dra, Arb, Drb, cra, dra, crb, drb, by omega, rfl, by go_num, sp, O1, O2, O3, O4, Lib.hid (fun j hj => by
            by_cases hj2 : j ≤ k
            · exact hle.out j hj2
            · obtain rfl : j = k + 1 := by omega
              exact hb), kk⟩
      · rw [decide_eq_false hb] at hl
        have hans := hbig k hlt hb
        subst hans
        clear hbig hfit
        go_wp2_with fail
        refine (hl _ _ ⟨Ara, cra, Dra, dra, Arb, crb, Drb, drb, rfl, O1.rw, O2.rw, O3.rw, O4.rw⟩).mono ?_; rintro e w22 ⟨rfl, B22⟩
        have kk := kr.nx B22
        have sp := sp.nx B22
        have hRC := kk.2.1
        go_wp2_with (refine wp_st6 rfl (.tmp 4) (.tmp 78) rfl _ rfl _ _ _ _ _ _ rfl hRC rfl rfl rfl rfl rfl rfl ?_)
        have s6 := hRC.put6 (.bool false) (.slice none 0 0) (.slice none 0 0) (.bool false) (.slice none 0 0) (.slice none 0 0)
        have B6 := wr6_below (b := w.heap.size + 1) kk.2.2 (by omega) (.bool false) (.slice none 0 0) (.slice none 0 0) (.bool false) (.slice none 0 0) (.slice none 0 0)
        have r0' := s6.cell 0
        have r1' := s6.cell 1
        have r2' := s6.cell 2
        have r3' := s6.cell 3
        have r4' := s6.cell 4
        have r5' := s6.cell 5
        refine bodyPost_ret (v := .tuple #[.agg #[.bool false, .slice none 0 0, .slice none 0 0, .bool false, .slice none 0 0, .slice none 0 0], .int .i64 4]) (by simp [results, r0', r1', r2', r3', r4', r5', go_sem]) rfl ?_
        exact retNE_nil 4 B6
    · have hkm' : k = m := by omega
      have hbm := hle.out k (Nat.le_refl _)
      clear hlt hm1 hkm
      subst hkm'
      have hans := hfit (fun j h1 => hle.out j h1)
      subst hans
      clear hbig hfit hle hT hLg
      have hgr : w.heap.size + 2 ≤ wr.heap.size := by have := sp.2; omega
      have j0 := sp.cell 0
      have j1 := sp.cell 1
      have j2 := sp.cell 2
      have j3 := sp.cell 3
      have j4 := sp.cell 4
      have j5 := sp.cell 5
      go_wp2_with fail
      refine (hF _ _ _ _ _ _ _ _ _ _ h1 h2 h3 h4).mono ?_; rintro e w7 ⟨A7, c7, D7, d7, A8, c8, D8, d8, rfl, Q1, Q2, Q3, Q4, B7⟩
      dsimp only at Q1 Q2 Q3 Q4
      have sz : w.heap.size + 1 < w.heap.size + 2 := Nat.lt_succ_self _
      have kk := kr.nx B7
      have hRC := kk.2.1
      go_wp2_with (refine wp_st6 rfl (.tmp 4) (.tmp 85) rfl _ rfl _ _ _ _ _ _ rfl hRC rfl rfl rfl rfl rfl rfl ?_)
      have s6 := hRC.put6 (.bool fr.s) (.slice A7 fr.a.length c7) (.slice D7 fr.b.length d7) (.bool fi.s) (.slice A8 fi.a.length c8) (.slice D8 fi.b.length d8)
      have B6 := wr6_below (b := w.heap.size + 1) kk.2.2 (by omega) (.bool fr.s) (.slice A7 fr.a.length c7) (.slice D7 fr.b.length d7) (.bool fi.s) (.slice A8 fi.a.length c8) (.slice D8 fi.b.length d8)
      have O1 := Q1.put6 (b := w.heap.size + 1) sz (.bool fr.s) (.slice A7 fr.a.length c7) (.slice D7 fr.b.length d7) (.bool fi.s) (.slice A8 fi.a.length c8) (.slice D8 fi.b.length d8)
      have O2 := Q2.put6 (b := w.heap.size + 1) sz (.bool fr.s) (.slice A7 fr.a.length c7) (.slice D7 fr.b.length d7) (.bool fi.s) (.slice A8 fi.a.length c8) (.slice D8 fi.b.length d8)
      have O3 := Q3.put6 (b := w.heap.size + 1) sz (.bool fr.s) (.slice A7 fr.a.length c7) (.slice D7 fr.b.length d7) (.bool fi.s) (.slice A8 fi.a.length c8) (.slice D8 fi.b.length d8)
      have O4 := Q4.put6 (b := w.heap.size + 1) sz (.bool fr.s) (.slice A7 fr.a.length c7) (.slice D7 fr.b.length d7) (.bool fi.s) (.slice A8 fi.a.length c8) (.slice D8 fi.b.length d8)
      have r0' := s6.cell 0
      have r1' := s6.cell 1
      have r2' := s6.cell 2
      have r3' := s6.cell 3
      have r4' := s6.cell 4
      have r5' := s6.cell 5
      refine bodyPost_ret (v := .tuple #[.agg #[.bool fr.s, .slice A7 fr.a.length c7, .slice D7 fr.b.length d7, .bool fi.s, .slice A8 fi.a.length c8, .slice D8 fi.b.length d8], .int .i64 fk]) (by simp [results, r0', r1', r2', r3', r4', r5', go_sem]) rfl ?_
      have hle : w.heap.size ≤ w.heap.size + 2 := by omega
      exact ⟨A7, c7, D7, d7, A8, c8, D8, d8, rfl, O1.base_le hle, O2.base_le hle, O3.base_le hle, O4.base_le hle, B6⟩


set_option maxRecDepth 100000 in
set_option maxHeartbeats 16000000 in
theorem rexpt_cx_neg (V : Value) (x y : Rat) (n : Int) (w : World) (hV : RN w w.heap.size V x y) (bx : qw x ≤ 512) (by_ : qw y ≤ 512) (hy : ¬ (rwq y).a.length = 0) (m : Nat) (hm1 : 1 ≤ m) (hm2 : m ≤ 1024) (hn1 : -n ≤ (m : Int)) (hn2 : (m : Int) ≤ -n) (p q : Nat → Rat) (hp : p 0 = 1) (hq : q 0 = 0)
    (hT : ∀ k V U w', RN w' w'.heap.size V (p k) (q k) → RN w' w'.heap.size U x y → qw (p k) ≤ 512 ∧ qw (q k) ≤ 512 → Calls Try.prog 48 #[V, U] w' (RetP w' (p (k + 1)) (q (k + 1))))
    (hLg : ∀ k V w', RN w' w'.heap.size V (p k) (q k) → Calls Try.prog 65 #[V] w' fun e w2 => e = .returned (.bool (!decide (qw (p k) ≤ 512 ∧ qw (q k) ≤ 512))) ∧ Below w'.heap.size w' w2)
    (fr fi : Rw) (fk : Int) (ans : Rw × Rw × Int) (ip iq : Rat)
    (hI : ∀ V w', RN w' w'.heap.size V (p m) (q m) → qw (p m) ≤ 512 ∧ qw (q m) ≤ 512 → Calls Try.prog 52 #[V] w' (RetP w' ip iq))
    (hF : ∀ A1 D1 A2 D2 c1 d1 c2 d2 base w', OW w' base A1 c1 (digs (qt ip)) → OW w' base D1 d1 (digs (qd ip)) → OW w' base A2 c2 (digs (qt iq)) → OW w' base D2 d2 (digs (qd iq)) → Calls Try.prog 47 #[(.agg #[.bool (qn ip), .slice A1 (digs (qt ip)).length c1, .slice D1 (digs (qd ip)).length d1, .bool (qn iq), .slice A2 (digs (qt iq)).length c2, .slice D2 (digs (qd iq)).length d2])] w' (RetF w' base (fr, fi, fk)))
    (hbig : ∀ k, k < m → ¬ (qw (p (k + 1)) ≤ 512 ∧ qw (q (k + 1)) ≤ 512) → ans = (rw0, rw0, 4)) (hfit : (∀ k, k ≤ m → qw (p k) ≤ 512 ∧ qw (q k) ≤ 512) → ans = (fr, fi, fk)) :
    Calls Try.prog 28 #[V, .int .i64 n] w (RetNE w ans) := by
  have hr1 := fun V w' h => rreal_any V (rwq x) (rwq y) w' h
  rw [decide_eq_false hy] at hr1
  have hs1 := fun V w' h => resound_any V (rwq x) (rwq y) w' h
  rw [nB_rwq bx by_] at hs1
  obtain ⟨A1, c1, D1, d1, A2, c2, D2, d2, rfl, p1, p2, p3, p4⟩ := hV
  have Ha : VN w w.heap.size (.agg #[.bool (qn x), .slice A1 (digs (qt x)).length c1, .slice D1 (digs (qd x)).length d1, .bool (qn y), .slice A2 (digs (qt y)).length c2, .slice D2 (digs (qd y)).length d2]) (rwq x) (rwq y) := ⟨A1, c1, D1, d1, A2, c2, D2, d2, rfl, p1, p2, p3, p4⟩
  simp only [rwq] at p1 p2 p3 p4
  have k0 := S2.new w [.bool (qn x), .slice A1 (digs (qt x)).length c1, .slice D1 (digs (qd x)).length d1, .bool (qn y), .slice A2 (digs (qt y)).length c2, .slice D2 (digs (qd y)).length d2] [.bool false, .slice none 0 0, .slice none 0 0, .bool false, .slice none 0 0, .slice none 0 0] 26 26 6
  have C0 := k0.2.2
  have i0 := k0.1.cell 0
  have i1 := k0.1.cell 1
  have i2 := k0.1.cell 2
  have i3 := k0.1.cell 3
  have i4 := k0.1.cell 4
  have i5 := k0.1.cell 5
  have h0 : ¬ (x = 0 ∧ y = 0) := fun h => hy (by rw [h.2]; exact digs_len0.2 rfl)
  have hZ := fun V w' h => risZero_any V (rwq x) (rwq y) w' h
  rw [zeroB_q] at hZ
  rw [decide_eq_false h0] at hZ
  have e1 : ¬ n < -1024 := by omega
  have e2 : ¬ 1024 < n := by omega
  have e3 : (n == 0) = false := beq_eq_false_iff_ne.2 (by omega)
  have e4 : n < 0 := by omega
  have hI1 := fun w' => rint_any 1 w' (by omega) (by omega)
  rw [show ((1 : Int) : Rat) = 1 from rfl] at hI1
  clear h0 hy p1 p2 p3 p4
  go_enter Try.func28, Try.ntmps28
  go_wp2_with fail
  refine (hs1 _ _ (Ha.st C0)).mono ?_; rintro e w3 ⟨rfl, B3⟩
  have k3 := k0.nx B3
  clear i0 i1 i2 i3 i4 i5 hs1
  have C3 := k3.2.2
  have j0 := k3.1.cell 0
  have j1 := k3.1.cell 1
  have j2 := k3.1.cell 2
  have j3 := k3.1.cell 3
  have j4 := k3.1.cell 4
  have j5 := k3.1.cell 5
  go_wp2_with fail
  refine (hZ _ _ (Ha.st C3)).mono ?_; rintro e w4 ⟨rfl, B4⟩
  have k4 := k3.nx B4
  clear hZ j0 j1 j2 j3 j4 j5
  go_wp2_with fail
  refine (hI1 _).mono ?_; rintro e w5 ⟨Ara, cra, Dra, dra, Arb, crb, Drb, drb, rfl, O1, O2, O3, O4, B5⟩
  simp only [rwq] at O1 O2 O3 O4
  have hg0 : w.heap.size + 1 < w4.heap.size := k4.2.1.2
  have k5 := k4.nx B5
  have L := bal w5 (.cells #[.bool (qn (1 : Rat)), .slice Ara (digs (qt (1 : Rat))).length cra, .slice Dra (digs (qd (1 : Rat))).length dra, .bool (qn (0 : Rat)), .slice Arb (digs (qt (0 : Rat))).length crb, .slice Drb (digs (qd (0 : Rat))).length drb] 26)
  have sp := SB.new w5 [.bool (qn (1 : Rat)), .slice Ara (digs (qt (1 : Rat))).length cra, .slice Dra (digs (qd (1 : Rat))).length dra, .bool (qn (0 : Rat)), .slice Arb (digs (qt (0 : Rat))).length crb, .slice Drb (digs (qd (0 : Rat))).length drb] 26
  have hg : w.heap.size + 1 < w5.heap.size := k5.2.1.2
  have k6 := k5.nx L
  have hb0 : w.heap.size + 2 ≤ w4.heap.size := hg0
  have O1 := (O1.below L (Nat.le_refl _)).base_le hb0
  have O2 := (O2.below L (Nat.le_refl _)).base_le hb0
  have O3 := (O3.below L (Nat.le_refl _)).base_le hb0
  have O4 := (O4.below L (Nat.le_refl _)).base_le hb0
  obtain ⟨W5, hW5⟩ : ∃ W5, W5 = w5.alloc (.cells #[.bool (qn (1 : Rat)), .slice Ara (digs (qt (1 : Rat))).length cra, .slice Dra (digs (qd (1 : Rat))).length dra, .bool (qn (0 : Rat)), .slice Arb (digs (qt (0 : Rat))).length crb, .slice Drb (digs (qd (0 : Rat))).length drb] 26) := ⟨_, rfl⟩
  rw [← hW5] at L sp k6 O1 O2 O3 O4
  simp only [rwq]
  go_wp2_with fail
  rw [← hW5]
  clear hW5 L k4 k5 hg0
  generalize w5.heap.size = g at *
  go_loopg [8] m (fun gg kv wr => ∃ (k : Nat) (Apa Dpa Apb Dpb : Option Addr) (cpa dpa cpb dpb : Nat), k ≤ m ∧ m - k = gg ∧ kv = .int .i64 (k : Int) ∧ SB wr g [.bool (qn (p k)), .slice Apa (digs (qt (p k))).length cpa, .slice Dpa (digs (qd (p k))).length dpa, .bool (qn (q k)), .slice Apb (digs (qt (q k))).length cpb, .slice Dpb (digs (qd (q k))).length dpb] ∧ OW wr (w.heap.size + 2) Apa cpa (digs (qt (p k))) ∧ OW wr (w.heap.size + 2) Dpa dpa (digs (qd (p k))) ∧ OW wr (w.heap.size + 2) Apb cpb (digs (qt (q k))) ∧ OW wr (w.heap.size + 2) Dpb dpb (digs (qd (q k))) ∧ Hid (∀ j, j ≤ k → qw (p j) ≤ 512 ∧ qw (q j) ≤ 512) ∧ S2 w w.heap.size [.bool (qn x), .slice A1 (digs (qt x)).length c1, .slice D1 (digs (qd x)).length d1, .bool (qn y), .slice A2 (digs (qt y)).length c2, .slice D2 (digs (qd y)).length d2] 6 wr)
  case atStart =>
    refine ⟨0, Ara, Dra, Arb, Drb, cra, dra, crb, drb, Nat.zero_le _, rfl, rfl, ?_, ?_, ?_, ?_, ?_, ?_, k6⟩
    · rw [hp, hq]; exact sp
    · rw [hp]; exact O1
    · rw [hp]; exact O2
    · rw [hq]; exact O3
    · rw [hq]; exact O4
    · refine Lib.hid (fun j hj => ?_)
      obtain rfl : j = 0 := by omega
      rw [hp, hq]
      exact ⟨qw1', qw0⟩
  case round =>
    clear sp k6 O1 O2 O3 O4
    obtain ⟨k, Apa, Dpa, Apb, Dpb, cpa, dpa, cpb, dpb, hkm, rfl, rfl, sp, h1, h2, h3, h4, hle, kr⟩ := hrel
    by_cases hlt : k < m
    · have i0 := kr.1.cell 0
      have i1 := kr.1.cell 1
      have i2 := kr.1.cell 2
      have i3 := kr.1.cell 3
      have i4 := kr.1.cell 4
      have i5 := kr.1.cell 5
      have j0 := sp.cell 0
      have j1 := sp.cell 1
      have j2 := sp.cell 2
      have j3 := sp.cell 3
      have j4 := sp.cell 4
      have j5 := sp.cell 5
      go_wp2_with fail
      refine (hr1 _ _ (Ha.st kr.2.2)).mono ?_; rintro e w20 ⟨rfl, B20⟩
      have hgr : w.heap.size + 2 ≤ wr.heap.size := by have := sp.2; omega
      have kr := kr.nx B20
      have sp := sp.nx B20
      have h1 := h1.below B20 (Nat.le_refl _)
      have h2 := h2.below B20 (Nat.le_refl _)
      have h3 := h3.below B20 (Nat.le_refl _)
      have h4 := h4.below B20 (Nat.le_refl _)
      clear i0 i1 i2 i3 i4 i5 j0 j1 j2 j3 j4 j5
      have i0 := kr.1.cell 0
      have i1 := kr.1.cell 1
      have i2 := kr.1.cell 2
      have i3 := kr.1.cell 3
      have i4 := kr.1.cell 4
      have i5 := kr.1.cell 5
      have j0 := sp.cell 0
      have j1 := sp.cell 1
      have j2 := sp.cell 2
      have j3 := sp.cell 3
      have j4 := sp.cell 4
      have j5 := sp.cell 5
      go_wp2_with fail
      refine (hT k _ _ _ ⟨Apa, cpa, Dpa, dpa, Apb, cpb, Dpb, dpb, rfl, h1.rw, h2.rw, h3.rw, h4.rw⟩ (Ha.st kr.2.2) (hle.out k (Nat.le_refl _))).mono ?_; rintro e w21 ⟨Ara, cra, Dra, dra, Arb, crb, Drb, drb, rfl, O1, O2, O3, O4, B21⟩
      have hgr2 : w.heap.size + 2 ≤ w20.heap.size := Nat.le_trans hgr B20.size
      have kr := kr.nx B21
      have hgl := sp.2
      have sp := sp.nx B21
      have hRC := sp.rc (n := 6)
      clear i0 i1 i2 i3 i4 i5 j0 j1 j2 j3 j4 j5 h1 h2 h3 h4
      have sp := hRC.put6 (.bool (qn (p (k + 1)))) (.slice Ara (digs (qt (p (k + 1)))).length cra) (.slice Dra (digs (qd (p (k + 1)))).length dra) (.bool (qn (q (k + 1)))) (.slice Arb (digs (qt (q (k + 1)))).length crb) (.slice Drb (digs (qd (q (k + 1)))).length drb)
      have kr := kr.far6 hg (.bool (qn (p (k + 1)))) (.slice Ara (digs (qt (p (k + 1)))).length cra) (.slice Dra (digs (qd (p (k + 1)))).length dra) (.bool (qn (q (k + 1)))) (.slice Arb (digs (qt (q (k + 1)))).length crb) (.slice Drb (digs (qd (q (k + 1)))).length drb)
      have O1 := (O1.put6 (b := g) hgl (.bool (qn (p (k + 1)))) (.slice Ara (digs (qt (p (k + 1)))).length cra) (.slice Dra (digs (qd (p (k + 1)))).length dra) (.bool (qn (q (k + 1)))) (.slice Arb (digs (qt (q (k + 1)))).length crb) (.slice Drb (digs (qd (q (k + 1)))).length drb)).base_le hgr2
      have O2 := (O2.put6 (b := g) hgl (.bool (qn (p (k + 1)))) (.slice Ara (digs (qt (p (k + 1)))).length cra) (.slice Dra (digs (qd (p (k + 1)))).length dra) (.bool (qn (q (k + 1)))) (.slice Arb (digs (qt (q (k + 1)))).length crb) (.slice Drb (digs (qd (q (k + 1)))).length drb)).base_le hgr2
      have O3 := (O3.put6 (b := g) hgl (.bool (qn (p (k + 1)))) (.slice Ara (digs (qt (p (k + 1)))).length cra) (.slice Dra (digs (qd (p (k + 1)))).length dra) (.bool (qn (q (k + 1)))) (.slice Arb (digs (qt (q (k + 1)))).length crb) (.slice Drb (digs (qd (q (k + 1)))).length drb)).base_le hgr2
      have O4 := (O4.put6 (b := g) hgl (.bool (qn (p (k + 1)))) (.slice Ara (digs (qt (p (k + 1)))).length cra) (.slice Dra (digs (qd (p (k + 1)))).length dra) (.bool (qn (q (k + 1)))) (.slice Arb (digs (qt (q (k + 1)))).length crb) (.slice Drb (digs (qd (q (k + 1)))).length drb)).base_le hgr2
      obtain ⟨W, hW⟩ : ∃ W, W = wr6 w21 g (.bool (qn (p (k + 1)))) (.slice Ara (digs (qt (p (k + 1)))).length cra) (.slice Dra (digs (qd (p (k + 1)))).length dra) (.bool (qn (q (k + 1)))) (.slice Arb (digs (qt (q (k + 1)))).length crb) (.slice Drb (digs (qd (q (k + 1)))).length drb) := ⟨_, rfl⟩
      rw [← hW] at sp kr O1 O2 O3 O4
      go_upto_region 19 with ((refine wp_st6 rfl (.tmp 7) (.tmp 75) rfl _ rfl _ _ _ _ _ _ rfl hRC rfl rfl rfl rfl rfl rfl ?_; rw [← hW]; clear hW))
      clear hRC B21 B20
      have j0 := sp.cell 0
      have j1 := sp.cell 1
      have j2 := sp.cell 2
      have j3 := sp.cell 3
      have j4 := sp.cell 4
      have j5 := sp.cell 5
      have hl := hLg (k + 1)
      by_cases hb : qw (p (k + 1)) ≤ 512 ∧ qw (q (k + 1)) ≤ 512
      · rw [decide_eq_true hb] at hl
        go_wp2_with fail
        refine (hl _ _ ⟨Ara, cra, Dra, dra, Arb, crb, Drb, drb, rfl, O1.rw, O2.rw, O3.rw, O4.rw⟩).mono ?_; rintro e w22 ⟨rfl, B22⟩
        have kk := kr.nx B22
        have sp := sp.nx B22
        have O1 := O1.below B22 (Nat.le_refl _)
        have O2 := O2.below B22 (Nat.le_refl _)
        have O3 := O3.below B22 (Nat.le_refl _)
        have O4 := O4.below B22 (Nat.le_refl _)
        go_wp2_with fail
        go_roundg (m - (k + 1))
        case measure => omega
        case rel => exact ⟨k + 1, Ara, Dra, Arb, Drb, cra, dra, crb, drb, by omega, rfl, by go_num, sp, O1, O2, O3, O4, Lib.hid (fun j hj => by
            by_cases hj2 : j ≤ k
            · exact hle.out j hj2
            · obtain rfl : j = k + 1 := by omega
              exact hb), kk⟩
      · rw [decide_eq_false hb] at hl
        have hans := hbig k hlt hb
        subst hans
        clear hbig hfit
        go_wp2_with fail
        refine (hl _ _ ⟨Ara, cra, Dra, dra, Arb, crb, Drb, drb, rfl, O1.rw, O2.rw, O3.rw, O4.rw⟩).mono ?_; rintro e w22 ⟨rfl, B22⟩
        have kk := kr.nx B22
        have sp := sp.nx B22
        have hRC := kk.2.1
        go_wp2_with (refine wp_st6 rfl (.tmp 4) (.tmp 78) rfl _ rfl _ _ _ _ _ _ rfl hRC rfl rfl rfl rfl rfl rfl ?_)
        have s6 := hRC.put6 (.bool false) (.slice none 0 0) (.slice none 0 0) (.bool false) (.slice none 0 0) (.slice none 0 0)
        have B6 := wr6_below (b := w.heap.size + 1) kk.2.2 (by omega) (.bool false) (.slice none 0 0) (.slice none 0 0) (.bool false) (.slice none 0 0) (.slice none 0 0)
        have r0' := s6.cell 0
        have r1' := s6.cell 1
        have r2' := s6.cell 2
        have r3' := s6.cell 3
        have r4' := s6.cell 4
        have r5' := s6.cell 5
        refine bodyPost_ret (v := .tuple #[.agg #[.bool false, .slice none 0 0, .slice none 0 0, .bool false, .slice none 0 0, .slice none 0 0], .int .i64 4]) (by simp [results, r0', r1', r2', r3', r4', r5', go_sem]) rfl ?_
        exact retNE_nil 4 B6
    · have hkm' : k = m := by omega
      have hbm := hle.out k (Nat.le_refl _)
      clear hlt hm1 hkm
      subst hkm'
      have hans := hfit (fun j h1 => hle.out j h1)
      subst hans
      clear hbig hfit hle hT hLg
      have hgr : w.heap.size + 2 ≤ wr.heap.size := by have := sp.2; omega
      have j0 := sp.cell 0
      have j1 := sp.cell 1
      have j2 := sp.cell 2
      have j3 := sp.cell 3
      have j4 := sp.cell 4
      have j5 := sp.cell 5
      go_wp2_with fail
      refine (hI _ _ ⟨Apa, cpa, Dpa, dpa, Apb, cpb, Dpb, dpb, rfl, h1.rw, h2.rw, h3.rw, h4.rw⟩ hbm).mono ?_; rintro e w21 ⟨Aua, cua, Dua, dua, Aub, cub, Dub, dub, rfl, O1, O2, O3, O4, B21⟩
      have kr := kr.nx B21
      have hgl := sp.2
      have sp := sp.nx B21
      have hRC := sp.rc (n := 6)
      clear j0 j1 j2 j3 j4 j5 h1 h2 h3 h4
      have sp := hRC.put6 (.bool (qn ip)) (.slice Aua (digs (qt ip)).length cua) (.slice Dua (digs (qd ip)).length dua) (.bool (qn iq)) (.slice Aub (digs (qt iq)).length cub) (.slice Dub (digs (qd iq)).length dub)
      have kr := kr.far6 hg (.bool (qn ip)) (.slice Aua (digs (qt ip)).length cua) (.slice Dua (digs (qd ip)).length dua) (.bool (qn iq)) (.slice Aub (digs (qt iq)).length cub) (.slice Dub (digs (qd iq)).length dub)
      have O1 := O1.put6 (b := g) hgl (.bool (qn ip)) (.slice Aua (digs (qt ip)).length cua) (.slice Dua (digs (qd ip)).length dua) (.bool (qn iq)) (.slice Aub (digs (qt iq)).length cub) (.slice Dub (digs (qd iq)).length dub)
      have O2 := O2.put6 (b := g) hgl (.bool (qn ip)) (.slice Aua (digs (qt ip)).length cua) (.slice Dua (digs (qd ip)).length dua) (.bool (qn iq)) (.slice Aub (digs (qt iq)).length cub) (.slice Dub (digs (qd iq)).length dub)
      have O3 := O3.put6 (b := g) hgl (.bool (qn ip)) (.slice Aua (digs (qt ip)).length cua) (.slice Dua (digs (qd ip)).length dua) (.bool (qn iq)) (.slice Aub (digs (qt iq)).length cub) (.slice Dub (digs (qd iq)).length dub)
      have O4 := O4.put6 (b := g) hgl (.bool (qn ip)) (.slice Aua (digs (qt ip)).length cua) (.slice Dua (digs (qd ip)).length dua) (.bool (qn iq)) (.slice Aub (digs (qt iq)).length cub) (.slice Dub (digs (qd iq)).length dub)
      have hb0 : w.heap.size + 2 ≤ wr.heap.size := by omega
      have O1 := O1.base_le hb0
      have O2 := O2.base_le hb0
      have O3 := O3.base_le hb0
      have O4 := O4.base_le hb0
      obtain ⟨W, hW⟩ : ∃ W, W = wr6 w21 g (.bool (qn ip)) (.slice Aua (digs (qt ip)).length cua) (.slice Dua (digs (qd ip)).length dua) (.bool (qn iq)) (.slice Aub (digs (qt iq)).length cub) (.slice Dub (digs (qd iq)).length dub) := ⟨_, rfl⟩
      rw [← hW] at sp kr O1 O2 O3 O4
      go_upto_region 23 with ((refine wp_st6 rfl (.tmp 7) (.tmp 82) rfl _ rfl _ _ _ _ _ _ rfl hRC rfl rfl rfl rfl rfl rfl ?_; rw [← hW]; clear hW))
      clear hRC B21
      have j0 := sp.cell 0
      have j1 := sp.cell 1
      have j2 := sp.cell 2
      have j3 := sp.cell 3
      have j4 := sp.cell 4
      have j5 := sp.cell 5
      go_wp2_with fail
      refine (hF _ _ _ _ _ _ _ _ _ _ O1 O2 O3 O4).mono ?_; rintro e w7 ⟨A7, c7, D7, d7, A8, c8, D8, d8, rfl, Q1, Q2, Q3, Q4, B7⟩
      dsimp only at Q1 Q2 Q3 Q4
      have sz : w.heap.size + 1 < w.heap.size + 2 := Nat.lt_succ_self _
      have kk := kr.nx B7
      have hRC := kk.2.1
      go_wp2_with (refine wp_st6 rfl (.tmp 4) (.tmp 85) rfl _ rfl _ _ _ _ _ _ rfl hRC rfl rfl rfl rfl rfl rfl ?_)
      have s6 := hRC.put6 (.bool fr.s) (.slice A7 fr.a.length c7) (.slice D7 fr.b.length d7) (.bool fi.s) (.slice A8 fi.a.length c8) (.slice D8 fi.b.length d8)
      have B6 := wr6_below (b := w.heap.size + 1) kk.2.2 (by omega) (.bool fr.s) (.slice A7 fr.a.length c7) (.slice D7 fr.b.length d7) (.bool fi.s) (.slice A8 fi.a.length c8) (.slice D8 fi.b.length d8)
      have O1 := Q1.put6 (b := w.heap.size + 1) sz (.bool fr.s) (.slice A7 fr.a.length c7) (.slice D7 fr.b.length d7) (.bool fi.s) (.slice A8 fi.a.length c8) (.slice D8 fi.b.length d8)
      have O2 := Q2.put6 (b := w.heap.size + 1) sz (.bool fr.s) (.slice A7 fr.a.length c7) (.slice D7 fr.b.length d7) (.bool fi.s) (.slice A8 fi.a.length c8) (.slice D8 fi.b.length d8)
      have O3 := Q3.put6 (b := w.heap.size + 1) sz (.bool fr.s) (.slice A7 fr.a.length c7) (.slice D7 fr.b.length d7) (.bool fi.s) (.slice A8 fi.a.length c8) (.slice D8 fi.b.length d8)
      have O4 := Q4.put6 (b := w.heap.size + 1) sz (.bool fr.s) (.slice A7 fr.a.length c7) (.slice D7 fr.b.length d7) (.bool fi.s) (.slice A8 fi.a.length c8) (.slice D8 fi.b.length d8)
      have r0' := s6.cell 0
      have r1' := s6.cell 1
      have r2' := s6.cell 2
      have r3' := s6.cell 3
      have r4' := s6.cell 4
      have r5' := s6.cell 5
      refine bodyPost_ret (v := .tuple #[.agg #[.bool fr.s, .slice A7 fr.a.length c7, .slice D7 fr.b.length d7, .bool fi.s, .slice A8 fi.a.length c8, .slice D8 fi.b.length d8], .int .i64 fk]) (by simp [results, r0', r1', r2', r3', r4', r5', go_sem]) rfl ?_
      have hle : w.heap.size ≤ w.heap.size + 2 := by omega
      exact ⟨A7, c7, D7, d7, A8, c8, D8, d8, rfl, O1.base_le hle, O2.base_le hle, O3.base_le hle, O4.base_le hle, B6⟩

end Go.Proofs.Ytdkejndagicgjaa
