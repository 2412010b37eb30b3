/- Merged texts: ExK, ExW, ExP, ExU, EyA, EyB. -/
import Derived.Test.YtdkejndagicgjaaGI
import Derived.Test.YtdkejndagicgjaaGK
import Derived.Test.YtdkejndagicgjaaGL
import Derived.Test.YtdkejndagicgjaaGF
import Derived.Test.YtdkejndagicgjaaGC
import Derived.Test.YtdkejndagicgjaaGB
namespace Go.Proofs.Ytdkejndagicgjaa
open Go.RowKit

theorem largeB_q {x y : Rat} : largeB (rwq x) (rwq y) = !decide (qw x ≤ 512 ∧ qw y ≤ 512) := by
  unfold largeB rwq qw
  dsimp only
  rw [Bool.eq_iff_iff]
  simp only [Bool.or_eq_true, decide_eq_true_eq, Bool.not_eq_true', decide_eq_false_iff_not, Nat.max_le]
  omega
/-- fit of what is of one's own -/
def RetF (w : World) (base : Nat) (x : Rw × Rw × Int) (e : Ending) (w' : World) : Prop := ∃ A1 c1 D1 d1 A2 c2 D2 d2, e = .returned (.tuple #[.agg #[.bool x.1.s, .slice A1 x.1.a.length c1, .slice D1 x.1.b.length d1, .bool x.2.1.s, .slice A2 x.2.1.a.length c2, .slice D2 x.2.1.b.length d2], .int .i64 x.2.2]) ∧
  OW w' base A1 c1 x.1.a ∧ OW w' base D1 d1 x.1.b ∧ OW w' base A2 c2 x.2.1.a ∧ OW w' base D2 d2 x.2.1.b ∧ Below w.heap.size w w'
theorem rfitq_any (X Y : Rat) (A1 D1 A2 D2 : Option Addr) (c1 d1 c2 d2 base : Nat) (w : World) (h1 : OW w base A1 c1 (rwq X).a) (h2 : OW w base D1 d1 (rwq X).b) (h3 : OW w base A2 c2 (rwq Y).a) (h4 : OW w base D2 d2 (rwq Y).b) :
    Calls Try.prog 47 #[.agg #[.bool (rwq X).s, .slice A1 (rwq X).a.length c1, .slice D1 (rwq X).b.length d1, .bool (rwq Y).s, .slice A2 (rwq Y).a.length c2, .slice D2 (rwq Y).b.length d2]] w (RetF w base (fitQ X Y)) := by
  have h := rfitn_any (.agg #[.bool (rwq X).s, .slice A1 (rwq X).a.length c1, .slice D1 (rwq X).b.length d1, .bool (rwq Y).s, .slice A2 (rwq Y).a.length c2, .slice D2 (rwq Y).b.length d2]) (rwq X) (rwq Y) w ⟨A1, c1, D1, d1, A2, c2, D2, d2, rfl, h1.rw, h2.rw, h3.rw, h4.rw⟩
  rw [largeB_q] at h
  refine h.mono ?_
  rintro e w' ⟨rfl, B⟩
  unfold fitQ
  by_cases hq : qw X ≤ 512 ∧ qw Y ≤ 512
  · rw [if_pos hq, decide_eq_true hq, if_neg (by simp)]
    exact ⟨A1, c1, D1, d1, A2, c2, D2, d2, rfl, h1.below B (Nat.le_refl _), h2.below B (Nat.le_refl _), h3.below B (Nat.le_refl _), h4.below B (Nat.le_refl _), B⟩
  · rw [if_neg hq, decide_eq_false hq, if_pos (by simp)]
    exact ⟨none, 0, none, 0, none, 0, none, 0, rfl, OW.nil _ _, OW.nil _ _, OW.nil _ _, OW.nil _ _, B⟩


set_option maxRecDepth 100000 in
set_option maxHeartbeats 4000000 in
theorem rmul_bad (V U : Value) (r i r' i' : Rw) (w : World) (hV : VN w w.heap.size V r i) (hU : VN w w.heap.size U r' i') (hb : ¬ (nB r i = true ∧ nB r' i' = true)) :
    Calls Try.prog 13 #[V, U] w (RetNE w (rw0, rw0, 2)) := by
  obtain ⟨A1, c1, D1, d1, A2, c2, D2, d2, rfl, p1, p2, p3, p4⟩ := hV
  obtain ⟨E1, e1, F1, f1, E2, e2, F2, f2, rfl, p5, p6, p7, p8⟩ := hU
  have Ha : VN w w.heap.size (.agg #[.bool r.s, .slice A1 r.a.length c1, .slice D1 r.b.length d1, .bool i.s, .slice A2 i.a.length c2, .slice D2 i.b.length d2]) r i := ⟨A1, c1, D1, d1, A2, c2, D2, d2, rfl, p1, p2, p3, p4⟩
  have Hb : VN w w.heap.size (.agg #[.bool r'.s, .slice E1 r'.a.length e1, .slice F1 r'.b.length f1, .bool i'.s, .slice E2 i'.a.length e2, .slice F2 i'.b.length f2]) r' i' := ⟨E1, e1, F1, f1, E2, e2, F2, f2, rfl, p5, p6, p7, p8⟩
  clear p1 p2 p3 p4 p5 p6 p7 p8
  have k0 := S3.new w [.bool r.s, .slice A1 r.a.length c1, .slice D1 r.b.length d1, .bool i.s, .slice A2 i.a.length c2, .slice D2 i.b.length d2] [.bool r'.s, .slice E1 r'.a.length e1, .slice F1 r'.b.length f1, .bool i'.s, .slice E2 i'.a.length e2, .slice F2 i'.b.length f2] [.bool false, .slice none 0 0, .slice none 0 0, .bool false, .slice none 0 0, .slice none 0 0] 26 26 26 6
  have C0 := k0.2.2.2
  have i0 := k0.1.cell 0
  have i1 := k0.1.cell 1
  have i2 := k0.1.cell 2
  have i3 := k0.1.cell 3
  have i4 := k0.1.cell 4
  have i5 := k0.1.cell 5
  have hs1 := fun V w' h => resound_any V r i w' h
  have hs2 := fun V w' h => resound_any V r' i' w' h
  generalize nB r i = t1 at *
  generalize nB r' i' = t2 at *
  cases t1 with
  | false =>
    clear hb
    go_enter Try.func13, Try.ntmps13
    go_wp2_with fail
    refine (hs1 _ _ (Ha.st C0)).mono ?_; rintro e w3 ⟨rfl, B3⟩
    have k3 := k0.nx B3
    have hRC := k3.2.2.1
    go_wp2_with (refine wp_st6 rfl (.tmp 4) (.tmp 14) rfl _ rfl _ _ _ _ _ _ rfl hRC rfl rfl rfl rfl rfl rfl ?_)
    have s6 := hRC.put6 (.bool false) (.slice none 0 0) (.slice none 0 0) (.bool false) (.slice none 0 0) (.slice none 0 0)
    have B6 := wr6_below (b := w.heap.size + 2) k3.2.2.2 (by omega) (.bool false) (.slice none 0 0) (.slice none 0 0) (.bool false) (.slice none 0 0) (.slice none 0 0)
    have r0' := s6.cell 0
    have r1' := s6.cell 1
    have r2' := s6.cell 2
    have r3' := s6.cell 3
    have r4' := s6.cell 4
    have r5' := s6.cell 5
    refine bodyPost_ret (v := .tuple #[.agg #[.bool false, .slice none 0 0, .slice none 0 0, .bool false, .slice none 0 0, .slice none 0 0], .int .i64 2]) (by simp [results, r0', r1', r2', r3', r4', r5', go_sem]) rfl ?_
    exact retNE_nil 2 B6
  | true =>
    cases t2 with
    | true => exact absurd ⟨rfl, rfl⟩ hb
    | false =>
      clear hb
      go_enter Try.func13, Try.ntmps13
      go_wp2_with fail
      refine (hs1 _ _ (Ha.st C0)).mono ?_; rintro e w3 ⟨rfl, B3⟩
      have k3 := k0.nx B3
      have C3 := k3.2.2.2
      have j0 := k3.2.1.cell 0
      have j1 := k3.2.1.cell 1
      have j2 := k3.2.1.cell 2
      have j3 := k3.2.1.cell 3
      have j4 := k3.2.1.cell 4
      have j5 := k3.2.1.cell 5
      go_wp2_with fail
      refine (hs2 _ _ (Hb.st C3)).mono ?_; rintro e w4 ⟨rfl, B4⟩
      have k4 := k3.nx B4
      have hRC := k4.2.2.1
      go_wp2_with (refine wp_st6 rfl (.tmp 4) (.tmp 14) rfl _ rfl _ _ _ _ _ _ rfl hRC rfl rfl rfl rfl rfl rfl ?_)
      have s6 := hRC.put6 (.bool false) (.slice none 0 0) (.slice none 0 0) (.bool false) (.slice none 0 0) (.slice none 0 0)
      have B6 := wr6_below (b := w.heap.size + 2) k4.2.2.2 (by omega) (.bool false) (.slice none 0 0) (.slice none 0 0) (.bool false) (.slice none 0 0) (.slice none 0 0)
      have r0' := s6.cell 0
      have r1' := s6.cell 1
      have r2' := s6.cell 2
      have r3' := s6.cell 3
      have r4' := s6.cell 4
      have r5' := s6.cell 5
      refine bodyPost_ret (v := .tuple #[.agg #[.bool false, .slice none 0 0, .slice none 0 0, .bool false, .slice none 0 0, .slice none 0 0], .int .i64 2]) (by simp [results, r0', r1', r2', r3', r4', r5', go_sem]) rfl ?_
      exact retNE_nil 2 B6


set_option maxRecDepth 100000 in
set_option maxHeartbeats 4000000 in
theorem rmul_ok (V U : Value) (x y u v : Rat) (w : World) (hV : RN w w.heap.size V x y) (hU : RN w w.heap.size U u v) (bx : qw x ≤ 512) (bY : qw y ≤ 512) (bu : qw u ≤ 512) (bv : qw v ≤ 512) :
    Calls Try.prog 13 #[V, U] w (RetNE w (fitQ (x * u + -(y * v)) (x * v + y * u))) := by
  obtain ⟨A1, c1, D1, d1, A2, c2, D2, d2, rfl, p1, p2, p3, p4⟩ := hV
  obtain ⟨E1, e1, F1, f1, E2, e2, F2, f2, rfl, p5, p6, p7, p8⟩ := hU
  have Ha : VN w w.heap.size (.agg #[.bool (rwq x).s, .slice A1 (rwq x).a.length c1, .slice D1 (rwq x).b.length d1, .bool (rwq y).s, .slice A2 (rwq y).a.length c2, .slice D2 (rwq y).b.length d2]) (rwq x) (rwq y) := ⟨A1, c1, D1, d1, A2, c2, D2, d2, rfl, p1, p2, p3, p4⟩
  have Hb : VN w w.heap.size (.agg #[.bool (rwq u).s, .slice E1 (rwq u).a.length e1, .slice F1 (rwq u).b.length f1, .bool (rwq v).s, .slice E2 (rwq v).a.length e2, .slice F2 (rwq v).b.length f2]) (rwq u) (rwq v) := ⟨E1, e1, F1, f1, E2, e2, F2, f2, rfl, p5, p6, p7, p8⟩
  clear p1 p2 p3 p4 p5 p6 p7 p8
  have k0 := S3.new w [.bool (rwq x).s, .slice A1 (rwq x).a.length c1, .slice D1 (rwq x).b.length d1, .bool (rwq y).s, .slice A2 (rwq y).a.length c2, .slice D2 (rwq y).b.length d2] [.bool (rwq u).s, .slice E1 (rwq u).a.length e1, .slice F1 (rwq u).b.length f1, .bool (rwq v).s, .slice E2 (rwq v).a.length e2, .slice F2 (rwq v).b.length f2] [.bool false, .slice none 0 0, .slice none 0 0, .bool false, .slice none 0 0, .slice none 0 0] 26 26 26 6
  have C0 := k0.2.2.2
  have i0 := k0.1.cell 0
  have i1 := k0.1.cell 1
  have i2 := k0.1.cell 2
  have i3 := k0.1.cell 3
  have i4 := k0.1.cell 4
  have i5 := k0.1.cell 5
  have hs1 := fun V w' h => resound_any V (rwq x) (rwq y) w' h
  have hs2 := fun V w' h => resound_any V (rwq u) (rwq v) w' h
  rw [nB_rwq bx bY] at hs1
  rw [nB_rwq bu bv] at hs2
  have hT := fun V U w' h1 h2 => rtimes_rat V U x y u v w' h1 h2 (by omega) (by omega) (by omega) (by omega)
  have hF := fun A1 D1 A2 D2 c1 d1 c2 d2 base w' h1 h2 h3 h4 => rfitq_any (x * u + -(y * v)) (x * v + y * u) A1 D1 A2 D2 c1 d1 c2 d2 base w' h1 h2 h3 h4
  generalize fitQ (x * u + -(y * v)) (x * v + y * u) = ft at *
  obtain ⟨fr, fi, fk⟩ := ft
  generalize rwq (x * u + -(y * v)) = X at *
  generalize rwq (x * v + y * u) = Y at *
  clear bx bY bu bv
  go_enter Try.func13, Try.ntmps13
  go_wp2_with fail
  refine (hs1 _ _ (Ha.st C0)).mono ?_; rintro e w3 ⟨rfl, B3⟩
  have k3 := k0.nx B3
  have C3 := k3.2.2.2
  have j0 := k3.2.1.cell 0
  have j1 := k3.2.1.cell 1
  have j2 := k3.2.1.cell 2
  have j3 := k3.2.1.cell 3
  have j4 := k3.2.1.cell 4
  have j5 := k3.2.1.cell 5
  go_wp2_with fail
  refine (hs2 _ _ (Hb.st C3)).mono ?_; rintro e w4 ⟨rfl, B4⟩
  have k4 := k3.nx B4
  have C4 := k4.2.2.2
  clear i0 i1 i2 i3 i4 i5 j0 j1 j2 j3 j4 j5
  have i0 := k4.1.cell 0
  have i1 := k4.1.cell 1
  have i2 := k4.1.cell 2
  have i3 := k4.1.cell 3
  have i4 := k4.1.cell 4
  have i5 := k4.1.cell 5
  have j0 := k4.2.1.cell 0
  have j1 := k4.2.1.cell 1
  have j2 := k4.2.1.cell 2
  have j3 := k4.2.1.cell 3
  have j4 := k4.2.1.cell 4
  have j5 := k4.2.1.cell 5
  go_wp2_with fail
  refine (hT _ _ _ (Ha.st C4) (Hb.st C4)).mono ?_; rintro e w5 ⟨A5, c5, D5, d5, A6, c6, D6, d6, rfl, O1, O2, O3, O4, B5⟩
  have k5 := k4.nx B5
  go_wp2_with fail
  refine (hF _ _ _ _ _ _ _ _ _ _ O1 O2 O3 O4).mono ?_; rintro e w6 ⟨A7, c7, D7, d7, A8, c8, D8, d8, rfl, Q1, Q2, Q3, Q4, B6⟩
  dsimp only at Q1 Q2 Q3 Q4
  clear O1 O2 O3 O4
  have kk := k5.nx B6
  have sz := k4.2.2.1.2
  have hRC := kk.2.2.1
  go_wp2_with (refine wp_st6 rfl (.tmp 4) (.tmp 19) rfl _ rfl _ _ _ _ _ _ rfl hRC rfl rfl rfl rfl rfl rfl ?_)
  have s6 := kk.2.2.1.put6 (.bool fr.s) (.slice A7 fr.a.length c7) (.slice D7 fr.b.length d7) (.bool fi.s) (.slice A8 fi.a.length c8) (.slice D8 fi.b.length d8)
  have B6 := wr6_below (b := w.heap.size + 2) kk.2.2.2 (by omega) (.bool fr.s) (.slice A7 fr.a.length c7) (.slice D7 fr.b.length d7) (.bool fi.s) (.slice A8 fi.a.length c8) (.slice D8 fi.b.length d8)
  have O1 := Q1.put6 (b := w.heap.size + 2) sz (.bool fr.s) (.slice A7 fr.a.length c7) (.slice D7 fr.b.length d7) (.bool fi.s) (.slice A8 fi.a.length c8) (.slice D8 fi.b.length d8)
  have O2 := Q2.put6 (b := w.heap.size + 2) sz (.bool fr.s) (.slice A7 fr.a.length c7) (.slice D7 fr.b.length d7) (.bool fi.s) (.slice A8 fi.a.length c8) (.slice D8 fi.b.length d8)
  have O3 := Q3.put6 (b := w.heap.size + 2) sz (.bool fr.s) (.slice A7 fr.a.length c7) (.slice D7 fr.b.length d7) (.bool fi.s) (.slice A8 fi.a.length c8) (.slice D8 fi.b.length d8)
  have O4 := Q4.put6 (b := w.heap.size + 2) sz (.bool fr.s) (.slice A7 fr.a.length c7) (.slice D7 fr.b.length d7) (.bool fi.s) (.slice A8 fi.a.length c8) (.slice D8 fi.b.length d8)
  have r0' := s6.cell 0
  have r1' := s6.cell 1
  have r2' := s6.cell 2
  have r3' := s6.cell 3
  have r4' := s6.cell 4
  have r5' := s6.cell 5
  refine bodyPost_ret (v := .tuple #[.agg #[.bool fr.s, .slice A7 fr.a.length c7, .slice D7 fr.b.length d7, .bool fi.s, .slice A8 fi.a.length c8, .slice D8 fi.b.length d8], .int .i64 fk]) (by simp [results, r0', r1', r2', r3', r4', r5', go_sem]) rfl ?_
  have hle := Nat.le_of_lt (Nat.lt_of_succ_lt (Nat.lt_of_succ_lt sz))
  exact ⟨A7, c7, D7, d7, A8, c8, D8, d8, rfl, O1.base_le hle, O2.base_le hle, O3.base_le hle, O4.base_le hle, B6⟩


set_option maxRecDepth 100000 in
set_option maxHeartbeats 4000000 in
theorem rdiv_bad (V U : Value) (r i r' i' : Rw) (w : World) (hV : VN w w.heap.size V r i) (hU : VN w w.heap.size U r' i') (hb : ¬ (nB r i = true ∧ nB r' i' = true)) :
    Calls Try.prog 15 #[V, U] w (RetNE w (rw0, rw0, 2)) := by
  obtain ⟨A1, c1, D1, d1, A2, c2, D2, d2, rfl, p1, p2, p3, p4⟩ := hV
  obtain ⟨E1, e1, F1, f1, E2, e2, F2, f2, rfl, p5, p6, p7, p8⟩ := hU
  have Ha : VN w w.heap.size (.agg #[.bool r.s, .slice A1 r.a.length c1, .slice D1 r.b.length d1, .bool i.s, .slice A2 i.a.length c2, .slice D2 i.b.length d2]) r i := ⟨A1, c1, D1, d1, A2, c2, D2, d2, rfl, p1, p2, p3, p4⟩
  have Hb : VN w w.heap.size (.agg #[.bool r'.s, .slice E1 r'.a.length e1, .slice F1 r'.b.length f1, .bool i'.s, .slice E2 i'.a.length e2, .slice F2 i'.b.length f2]) r' i' := ⟨E1, e1, F1, f1, E2, e2, F2, f2, rfl, p5, p6, p7, p8⟩
  clear p1 p2 p3 p4 p5 p6 p7 p8
  have k0 := S3.new w [.bool r.s, .slice A1 r.a.length c1, .slice D1 r.b.length d1, .bool i.s, .slice A2 i.a.length c2, .slice D2 i.b.length d2] [.bool r'.s, .slice E1 r'.a.length e1, .slice F1 r'.b.length f1, .bool i'.s, .slice E2 i'.a.length e2, .slice F2 i'.b.length f2] [.bool false, .slice none 0 0, .slice none 0 0, .bool false, .slice none 0 0, .slice none 0 0] 26 26 26 6
  have C0 := k0.2.2.2
  have i0 := k0.1.cell 0
  have i1 := k0.1.cell 1
  have i2 := k0.1.cell 2
  have i3 := k0.1.cell 3
  have i4 := k0.1.cell 4
  have i5 := k0.1.cell 5
  have hs1 := fun V w' h => resound_any V r i w' h
  have hs2 := fun V w' h => resound_any V r' i' w' h
  generalize nB r i = t1 at *
  generalize nB r' i' = t2 at *
  cases t1 with
  | false =>
    clear hb
    go_enter Try.func15, Try.ntmps15
    go_wp2_with fail
    refine (hs1 _ _ (Ha.st C0)).mono ?_; rintro e w3 ⟨rfl, B3⟩
    have k3 := k0.nx B3
    have hRC := k3.2.2.1
    go_wp2_with (refine wp_st6 rfl (.tmp 4) (.tmp 14) rfl _ rfl _ _ _ _ _ _ rfl hRC rfl rfl rfl rfl rfl rfl ?_)
    have s6 := hRC.put6 (.bool false) (.slice none 0 0) (.slice none 0 0) (.bool false) (.slice none 0 0) (.slice none 0 0)
    have B6 := wr6_below (b := w.heap.size + 2) k3.2.2.2 (by omega) (.bool false) (.slice none 0 0) (.slice none 0 0) (.bool false) (.slice none 0 0) (.slice none 0 0)
    have r0' := s6.cell 0
    have r1' := s6.cell 1
    have r2' := s6.cell 2
    have r3' := s6.cell 3
    have r4' := s6.cell 4
    have r5' := s6.cell 5
    refine bodyPost_ret (v := .tuple #[.agg #[.bool false, .slice none 0 0, .slice none 0 0, .bool false, .slice none 0 0, .slice none 0 0], .int .i64 2]) (by simp [results, r0', r1', r2', r3', r4', r5', go_sem]) rfl ?_
    exact retNE_nil 2 B6
  | true =>
    cases t2 with
    | true => exact absurd ⟨rfl, rfl⟩ hb
    | false =>
      clear hb
      go_enter Try.func15, Try.ntmps15
      go_wp2_with fail
      refine (hs1 _ _ (Ha.st C0)).mono ?_; rintro e w3 ⟨rfl, B3⟩
      have k3 := k0.nx B3
      have C3 := k3.2.2.2
      have j0 := k3.2.1.cell 0
      have j1 := k3.2.1.cell 1
      have j2 := k3.2.1.cell 2
      have j3 := k3.2.1.cell 3
      have j4 := k3.2.1.cell 4
      have j5 := k3.2.1.cell 5
      go_wp2_with fail
      refine (hs2 _ _ (Hb.st C3)).mono ?_; rintro e w4 ⟨rfl, B4⟩
      have k4 := k3.nx B4
      have hRC := k4.2.2.1
      go_wp2_with (refine wp_st6 rfl (.tmp 4) (.tmp 14) rfl _ rfl _ _ _ _ _ _ rfl hRC rfl rfl rfl rfl rfl rfl ?_)
      have s6 := hRC.put6 (.bool false) (.slice none 0 0) (.slice none 0 0) (.bool false) (.slice none 0 0) (.slice none 0 0)
      have B6 := wr6_below (b := w.heap.size + 2) k4.2.2.2 (by omega) (.bool false) (.slice none 0 0) (.slice none 0 0) (.bool false) (.slice none 0 0) (.slice none 0 0)
      have r0' := s6.cell 0
      have r1' := s6.cell 1
      have r2' := s6.cell 2
      have r3' := s6.cell 3
      have r4' := s6.cell 4
      have r5' := s6.cell 5
      refine bodyPost_ret (v := .tuple #[.agg #[.bool false, .slice none 0 0, .slice none 0 0, .bool false, .slice none 0 0, .slice none 0 0], .int .i64 2]) (by simp [results, r0', r1', r2', r3', r4', r5', go_sem]) rfl ?_
      exact retNE_nil 2 B6


set_option maxRecDepth 100000 in
set_option maxHeartbeats 4000000 in
theorem rdiv_zero (V U : Value) (x y u v : Rat) (w : World) (hV : RN w w.heap.size V x y) (hU : RN w w.heap.size U u v) (bx : qw x ≤ 512) (bY : qw y ≤ 512) (bu : qw u ≤ 512) (bv : qw v ≤ 512) (hz : u = 0 ∧ v = 0) :
    Calls Try.prog 15 #[V, U] w (RetNE w (rw0, rw0, 3)) := by
  obtain ⟨A1, c1, D1, d1, A2, c2, D2, d2, rfl, p1, p2, p3, p4⟩ := hV
  obtain ⟨E1, e1, F1, f1, E2, e2, F2, f2, rfl, p5, p6, p7, p8⟩ := hU
  have Ha : VN w w.heap.size (.agg #[.bool (rwq x).s, .slice A1 (rwq x).a.length c1, .slice D1 (rwq x).b.length d1, .bool (rwq y).s, .slice A2 (rwq y).a.length c2, .slice D2 (rwq y).b.length d2]) (rwq x) (rwq y) := ⟨A1, c1, D1, d1, A2, c2, D2, d2, rfl, p1, p2, p3, p4⟩
  have Hb : VN w w.heap.size (.agg #[.bool (rwq u).s, .slice E1 (rwq u).a.length e1, .slice F1 (rwq u).b.length f1, .bool (rwq v).s, .slice E2 (rwq v).a.length e2, .slice F2 (rwq v).b.length f2]) (rwq u) (rwq v) := ⟨E1, e1, F1, f1, E2, e2, F2, f2, rfl, p5, p6, p7, p8⟩
  clear p1 p2 p3 p4 p5 p6 p7 p8
  have k0 := S3.new w [.bool (rwq x).s, .slice A1 (rwq x).a.length c1, .slice D1 (rwq x).b.length d1, .bool (rwq y).s, .slice A2 (rwq y).a.length c2, .slice D2 (rwq y).b.length d2] [.bool (rwq u).s, .slice E1 (rwq u).a.length e1, .slice F1 (rwq u).b.length f1, .bool (rwq v).s, .slice E2 (rwq v).a.length e2, .slice F2 (rwq v).b.length f2] [.bool false, .slice none 0 0, .slice none 0 0, .bool false, .slice none 0 0, .slice none 0 0] 26 26 26 6
  have C0 := k0.2.2.2
  have i0 := k0.1.cell 0
  have i1 := k0.1.cell 1
  have i2 := k0.1.cell 2
  have i3 := k0.1.cell 3
  have i4 := k0.1.cell 4
  have i5 := k0.1.cell 5
  have hs1 := fun V w' h => resound_any V (rwq x) (rwq y) w' h
  have hs2 := fun V w' h => resound_any V (rwq u) (rwq v) w' h
  rw [nB_rwq bx bY] at hs1
  rw [nB_rwq bu bv] at hs2
  have hZ := fun V w' h => risZero_any V (rwq u) (rwq v) w' h
  rw [zeroB_q] at hZ
  rw [decide_eq_true hz] at hZ
  clear hz bx bY bu bv
  go_enter Try.func15, Try.ntmps15
  go_wp2_with fail
  refine (hs1 _ _ (Ha.st C0)).mono ?_; rintro e w3 ⟨rfl, B3⟩
  have k3 := k0.nx B3
  have C3 := k3.2.2.2
  have j0 := k3.2.1.cell 0
  have j1 := k3.2.1.cell 1
  have j2 := k3.2.1.cell 2
  have j3 := k3.2.1.cell 3
  have j4 := k3.2.1.cell 4
  have j5 := k3.2.1.cell 5
  go_wp2_with fail
  refine (hs2 _ _ (Hb.st C3)).mono ?_; rintro e w4 ⟨rfl, B4⟩
  have k4 := k3.nx B4
  have C4 := k4.2.2.2
  clear i0 i1 i2 i3 i4 i5 j0 j1 j2 j3 j4 j5
  have j0 := k4.2.1.cell 0
  have j1 := k4.2.1.cell 1
  have j2 := k4.2.1.cell 2
  have j3 := k4.2.1.cell 3
  have j4 := k4.2.1.cell 4
  have j5 := k4.2.1.cell 5
  go_wp2_with fail
  refine (hZ _ _ (Hb.st C4)).mono ?_; rintro e w5 ⟨rfl, B5⟩
  have k5 := k4.nx B5
  clear j0 j1 j2 j3 j4 j5
  have hRC := k5.2.2.1
  go_wp2_with (refine wp_st6 rfl (.tmp 4) (.tmp 17) rfl _ rfl _ _ _ _ _ _ rfl hRC rfl rfl rfl rfl rfl rfl ?_)
  have s6 := hRC.put6 (.bool false) (.slice none 0 0) (.slice none 0 0) (.bool false) (.slice none 0 0) (.slice none 0 0)
  have B6 := wr6_below (b := w.heap.size + 2) k5.2.2.2 (by omega) (.bool false) (.slice none 0 0) (.slice none 0 0) (.bool false) (.slice none 0 0) (.slice none 0 0)
  have r0' := s6.cell 0
  have r1' := s6.cell 1
  have r2' := s6.cell 2
  have r3' := s6.cell 3
  have r4' := s6.cell 4
  have r5' := s6.cell 5
  refine bodyPost_ret (v := .tuple #[.agg #[.bool false, .slice none 0 0, .slice none 0 0, .bool false, .slice none 0 0, .slice none 0 0], .int .i64 3]) (by simp [results, r0', r1', r2', r3', r4', r5', go_sem]) rfl ?_
  exact retNE_nil 3 B6


set_option maxRecDepth 100000 in
set_option maxHeartbeats 16000000 in
theorem rdiv_ok (V U : Value) (x y u v : Rat) (w : World) (hV : RN w w.heap.size V x y) (hU : RN w w.heap.size U u v) (bx : qw x ≤ 512) (bY : qw y ≤ 512) (bu : qw u ≤ 512) (bv : qw v ≤ 512) (hz : ¬ (u = 0 ∧ v = 0)) :
    Calls Try.prog 15 #[V, U] w (RetNE w (divQ x y u v)) := by
  unfold divQ
  obtain ⟨A1, c1, D1, d1, A2, c2, D2, d2, rfl, p1, p2, p3, p4⟩ := hV
  obtain ⟨E1, e1, F1, f1, E2, e2, F2, f2, rfl, p5, p6, p7, p8⟩ := hU
  have Ha : VN w w.heap.size (.agg #[.bool (rwq x).s, .slice A1 (rwq x).a.length c1, .slice D1 (rwq x).b.length d1, .bool (rwq y).s, .slice A2 (rwq y).a.length c2, .slice D2 (rwq y).b.length d2]) (rwq x) (rwq y) := ⟨A1, c1, D1, d1, A2, c2, D2, d2, rfl, p1, p2, p3, p4⟩
  have Hb : VN w w.heap.size (.agg #[.bool (rwq u).s, .slice E1 (rwq u).a.length e1, .slice F1 (rwq u).b.length f1, .bool (rwq v).s, .slice E2 (rwq v).a.length e2, .slice F2 (rwq v).b.length f2]) (rwq u) (rwq v) := ⟨E1, e1, F1, f1, E2, e2, F2, f2, rfl, p5, p6, p7, p8⟩
  clear p1 p2 p3 p4 p5 p6 p7 p8
  have k0 := S3.new w [.bool (rwq x).s, .slice A1 (rwq x).a.length c1, .slice D1 (rwq x).b.length d1, .bool (rwq y).s, .slice A2 (rwq y).a.length c2, .slice D2 (rwq y).b.length d2] [.bool (rwq u).s, .slice E1 (rwq u).a.length e1, .slice F1 (rwq u).b.length f1, .bool (rwq v).s, .slice E2 (rwq v).a.length e2, .slice F2 (rwq v).b.length f2] [.bool false, .slice none 0 0, .slice none 0 0, .bool false, .slice none 0 0, .slice none 0 0] 26 26 26 6
  have C0 := k0.2.2.2
  have i0 := k0.1.cell 0
  have i1 := k0.1.cell 1
  have i2 := k0.1.cell 2
  have i3 := k0.1.cell 3
  have i4 := k0.1.cell 4
  have i5 := k0.1.cell 5
  have hs1 := fun V w' h => resound_any V (rwq x) (rwq y) w' h
  have hs2 := fun V w' h => resound_any V (rwq u) (rwq v) w' h
  rw [nB_rwq bx bY] at hs1
  rw [nB_rwq bu bv] at hs2
  have hZ := fun V w' h => risZero_any V (rwq u) (rwq v) w' h
  rw [zeroB_q] at hZ
  rw [decide_eq_false hz] at hZ
  have hI := fun V w' h => rinverse_any V u v w' h hz (by omega) (by omega)
  obtain ⟨hn1, hn2⟩ := norm_pos' hz
  have m0 := qw_inv hn1 hn2
  have m1 := qw_mul u u
  have m2 := qw_mul v v
  have m3 := qw_add (u * u) (v * v)
  have m4 := qw_mul u (u * u + v * v)⁻¹
  have m5 := qw_mul (-v) (u * u + v * v)⁻¹
  rw [qw_neg] at m5
  have mp : qw (u * (u * u + v * v)⁻¹) ≤ 3000 := by omega
  have mq : qw (-v * (u * u + v * v)⁻¹) ≤ 3000 := by omega
  clear m0 m1 m2 m3 m4 m5 hn1 hn2 hz
  generalize (u * (u * u + v * v)⁻¹) = p at *
  generalize (-v * (u * u + v * v)⁻¹) = q at *
  have hT := fun V U w' h1 h2 => rtimes_rat V U x y p q w' h1 h2 (by omega) (by omega) (by omega) (by omega)
  have hF := fun A1 D1 A2 D2 c1 d1 c2 d2 base w' h1 h2 h3 h4 => rfitq_any (x * p + -(y * q)) (x * q + y * p) A1 D1 A2 D2 c1 d1 c2 d2 base w' h1 h2 h3 h4
  generalize fitQ (x * p + -(y * q)) (x * q + y * p) = ft at *
  obtain ⟨fr, fi, fk⟩ := ft
  generalize rwq (x * p + -(y * q)) = X at *
  generalize rwq (x * q + y * p) = Y at *
  clear bx bY bu bv mp mq
  go_enter Try.func15, Try.ntmps15
  go_wp2_with fail
  refine (hs1 _ _ (Ha.st C0)).mono ?_; rintro e w3 ⟨rfl, B3⟩
  have k3 := k0.nx B3
  have C3 := k3.2.2.2
  have j0 := k3.2.1.cell 0
  have j1 := k3.2.1.cell 1
  have j2 := k3.2.1.cell 2
  have j3 := k3.2.1.cell 3
  have j4 := k3.2.1.cell 4
  have j5 := k3.2.1.cell 5
  go_wp2_with fail
  refine (hs2 _ _ (Hb.st C3)).mono ?_; rintro e w4 ⟨rfl, B4⟩
  have k4 := k3.nx B4
  have C4 := k4.2.2.2
  clear i0 i1 i2 i3 i4 i5 j0 j1 j2 j3 j4 j5
  have j0 := k4.2.1.cell 0
  have j1 := k4.2.1.cell 1
  have j2 := k4.2.1.cell 2
  have j3 := k4.2.1.cell 3
  have j4 := k4.2.1.cell 4
  have j5 := k4.2.1.cell 5
  go_wp2_with fail
  refine (hZ _ _ (Hb.st C4)).mono ?_; rintro e w5 ⟨rfl, B5⟩
  have k5 := k4.nx B5
  clear j0 j1 j2 j3 j4 j5
  go_upto_region 5 with fail
  have k5d := k5.dr
  have k5s := And.intro (k5d.1.cell 0) (And.intro (k5d.1.cell 1) (And.intro (k5d.1.cell 2) (And.intro (k5d.1.cell 3) (And.intro (k5d.1.cell 4) (And.intro (k5d.1.cell 5) (And.intro (k5d.2.1.cell 0) (And.intro (k5d.2.1.cell 1) (And.intro (k5d.2.1.cell 2) (And.intro (k5d.2.1.cell 3) (And.intro (k5d.2.1.cell 4) (And.intro (k5d.2.1.cell 5) (And.intro (k5d.2.2.1.cell 0) (And.intro (k5d.2.2.1.frozen 0) (And.intro (k5d.2.2.1.cell 1) (And.intro (k5d.2.2.1.frozen 1) (And.intro (k5d.2.2.1.cell 2) (And.intro (k5d.2.2.1.frozen 2) (And.intro (k5d.2.2.1.cell 3) (And.intro (k5d.2.2.1.frozen 3) (And.intro (k5d.2.2.1.cell 4) (And.intro (k5d.2.2.1.frozen 4) (And.intro (k5d.2.2.1.cell 5) (And.intro (k5d.2.2.1.frozen 5) (k5d))))))))))))))))))))))))
  go_region_held3 (fun w' => w'.cell? ⟨w.heap.size, 0, none⟩ = some (.bool (rwq x).s) ∧ w'.cell? ⟨w.heap.size, 1, none⟩ = some (.slice A1 (rwq x).a.length c1) ∧ w'.cell? ⟨w.heap.size, 2, none⟩ = some (.slice D1 (rwq x).b.length d1) ∧ w'.cell? ⟨w.heap.size, 3, none⟩ = some (.bool (rwq y).s) ∧ w'.cell? ⟨w.heap.size, 4, none⟩ = some (.slice A2 (rwq y).a.length c2) ∧ w'.cell? ⟨w.heap.size, 5, none⟩ = some (.slice D2 (rwq y).b.length d2) ∧ w'.cell? ⟨w.heap.size + 1, 0, none⟩ = some (.bool (rwq u).s) ∧ w'.cell? ⟨w.heap.size + 1, 1, none⟩ = some (.slice E1 (rwq u).a.length e1) ∧ w'.cell? ⟨w.heap.size + 1, 2, none⟩ = some (.slice F1 (rwq u).b.length f1) ∧ w'.cell? ⟨w.heap.size + 1, 3, none⟩ = some (.bool (rwq v).s) ∧ w'.cell? ⟨w.heap.size + 1, 4, none⟩ = some (.slice E2 (rwq v).a.length e2) ∧ w'.cell? ⟨w.heap.size + 1, 5, none⟩ = some (.slice F2 (rwq v).b.length f2) ∧ w'.cell? ⟨w.heap.size + 2, 0, none⟩ = some (cv w' (w.heap.size + 2) 0) ∧ w'.frozen? ⟨w.heap.size + 2, 0, none⟩ = false ∧ w'.cell? ⟨w.heap.size + 2, 1, none⟩ = some (cv w' (w.heap.size + 2) 1) ∧ w'.frozen? ⟨w.heap.size + 2, 1, none⟩ = false ∧ w'.cell? ⟨w.heap.size + 2, 2, none⟩ = some (cv w' (w.heap.size + 2) 2) ∧ w'.frozen? ⟨w.heap.size + 2, 2, none⟩ = false ∧ w'.cell? ⟨w.heap.size + 2, 3, none⟩ = some (cv w' (w.heap.size + 2) 3) ∧ w'.frozen? ⟨w.heap.size + 2, 3, none⟩ = false ∧ w'.cell? ⟨w.heap.size + 2, 4, none⟩ = some (cv w' (w.heap.size + 2) 4) ∧ w'.frozen? ⟨w.heap.size + 2, 4, none⟩ = false ∧ w'.cell? ⟨w.heap.size + 2, 5, none⟩ = some (cv w' (w.heap.size + 2) 5) ∧ w'.frozen? ⟨w.heap.size + 2, 5, none⟩ = false ∧ S3 w w.heap.size [.bool (rwq x).s, .slice A1 (rwq x).a.length c1, .slice D1 (rwq x).b.length d1, .bool (rwq y).s, .slice A2 (rwq y).a.length c2, .slice D2 (rwq y).b.length d2] [.bool (rwq u).s, .slice E1 (rwq u).a.length e1, .slice F1 (rwq u).b.length f1, .bool (rwq v).s, .slice E2 (rwq v).a.length e2, .slice F2 (rwq v).b.length f2] 6 w')
    (first
      | with_reducible exact k5s
      | (have s1 := (by with_reducible assumption : _ ∧ _ ∧ _ ∧ _ ∧ _ ∧ _ ∧ _ ∧ _ ∧ _ ∧ _ ∧ _ ∧ _ ∧ _ ∧ _ ∧ _ ∧ _ ∧ _ ∧ _ ∧ _ ∧ _ ∧ _ ∧ _ ∧ _ ∧ _ ∧ S3 w w.heap.size [.bool (rwq x).s, .slice A1 (rwq x).a.length c1, .slice D1 (rwq x).b.length d1, .bool (rwq y).s, .slice A2 (rwq y).a.length c2, .slice D2 (rwq y).b.length d2] [.bool (rwq u).s, .slice E1 (rwq u).a.length e1, .slice F1 (rwq u).b.length f1, .bool (rwq v).s, .slice E2 (rwq v).a.length e2, .slice F2 (rwq v).b.length f2] 6 _).2.2.2.2.2.2.2.2.2.2.2.2.2.2.2.2.2.2.2.2.2.2.2.2.nx BX; have q0_ := s1.1.cell 0; have q1_ := s1.1.cell 1; have q2_ := s1.1.cell 2; have q3_ := s1.1.cell 3; have q4_ := s1.1.cell 4; have q5_ := s1.1.cell 5; have q6_ := s1.2.1.cell 0; have q7_ := s1.2.1.cell 1; have q8_ := s1.2.1.cell 2; have q9_ := s1.2.1.cell 3; have q10_ := s1.2.1.cell 4; have q11_ := s1.2.1.cell 5; have q12_ := s1.2.2.1.cell 0; have q13_ := s1.2.2.1.frozen 0; have q14_ := s1.2.2.1.cell 1; have q15_ := s1.2.2.1.frozen 1; have q16_ := s1.2.2.1.cell 2; have q17_ := s1.2.2.1.frozen 2; have q18_ := s1.2.2.1.cell 3; have q19_ := s1.2.2.1.frozen 3; have q20_ := s1.2.2.1.cell 4; have q21_ := s1.2.2.1.frozen 4; have q22_ := s1.2.2.1.cell 5; have q23_ := s1.2.2.1.frozen 5; with_reducible exact ⟨q0_, q1_, q2_, q3_, q4_, q5_, q6_, q7_, q8_, q9_, q10_, q11_, q12_, q13_, q14_, q15_, q16_, q17_, q18_, q19_, q20_, q21_, q22_, q23_, s1⟩)
      | (have s1 := (by with_reducible assumption : _ ∧ _ ∧ _ ∧ _ ∧ _ ∧ _ ∧ _ ∧ _ ∧ _ ∧ _ ∧ _ ∧ _ ∧ _ ∧ _ ∧ _ ∧ _ ∧ _ ∧ _ ∧ _ ∧ _ ∧ _ ∧ _ ∧ _ ∧ _ ∧ S3 w w.heap.size [.bool (rwq x).s, .slice A1 (rwq x).a.length c1, .slice D1 (rwq x).b.length d1, .bool (rwq y).s, .slice A2 (rwq y).a.length c2, .slice D2 (rwq y).b.length d2] [.bool (rwq u).s, .slice E1 (rwq u).a.length e1, .slice F1 (rwq u).b.length f1, .bool (rwq v).s, .slice E2 (rwq v).a.length e2, .slice F2 (rwq v).b.length f2] 6 _).2.2.2.2.2.2.2.2.2.2.2.2.2.2.2.2.2.2.2.2.2.2.2.2.put6 (.bool fr.s) (.slice A7 fr.a.length c7) (.slice D7 fr.b.length d7) (.bool fi.s) (.slice A8 fi.a.length c8) (.slice D8 fi.b.length d8); have q0_ := s1.1.cell 0; have q1_ := s1.1.cell 1; have q2_ := s1.1.cell 2; have q3_ := s1.1.cell 3; have q4_ := s1.1.cell 4; have q5_ := s1.1.cell 5; have q6_ := s1.2.1.cell 0; have q7_ := s1.2.1.cell 1; have q8_ := s1.2.1.cell 2; have q9_ := s1.2.1.cell 3; have q10_ := s1.2.1.cell 4; have q11_ := s1.2.1.cell 5; have q12_ := s1.2.2.1.cell 0; have q13_ := s1.2.2.1.frozen 0; have q14_ := s1.2.2.1.cell 1; have q15_ := s1.2.2.1.frozen 1; have q16_ := s1.2.2.1.cell 2; have q17_ := s1.2.2.1.frozen 2; have q18_ := s1.2.2.1.cell 3; have q19_ := s1.2.2.1.frozen 3; have q20_ := s1.2.2.1.cell 4; have q21_ := s1.2.2.1.frozen 4; have q22_ := s1.2.2.1.cell 5; have q23_ := s1.2.2.1.frozen 5; with_reducible exact ⟨q0_, q1_, q2_, q3_, q4_, q5_, q6_, q7_, q8_, q9_, q10_, q11_, q12_, q13_, q14_, q15_, q16_, q17_, q18_, q19_, q20_, q21_, q22_, q23_, s1⟩))
    (first
      | (go_at_call 52; have hh := (by with_reducible assumption : _ ∧ _ ∧ _ ∧ _ ∧ _ ∧ _ ∧ _ ∧ _ ∧ _ ∧ _ ∧ _ ∧ _ ∧ _ ∧ _ ∧ _ ∧ _ ∧ _ ∧ _ ∧ _ ∧ _ ∧ _ ∧ _ ∧ _ ∧ _ ∧ S3 w w.heap.size [.bool (rwq x).s, .slice A1 (rwq x).a.length c1, .slice D1 (rwq x).b.length d1, .bool (rwq y).s, .slice A2 (rwq y).a.length c2, .slice D2 (rwq y).b.length d2] [.bool (rwq u).s, .slice E1 (rwq u).a.length e1, .slice F1 (rwq u).b.length f1, .bool (rwq v).s, .slice E2 (rwq v).a.length e2, .slice F2 (rwq v).b.length f2] 6 _).2.2.2.2.2.2.2.2.2.2.2.2.2.2.2.2.2.2.2.2.2.2.2.2; refine (hI _ _ (Hb.st hh.2.2.2)).mono ?_; rintro e w12 ⟨A12, c12, D12, d12, E12, e12, F12, f12, rfl, O1, O2, O3, O4, BX⟩; have HN : VN w12 w12.heap.size (.agg #[.bool (rwq p).s, .slice A12 (rwq p).a.length c12, .slice D12 (rwq p).b.length d12, .bool (rwq q).s, .slice E12 (rwq q).a.length e12, .slice F12 (rwq q).b.length f12]) (rwq p) (rwq q) := ⟨A12, c12, D12, d12, E12, e12, F12, f12, rfl, O1.rw, O2.rw, O3.rw, O4.rw⟩; clear O1 O2 O3 O4)
      | (go_at_call 48; have hh := (by with_reducible assumption : _ ∧ _ ∧ _ ∧ _ ∧ _ ∧ _ ∧ _ ∧ _ ∧ _ ∧ _ ∧ _ ∧ _ ∧ _ ∧ _ ∧ _ ∧ _ ∧ _ ∧ _ ∧ _ ∧ _ ∧ _ ∧ _ ∧ _ ∧ _ ∧ S3 w w.heap.size [.bool (rwq x).s, .slice A1 (rwq x).a.length c1, .slice D1 (rwq x).b.length d1, .bool (rwq y).s, .slice A2 (rwq y).a.length c2, .slice D2 (rwq y).b.length d2] [.bool (rwq u).s, .slice E1 (rwq u).a.length e1, .slice F1 (rwq u).b.length f1, .bool (rwq v).s, .slice E2 (rwq v).a.length e2, .slice F2 (rwq v).b.length f2] 6 _).2.2.2.2.2.2.2.2.2.2.2.2.2.2.2.2.2.2.2.2.2.2.2.2; refine (hT _ _ _ (Ha.st hh.2.2.2) HN).mono ?_; rintro e w13 ⟨A13, c13, D13, d13, E13, e13, F13, f13, rfl, O1, O2, O3, O4, BX⟩; have sz := hh.2.2.1.2)
      | (go_at_call 47; have hh := (by with_reducible assumption : _ ∧ _ ∧ _ ∧ _ ∧ _ ∧ _ ∧ _ ∧ _ ∧ _ ∧ _ ∧ _ ∧ _ ∧ _ ∧ _ ∧ _ ∧ _ ∧ _ ∧ _ ∧ _ ∧ _ ∧ _ ∧ _ ∧ _ ∧ _ ∧ S3 w w.heap.size [.bool (rwq x).s, .slice A1 (rwq x).a.length c1, .slice D1 (rwq x).b.length d1, .bool (rwq y).s, .slice A2 (rwq y).a.length c2, .slice D2 (rwq y).b.length d2] [.bool (rwq u).s, .slice E1 (rwq u).a.length e1, .slice F1 (rwq u).b.length f1, .bool (rwq v).s, .slice E2 (rwq v).a.length e2, .slice F2 (rwq v).b.length f2] 6 _).2.2.2.2.2.2.2.2.2.2.2.2.2.2.2.2.2.2.2.2.2.2.2.2; refine (hF _ _ _ _ _ _ _ _ _ _ O1 O2 O3 O4).mono ?_; rintro e w16 ⟨A7, c7, D7, d7, A8, c8, D8, d8, rfl, Q1, Q2, Q3, Q4, BX⟩; dsimp only at Q1 Q2 Q3 Q4; have kk := hh.nx BX))
  have s6 := kk.2.2.1.put6 (.bool fr.s) (.slice A7 fr.a.length c7) (.slice D7 fr.b.length d7) (.bool fi.s) (.slice A8 fi.a.length c8) (.slice D8 fi.b.length d8)
  have B6 := wr6_below (b := w.heap.size + 2) kk.2.2.2 (by omega) (.bool fr.s) (.slice A7 fr.a.length c7) (.slice D7 fr.b.length d7) (.bool fi.s) (.slice A8 fi.a.length c8) (.slice D8 fi.b.length d8)
  have O1 := Q1.put6 (b := w.heap.size + 2) sz (.bool fr.s) (.slice A7 fr.a.length c7) (.slice D7 fr.b.length d7) (.bool fi.s) (.slice A8 fi.a.length c8) (.slice D8 fi.b.length d8)
  have O2 := Q2.put6 (b := w.heap.size + 2) sz (.bool fr.s) (.slice A7 fr.a.length c7) (.slice D7 fr.b.length d7) (.bool fi.s) (.slice A8 fi.a.length c8) (.slice D8 fi.b.length d8)
  have O3 := Q3.put6 (b := w.heap.size + 2) sz (.bool fr.s) (.slice A7 fr.a.length c7) (.slice D7 fr.b.length d7) (.bool fi.s) (.slice A8 fi.a.length c8) (.slice D8 fi.b.length d8)
  have O4 := Q4.put6 (b := w.heap.size + 2) sz (.bool fr.s) (.slice A7 fr.a.length c7) (.slice D7 fr.b.length d7) (.bool fi.s) (.slice A8 fi.a.length c8) (.slice D8 fi.b.length d8)
  have r0' := s6.cell 0
  have r1' := s6.cell 1
  have r2' := s6.cell 2
  have r3' := s6.cell 3
  have r4' := s6.cell 4
  have r5' := s6.cell 5
  unfold wr6 wr3 at s6 B6 O1 O2 O3 O4 r0' r1' r2' r3' r4' r5'
  go_wp2_with fail
  refine bodyPost_ret (v := .tuple #[.agg #[.bool fr.s, .slice A7 fr.a.length c7, .slice D7 fr.b.length d7, .bool fi.s, .slice A8 fi.a.length c8, .slice D8 fi.b.length d8], .int .i64 fk]) (by simp [results, r0', r1', r2', r3', r4', r5', go_sem]) rfl ?_
  have hle := Nat.le_of_lt (Nat.lt_of_succ_lt (Nat.lt_of_succ_lt sz))
  exact ⟨A7, c7, D7, d7, A8, c8, D8, d8, rfl, O1.base_le hle, O2.base_le hle, O3.base_le hle, O4.base_le hle, B6⟩


theorem rmuln_any {V U : Value} {r i r' i' : Rw} {w : World} (hV : VN w w.heap.size V r i) (hU : VN w w.heap.size U r' i') : Calls Try.prog 13 #[V, U] w (RetNE w (qmulA r i r' i')) := by
  unfold qmulA
  by_cases h : nB r i = true ∧ nB r' i' = true
  · rw [if_pos h]
    obtain ⟨x, y, rfl, rfl, h1, h2⟩ := nB_rat h.1
    obtain ⟨u, v, rfl, rfl, h3, h4⟩ := nB_rat h.2
    rw [qv_rwq, qv_rwq, qv_rwq, qv_rwq]
    exact rmul_ok V U x y u v w hV hU h1 h2 h3 h4
  · rw [if_neg h]
    exact rmul_bad V U r i r' i' w hV hU h
theorem rdivn_any {V U : Value} {r i r' i' : Rw} {w : World} (hV : VN w w.heap.size V r i) (hU : VN w w.heap.size U r' i') : Calls Try.prog 15 #[V, U] w (RetNE w (qdivA r i r' i')) := by
  unfold qdivA
  by_cases h : nB r i = true ∧ nB r' i' = true
  · rw [if_pos h]
    obtain ⟨x, y, rfl, rfl, h1, h2⟩ := nB_rat h.1
    obtain ⟨u, v, rfl, rfl, h3, h4⟩ := nB_rat h.2
    rw [qv_rwq, qv_rwq, qv_rwq, qv_rwq]
    by_cases hz : u = 0 ∧ v = 0
    · rw [if_pos hz]
      exact rdiv_zero V U x y u v w hV hU h1 h2 h3 h4 hz
    · rw [if_neg hz]
      exact rdiv_ok V U x y u v w hV hU h1 h2 h3 h4 hz
  · rw [if_neg h]
    exact rdiv_bad V U r i r' i' w hV hU h
end Go.Proofs.Ytdkejndagicgjaa
namespace Go.Proofs.Ytdkejndagicgjaa
open Go.RowKit


set_option maxRecDepth 100000 in
set_option maxHeartbeats 4000000 in
theorem raddn_bad (V U : Value) (r i r' i' : Rw) (w : World) (hV : VN w w.heap.size V r i) (hU : VN w w.heap.size U r' i') (hb : ¬ (nB r i = true ∧ nB r' i' = true)) :
    Calls Try.prog 29 #[V, U] w (RetNE w (rw0, rw0, 2)) := by
  obtain ⟨A1, c1, D1, d1, A2, c2, D2, d2, rfl, p1, p2, p3, p4⟩ := hV
  obtain ⟨E1, e1, F1, f1, E2, e2, F2, f2, rfl, p5, p6, p7, p8⟩ := hU
  have Ha : VN w w.heap.size (.agg #[.bool r.s, .slice A1 r.a.length c1, .slice D1 r.b.length d1, .bool i.s, .slice A2 i.a.length c2, .slice D2 i.b.length d2]) r i := ⟨A1, c1, D1, d1, A2, c2, D2, d2, rfl, p1, p2, p3, p4⟩
  have Hb : VN w w.heap.size (.agg #[.bool r'.s, .slice E1 r'.a.length e1, .slice F1 r'.b.length f1, .bool i'.s, .slice E2 i'.a.length e2, .slice F2 i'.b.length f2]) r' i' := ⟨E1, e1, F1, f1, E2, e2, F2, f2, rfl, p5, p6, p7, p8⟩
  clear p1 p2 p3 p4 p5 p6 p7 p8
  have k0 := S3.new w [.bool r.s, .slice A1 r.a.length c1, .slice D1 r.b.length d1, .bool i.s, .slice A2 i.a.length c2, .slice D2 i.b.length d2] [.bool r'.s, .slice E1 r'.a.length e1, .slice F1 r'.b.length f1, .bool i'.s, .slice E2 i'.a.length e2, .slice F2 i'.b.length f2] [.bool false, .slice none 0 0, .slice none 0 0, .bool false, .slice none 0 0, .slice none 0 0] 26 26 26 6
  have C0 := k0.2.2.2
  have i0 := k0.1.cell 0
  have i1 := k0.1.cell 1
  have i2 := k0.1.cell 2
  have i3 := k0.1.cell 3
  have i4 := k0.1.cell 4
  have i5 := k0.1.cell 5
  have hs1 := fun V w' h => resound_any V r i w' h
  have hs2 := fun V w' h => resound_any V r' i' w' h
  generalize nB r i = t1 at *
  generalize nB r' i' = t2 at *
  cases t1 with
  | false =>
    clear hb
    go_enter Try.func29, Try.ntmps29
    go_wp2_with fail
    refine (hs1 _ _ (Ha.st C0)).mono ?_; rintro e w3 ⟨rfl, B3⟩
    have k3 := k0.nx B3
    have hRC := k3.2.2.1
    go_wp2_with (refine wp_st6 rfl (.tmp 4) (.tmp 14) rfl _ rfl _ _ _ _ _ _ rfl hRC rfl rfl rfl rfl rfl rfl ?_)
    have s6 := hRC.put6 (.bool false) (.slice none 0 0) (.slice none 0 0) (.bool false) (.slice none 0 0) (.slice none 0 0)
    have B6 := wr6_below (b := w.heap.size + 2) k3.2.2.2 (by omega) (.bool false) (.slice none 0 0) (.slice none 0 0) (.bool false) (.slice none 0 0) (.slice none 0 0)
    have r0' := s6.cell 0
    have r1' := s6.cell 1
    have r2' := s6.cell 2
    have r3' := s6.cell 3
    have r4' := s6.cell 4
    have r5' := s6.cell 5
    refine bodyPost_ret (v := .tuple #[.agg #[.bool false, .slice none 0 0, .slice none 0 0, .bool false, .slice none 0 0, .slice none 0 0], .int .i64 2]) (by simp [results, r0', r1', r2', r3', r4', r5', go_sem]) rfl ?_
    exact retNE_nil 2 B6
  | true =>
    cases t2 with
    | true => exact absurd ⟨rfl, rfl⟩ hb
    | false =>
      clear hb
      go_enter Try.func29, Try.ntmps29
      go_wp2_with fail
      refine (hs1 _ _ (Ha.st C0)).mono ?_; rintro e w3 ⟨rfl, B3⟩
      have k3 := k0.nx B3
      have C3 := k3.2.2.2
      have j0 := k3.2.1.cell 0
      have j1 := k3.2.1.cell 1
      have j2 := k3.2.1.cell 2
      have j3 := k3.2.1.cell 3
      have j4 := k3.2.1.cell 4
      have j5 := k3.2.1.cell 5
      go_wp2_with fail
      refine (hs2 _ _ (Hb.st C3)).mono ?_; rintro e w4 ⟨rfl, B4⟩
      have k4 := k3.nx B4
      have hRC := k4.2.2.1
      go_wp2_with (refine wp_st6 rfl (.tmp 4) (.tmp 14) rfl _ rfl _ _ _ _ _ _ rfl hRC rfl rfl rfl rfl rfl rfl ?_)
      have s6 := hRC.put6 (.bool false) (.slice none 0 0) (.slice none 0 0) (.bool false) (.slice none 0 0) (.slice none 0 0)
      have B6 := wr6_below (b := w.heap.size + 2) k4.2.2.2 (by omega) (.bool false) (.slice none 0 0) (.slice none 0 0) (.bool false) (.slice none 0 0) (.slice none 0 0)
      have r0' := s6.cell 0
      have r1' := s6.cell 1
      have r2' := s6.cell 2
      have r3' := s6.cell 3
      have r4' := s6.cell 4
      have r5' := s6.cell 5
      refine bodyPost_ret (v := .tuple #[.agg #[.bool false, .slice none 0 0, .slice none 0 0, .bool false, .slice none 0 0, .slice none 0 0], .int .i64 2]) (by simp [results, r0', r1', r2', r3', r4', r5', go_sem]) rfl ?_
      exact retNE_nil 2 B6


set_option maxRecDepth 100000 in
set_option maxHeartbeats 16000000 in
theorem raddn_ok (V U : Value) (x y u v : Rat) (w : World) (hV : RN w w.heap.size V x y) (hU : RN w w.heap.size U u v) (bx : qw x ≤ 512) (bY : qw y ≤ 512) (bu : qw u ≤ 512) (bv : qw v ≤ 512) :
    Calls Try.prog 29 #[V, U] w (RetNE w (fitQ (x + u) (y + v))) := by
  obtain ⟨A1, c1, D1, d1, A2, c2, D2, d2, rfl, p1, p2, p3, p4⟩ := hV
  obtain ⟨E1, e1, F1, f1, E2, e2, F2, f2, rfl, p5, p6, p7, p8⟩ := hU
  have Ha : VN w w.heap.size (.agg #[.bool (qn x), .slice A1 (digs (qt x)).length c1, .slice D1 (digs (qd x)).length d1, .bool (qn y), .slice A2 (digs (qt y)).length c2, .slice D2 (digs (qd y)).length d2]) (rwq x) (rwq y) := ⟨A1, c1, D1, d1, A2, c2, D2, d2, rfl, p1, p2, p3, p4⟩
  have Hb : VN w w.heap.size (.agg #[.bool (qn u), .slice E1 (digs (qt u)).length e1, .slice F1 (digs (qd u)).length f1, .bool (qn v), .slice E2 (digs (qt v)).length e2, .slice F2 (digs (qd v)).length f2]) (rwq u) (rwq v) := ⟨E1, e1, F1, f1, E2, e2, F2, f2, rfl, p5, p6, p7, p8⟩
  have hx : RQ w w.heap.size (.agg #[.bool (qn x), .slice A1 (digs (qt x)).length c1, .slice D1 (digs (qd x)).length d1]) x := ⟨A1, c1, D1, d1, rfl, p1, p2⟩
  have hy : RQ w w.heap.size (.agg #[.bool (qn y), .slice A2 (digs (qt y)).length c2, .slice D2 (digs (qd y)).length d2]) y := ⟨A2, c2, D2, d2, rfl, p3, p4⟩
  have hu : RQ w w.heap.size (.agg #[.bool (qn u), .slice E1 (digs (qt u)).length e1, .slice F1 (digs (qd u)).length f1]) u := ⟨E1, e1, F1, f1, rfl, p5, p6⟩
  have hv : RQ w w.heap.size (.agg #[.bool (qn v), .slice E2 (digs (qt v)).length e2, .slice F2 (digs (qd v)).length f2]) v := ⟨E2, e2, F2, f2, rfl, p7, p8⟩
  clear p1 p2 p3 p4 p5 p6 p7 p8
  have k0 := S3.new w [.bool (qn x), .slice A1 (digs (qt x)).length c1, .slice D1 (digs (qd x)).length d1, .bool (qn y), .slice A2 (digs (qt y)).length c2, .slice D2 (digs (qd y)).length d2] [.bool (qn u), .slice E1 (digs (qt u)).length e1, .slice F1 (digs (qd u)).length f1, .bool (qn v), .slice E2 (digs (qt v)).length e2, .slice F2 (digs (qd v)).length f2] [.bool false, .slice none 0 0, .slice none 0 0, .bool false, .slice none 0 0, .slice none 0 0] 26 26 26 6
  have C0 := k0.2.2.2
  have i0 := k0.1.cell 0
  have i1 := k0.1.cell 1
  have i2 := k0.1.cell 2
  have i3 := k0.1.cell 3
  have i4 := k0.1.cell 4
  have i5 := k0.1.cell 5
  have hs1 := fun V w' h => resound_any V (rwq x) (rwq y) w' h
  have hs2 := fun V w' h => resound_any V (rwq u) (rwq v) w' h
  rw [nB_rwq bx bY] at hs1
  rw [nB_rwq bu bv] at hs2
  have nu := qw_neg u
  have nv := qw_neg v
  have hF := fun A1 D1 A2 D2 c1 d1 c2 d2 base w' h1 h2 h3 h4 => rfitq_any (x + u) (y + v) A1 D1 A2 D2 c1 d1 c2 d2 base w' h1 h2 h3 h4
  dsimp only [rwq] at hF
  generalize fitQ (x + u) (y + v) = ft at *
  obtain ⟨fr, fi, fk⟩ := ft
  go_enter Try.func29, Try.ntmps29
  go_wp2_with fail
  refine (hs1 _ _ (Ha.st C0)).mono ?_; rintro e w3 ⟨rfl, B3⟩
  have k3 := k0.nx B3
  have C3 := k3.2.2.2
  have j0 := k3.2.1.cell 0
  have j1 := k3.2.1.cell 1
  have j2 := k3.2.1.cell 2
  have j3 := k3.2.1.cell 3
  have j4 := k3.2.1.cell 4
  have j5 := k3.2.1.cell 5
  go_wp2_with fail
  refine (hs2 _ _ (Hb.st C3)).mono ?_; rintro e w4 ⟨rfl, B4⟩
  have k4 := k3.nx B4
  have C4 := k4.2.2.2
  clear i0 i1 i2 i3 i4 i5 j0 j1 j2 j3 j4 j5
  go_upto_region 3 with fail
  have k4d := k4.dr
  have k4s := And.intro (k4d.1.cell 0) (And.intro (k4d.1.cell 1) (And.intro (k4d.1.cell 2) (And.intro (k4d.1.cell 3) (And.intro (k4d.1.cell 4) (And.intro (k4d.1.cell 5) (And.intro (k4d.2.1.cell 0) (And.intro (k4d.2.1.cell 1) (And.intro (k4d.2.1.cell 2) (And.intro (k4d.2.1.cell 3) (And.intro (k4d.2.1.cell 4) (And.intro (k4d.2.1.cell 5) (And.intro (k4d.2.2.1.cell 0) (And.intro (k4d.2.2.1.frozen 0) (And.intro (k4d.2.2.1.cell 1) (And.intro (k4d.2.2.1.frozen 1) (And.intro (k4d.2.2.1.cell 2) (And.intro (k4d.2.2.1.frozen 2) (And.intro (k4d.2.2.1.cell 3) (And.intro (k4d.2.2.1.frozen 3) (And.intro (k4d.2.2.1.cell 4) (And.intro (k4d.2.2.1.frozen 4) (And.intro (k4d.2.2.1.cell 5) (And.intro (k4d.2.2.1.frozen 5) (k4d))))))))))))))))))))))))
  go_region_held3 (fun w' => w'.cell? ⟨w.heap.size, 0, none⟩ = some (.bool (qn x)) ∧ w'.cell? ⟨w.heap.size, 1, none⟩ = some (.slice A1 (digs (qt x)).length c1) ∧ w'.cell? ⟨w.heap.size, 2, none⟩ = some (.slice D1 (digs (qd x)).length d1) ∧ w'.cell? ⟨w.heap.size, 3, none⟩ = some (.bool (qn y)) ∧ w'.cell? ⟨w.heap.size, 4, none⟩ = some (.slice A2 (digs (qt y)).length c2) ∧ w'.cell? ⟨w.heap.size, 5, none⟩ = some (.slice D2 (digs (qd y)).length d2) ∧ w'.cell? ⟨w.heap.size + 1, 0, none⟩ = some (.bool (qn u)) ∧ w'.cell? ⟨w.heap.size + 1, 1, none⟩ = some (.slice E1 (digs (qt u)).length e1) ∧ w'.cell? ⟨w.heap.size + 1, 2, none⟩ = some (.slice F1 (digs (qd u)).length f1) ∧ w'.cell? ⟨w.heap.size + 1, 3, none⟩ = some (.bool (qn v)) ∧ w'.cell? ⟨w.heap.size + 1, 4, none⟩ = some (.slice E2 (digs (qt v)).length e2) ∧ w'.cell? ⟨w.heap.size + 1, 5, none⟩ = some (.slice F2 (digs (qd v)).length f2) ∧ w'.cell? ⟨w.heap.size + 2, 0, none⟩ = some (cv w' (w.heap.size + 2) 0) ∧ w'.frozen? ⟨w.heap.size + 2, 0, none⟩ = false ∧ w'.cell? ⟨w.heap.size + 2, 1, none⟩ = some (cv w' (w.heap.size + 2) 1) ∧ w'.frozen? ⟨w.heap.size + 2, 1, none⟩ = false ∧ w'.cell? ⟨w.heap.size + 2, 2, none⟩ = some (cv w' (w.heap.size + 2) 2) ∧ w'.frozen? ⟨w.heap.size + 2, 2, none⟩ = false ∧ w'.cell? ⟨w.heap.size + 2, 3, none⟩ = some (cv w' (w.heap.size + 2) 3) ∧ w'.frozen? ⟨w.heap.size + 2, 3, none⟩ = false ∧ w'.cell? ⟨w.heap.size + 2, 4, none⟩ = some (cv w' (w.heap.size + 2) 4) ∧ w'.frozen? ⟨w.heap.size + 2, 4, none⟩ = false ∧ w'.cell? ⟨w.heap.size + 2, 5, none⟩ = some (cv w' (w.heap.size + 2) 5) ∧ w'.frozen? ⟨w.heap.size + 2, 5, none⟩ = false ∧ S3 w w.heap.size [.bool (qn x), .slice A1 (digs (qt x)).length c1, .slice D1 (digs (qd x)).length d1, .bool (qn y), .slice A2 (digs (qt y)).length c2, .slice D2 (digs (qd y)).length d2] [.bool (qn u), .slice E1 (digs (qt u)).length e1, .slice F1 (digs (qd u)).length f1, .bool (qn v), .slice E2 (digs (qt v)).length e2, .slice F2 (digs (qd v)).length f2] 6 w')
    (first
      | with_reducible exact k4s
      | (have s1 := (by with_reducible assumption : _ ∧ _ ∧ _ ∧ _ ∧ _ ∧ _ ∧ _ ∧ _ ∧ _ ∧ _ ∧ _ ∧ _ ∧ _ ∧ _ ∧ _ ∧ _ ∧ _ ∧ _ ∧ _ ∧ _ ∧ _ ∧ _ ∧ _ ∧ _ ∧ S3 w w.heap.size [.bool (qn x), .slice A1 (digs (qt x)).length c1, .slice D1 (digs (qd x)).length d1, .bool (qn y), .slice A2 (digs (qt y)).length c2, .slice D2 (digs (qd y)).length d2] [.bool (qn u), .slice E1 (digs (qt u)).length e1, .slice F1 (digs (qd u)).length f1, .bool (qn v), .slice E2 (digs (qt v)).length e2, .slice F2 (digs (qd v)).length f2] 6 _).2.2.2.2.2.2.2.2.2.2.2.2.2.2.2.2.2.2.2.2.2.2.2.2.nx BX; have q0_ := s1.1.cell 0; have q1_ := s1.1.cell 1; have q2_ := s1.1.cell 2; have q3_ := s1.1.cell 3; have q4_ := s1.1.cell 4; have q5_ := s1.1.cell 5; have q6_ := s1.2.1.cell 0; have q7_ := s1.2.1.cell 1; have q8_ := s1.2.1.cell 2; have q9_ := s1.2.1.cell 3; have q10_ := s1.2.1.cell 4; have q11_ := s1.2.1.cell 5; have q12_ := s1.2.2.1.cell 0; have q13_ := s1.2.2.1.frozen 0; have q14_ := s1.2.2.1.cell 1; have q15_ := s1.2.2.1.frozen 1; have q16_ := s1.2.2.1.cell 2; have q17_ := s1.2.2.1.frozen 2; have q18_ := s1.2.2.1.cell 3; have q19_ := s1.2.2.1.frozen 3; have q20_ := s1.2.2.1.cell 4; have q21_ := s1.2.2.1.frozen 4; have q22_ := s1.2.2.1.cell 5; have q23_ := s1.2.2.1.frozen 5; with_reducible exact ⟨q0_, q1_, q2_, q3_, q4_, q5_, q6_, q7_, q8_, q9_, q10_, q11_, q12_, q13_, q14_, q15_, q16_, q17_, q18_, q19_, q20_, q21_, q22_, q23_, s1⟩)
      | (have s1 := (by with_reducible assumption : _ ∧ _ ∧ _ ∧ _ ∧ _ ∧ _ ∧ _ ∧ _ ∧ _ ∧ _ ∧ _ ∧ _ ∧ _ ∧ _ ∧ _ ∧ _ ∧ _ ∧ _ ∧ _ ∧ _ ∧ _ ∧ _ ∧ _ ∧ _ ∧ S3 w w.heap.size [.bool (qn x), .slice A1 (digs (qt x)).length c1, .slice D1 (digs (qd x)).length d1, .bool (qn y), .slice A2 (digs (qt y)).length c2, .slice D2 (digs (qd y)).length d2] [.bool (qn u), .slice E1 (digs (qt u)).length e1, .slice F1 (digs (qd u)).length f1, .bool (qn v), .slice E2 (digs (qt v)).length e2, .slice F2 (digs (qd v)).length f2] 6 _).2.2.2.2.2.2.2.2.2.2.2.2.2.2.2.2.2.2.2.2.2.2.2.2.put6 (.bool fr.s) (.slice A7 fr.a.length c7) (.slice D7 fr.b.length d7) (.bool fi.s) (.slice A8 fi.a.length c8) (.slice D8 fi.b.length d8); have q0_ := s1.1.cell 0; have q1_ := s1.1.cell 1; have q2_ := s1.1.cell 2; have q3_ := s1.1.cell 3; have q4_ := s1.1.cell 4; have q5_ := s1.1.cell 5; have q6_ := s1.2.1.cell 0; have q7_ := s1.2.1.cell 1; have q8_ := s1.2.1.cell 2; have q9_ := s1.2.1.cell 3; have q10_ := s1.2.1.cell 4; have q11_ := s1.2.1.cell 5; have q12_ := s1.2.2.1.cell 0; have q13_ := s1.2.2.1.frozen 0; have q14_ := s1.2.2.1.cell 1; have q15_ := s1.2.2.1.frozen 1; have q16_ := s1.2.2.1.cell 2; have q17_ := s1.2.2.1.frozen 2; have q18_ := s1.2.2.1.cell 3; have q19_ := s1.2.2.1.frozen 3; have q20_ := s1.2.2.1.cell 4; have q21_ := s1.2.2.1.frozen 4; have q22_ := s1.2.2.1.cell 5; have q23_ := s1.2.2.1.frozen 5; with_reducible exact ⟨q0_, q1_, q2_, q3_, q4_, q5_, q6_, q7_, q8_, q9_, q10_, q11_, q12_, q13_, q14_, q15_, q16_, q17_, q18_, q19_, q20_, q21_, q22_, q23_, s1⟩))
    (first
      | (go_at_call_of 63 (Value.agg #[.bool (qn x), .slice A1 (digs (qt x)).length c1, .slice D1 (digs (qd x)).length d1]); have hh := (by with_reducible assumption : _ ∧ _ ∧ _ ∧ _ ∧ _ ∧ _ ∧ _ ∧ _ ∧ _ ∧ _ ∧ _ ∧ _ ∧ _ ∧ _ ∧ _ ∧ _ ∧ _ ∧ _ ∧ _ ∧ _ ∧ _ ∧ _ ∧ _ ∧ _ ∧ S3 w w.heap.size [.bool (qn x), .slice A1 (digs (qt x)).length c1, .slice D1 (digs (qd x)).length d1, .bool (qn y), .slice A2 (digs (qt y)).length c2, .slice D2 (digs (qd y)).length d2] [.bool (qn u), .slice E1 (digs (qt u)).length e1, .slice F1 (digs (qd u)).length f1, .bool (qn v), .slice E2 (digs (qt v)).length e2, .slice F2 (digs (qd v)).length f2] 6 _).2.2.2.2.2.2.2.2.2.2.2.2.2.2.2.2.2.2.2.2.2.2.2.2; refine (rsum_any _ _ x u _ (hx.st hh.2.2.2) (hu.st hh.2.2.2) (by omega)).mono ?_; rintro e w14 ⟨A14, c14, D14, d14, rfl, O14, P14, BX⟩; have O14 := O14.base_le hh.2.2.1.2; have P14 := P14.base_le hh.2.2.1.2)
      | (go_at_call_of 63 (Value.agg #[.bool (qn y), .slice A2 (digs (qt y)).length c2, .slice D2 (digs (qd y)).length d2]); have hh := (by with_reducible assumption : _ ∧ _ ∧ _ ∧ _ ∧ _ ∧ _ ∧ _ ∧ _ ∧ _ ∧ _ ∧ _ ∧ _ ∧ _ ∧ _ ∧ _ ∧ _ ∧ _ ∧ _ ∧ _ ∧ _ ∧ _ ∧ _ ∧ _ ∧ _ ∧ S3 w w.heap.size [.bool (qn x), .slice A1 (digs (qt x)).length c1, .slice D1 (digs (qd x)).length d1, .bool (qn y), .slice A2 (digs (qt y)).length c2, .slice D2 (digs (qd y)).length d2] [.bool (qn u), .slice E1 (digs (qt u)).length e1, .slice F1 (digs (qd u)).length f1, .bool (qn v), .slice E2 (digs (qt v)).length e2, .slice F2 (digs (qd v)).length f2] 6 _).2.2.2.2.2.2.2.2.2.2.2.2.2.2.2.2.2.2.2.2.2.2.2.2; refine (rsum_any _ _ y v _ (hy.st hh.2.2.2) (hv.st hh.2.2.2) (by omega)).mono ?_; rintro e w15 ⟨A15, c15, D15, d15, rfl, O15, P15, BX⟩; have O15 := O15.base_le hh.2.2.1.2; have P15 := P15.base_le hh.2.2.1.2; have O14 := O14.below BX (Nat.le_refl _); have P14 := P14.below BX (Nat.le_refl _))
      | (go_at_call 47; have hh := (by with_reducible assumption : _ ∧ _ ∧ _ ∧ _ ∧ _ ∧ _ ∧ _ ∧ _ ∧ _ ∧ _ ∧ _ ∧ _ ∧ _ ∧ _ ∧ _ ∧ _ ∧ _ ∧ _ ∧ _ ∧ _ ∧ _ ∧ _ ∧ _ ∧ _ ∧ S3 w w.heap.size [.bool (qn x), .slice A1 (digs (qt x)).length c1, .slice D1 (digs (qd x)).length d1, .bool (qn y), .slice A2 (digs (qt y)).length c2, .slice D2 (digs (qd y)).length d2] [.bool (qn u), .slice E1 (digs (qt u)).length e1, .slice F1 (digs (qd u)).length f1, .bool (qn v), .slice E2 (digs (qt v)).length e2, .slice F2 (digs (qd v)).length f2] 6 _).2.2.2.2.2.2.2.2.2.2.2.2.2.2.2.2.2.2.2.2.2.2.2.2; refine (hF _ _ _ _ _ _ _ _ _ _ O14 P14 O15 P15).mono ?_; rintro e w16 ⟨A7, c7, D7, d7, A8, c8, D8, d8, rfl, Q1, Q2, Q3, Q4, BX⟩; dsimp only at Q1 Q2 Q3 Q4; have kk := hh.nx BX))
  have s6 := kk.2.2.1.put6 (.bool fr.s) (.slice A7 fr.a.length c7) (.slice D7 fr.b.length d7) (.bool fi.s) (.slice A8 fi.a.length c8) (.slice D8 fi.b.length d8)
  have B6 := wr6_below (b := w.heap.size + 2) kk.2.2.2 (by omega) (.bool fr.s) (.slice A7 fr.a.length c7) (.slice D7 fr.b.length d7) (.bool fi.s) (.slice A8 fi.a.length c8) (.slice D8 fi.b.length d8)
  have O1 := Q1.put6 (b := w.heap.size + 2) (Nat.lt_succ_self _) (.bool fr.s) (.slice A7 fr.a.length c7) (.slice D7 fr.b.length d7) (.bool fi.s) (.slice A8 fi.a.length c8) (.slice D8 fi.b.length d8)
  have O2 := Q2.put6 (b := w.heap.size + 2) (Nat.lt_succ_self _) (.bool fr.s) (.slice A7 fr.a.length c7) (.slice D7 fr.b.length d7) (.bool fi.s) (.slice A8 fi.a.length c8) (.slice D8 fi.b.length d8)
  have O3 := Q3.put6 (b := w.heap.size + 2) (Nat.lt_succ_self _) (.bool fr.s) (.slice A7 fr.a.length c7) (.slice D7 fr.b.length d7) (.bool fi.s) (.slice A8 fi.a.length c8) (.slice D8 fi.b.length d8)
  have O4 := Q4.put6 (b := w.heap.size + 2) (Nat.lt_succ_self _) (.bool fr.s) (.slice A7 fr.a.length c7) (.slice D7 fr.b.length d7) (.bool fi.s) (.slice A8 fi.a.length c8) (.slice D8 fi.b.length d8)
  have r0' := s6.cell 0
  have r1' := s6.cell 1
  have r2' := s6.cell 2
  have r3' := s6.cell 3
  have r4' := s6.cell 4
  have r5' := s6.cell 5
  unfold wr6 wr3 at s6 B6 O1 O2 O3 O4 r0' r1' r2' r3' r4' r5'
  go_wp2_with fail
  refine bodyPost_ret (v := .tuple #[.agg #[.bool fr.s, .slice A7 fr.a.length c7, .slice D7 fr.b.length d7, .bool fi.s, .slice A8 fi.a.length c8, .slice D8 fi.b.length d8], .int .i64 fk]) (by simp [results, r0', r1', r2', r3', r4', r5', go_sem]) rfl ?_
  have hle : w.heap.size ≤ w.heap.size + 2 + 1 := by omega
  exact ⟨A7, c7, D7, d7, A8, c8, D8, d8, rfl, O1.base_le hle, O2.base_le hle, O3.base_le hle, O4.base_le hle, B6⟩


set_option maxRecDepth 100000 in
set_option maxHeartbeats 4000000 in
theorem rsubn_bad (V U : Value) (r i r' i' : Rw) (w : World) (hV : VN w w.heap.size V r i) (hU : VN w w.heap.size U r' i') (hb : ¬ (nB r i = true ∧ nB r' i' = true)) :
    Calls Try.prog 30 #[V, U] w (RetNE w (rw0, rw0, 2)) := by
  obtain ⟨A1, c1, D1, d1, A2, c2, D2, d2, rfl, p1, p2, p3, p4⟩ := hV
  obtain ⟨E1, e1, F1, f1, E2, e2, F2, f2, rfl, p5, p6, p7, p8⟩ := hU
  have Ha : VN w w.heap.size (.agg #[.bool r.s, .slice A1 r.a.length c1, .slice D1 r.b.length d1, .bool i.s, .slice A2 i.a.length c2, .slice D2 i.b.length d2]) r i := ⟨A1, c1, D1, d1, A2, c2, D2, d2, rfl, p1, p2, p3, p4⟩
  have Hb : VN w w.heap.size (.agg #[.bool r'.s, .slice E1 r'.a.length e1, .slice F1 r'.b.length f1, .bool i'.s, .slice E2 i'.a.length e2, .slice F2 i'.b.length f2]) r' i' := ⟨E1, e1, F1, f1, E2, e2, F2, f2, rfl, p5, p6, p7, p8⟩
  clear p1 p2 p3 p4 p5 p6 p7 p8
  have k0 := S3.new w [.bool r.s, .slice A1 r.a.length c1, .slice D1 r.b.length d1, .bool i.s, .slice A2 i.a.length c2, .slice D2 i.b.length d2] [.bool r'.s, .slice E1 r'.a.length e1, .slice F1 r'.b.length f1, .bool i'.s, .slice E2 i'.a.length e2, .slice F2 i'.b.length f2] [.bool false, .slice none 0 0, .slice none 0 0, .bool false, .slice none 0 0, .slice none 0 0] 26 26 26 6
  have C0 := k0.2.2.2
  have i0 := k0.1.cell 0
  have i1 := k0.1.cell 1
  have i2 := k0.1.cell 2
  have i3 := k0.1.cell 3
  have i4 := k0.1.cell 4
  have i5 := k0.1.cell 5
  have hs1 := fun V w' h => resound_any V r i w' h
  have hs2 := fun V w' h => resound_any V r' i' w' h
  generalize nB r i = t1 at *
  generalize nB r' i' = t2 at *
  cases t1 with
  | false =>
    clear hb
    go_enter Try.func30, Try.ntmps30
    go_wp2_with fail
    refine (hs1 _ _ (Ha.st C0)).mono ?_; rintro e w3 ⟨rfl, B3⟩
    have k3 := k0.nx B3
    have hRC := k3.2.2.1
    go_wp2_with (refine wp_st6 rfl (.tmp 4) (.tmp 14) rfl _ rfl _ _ _ _ _ _ rfl hRC rfl rfl rfl rfl rfl rfl ?_)
    have s6 := hRC.put6 (.bool false) (.slice none 0 0) (.slice none 0 0) (.bool false) (.slice none 0 0) (.slice none 0 0)
    have B6 := wr6_below (b := w.heap.size + 2) k3.2.2.2 (by omega) (.bool false) (.slice none 0 0) (.slice none 0 0) (.bool false) (.slice none 0 0) (.slice none 0 0)
    have r0' := s6.cell 0
    have r1' := s6.cell 1
    have r2' := s6.cell 2
    have r3' := s6.cell 3
    have r4' := s6.cell 4
    have r5' := s6.cell 5
    refine bodyPost_ret (v := .tuple #[.agg #[.bool false, .slice none 0 0, .slice none 0 0, .bool false, .slice none 0 0, .slice none 0 0], .int .i64 2]) (by simp [results, r0', r1', r2', r3', r4', r5', go_sem]) rfl ?_
    exact retNE_nil 2 B6
  | true =>
    cases t2 with
    | true => exact absurd ⟨rfl, rfl⟩ hb
    | false =>
      clear hb
      go_enter Try.func30, Try.ntmps30
      go_wp2_with fail
      refine (hs1 _ _ (Ha.st C0)).mono ?_; rintro e w3 ⟨rfl, B3⟩
      have k3 := k0.nx B3
      have C3 := k3.2.2.2
      have j0 := k3.2.1.cell 0
      have j1 := k3.2.1.cell 1
      have j2 := k3.2.1.cell 2
      have j3 := k3.2.1.cell 3
      have j4 := k3.2.1.cell 4
      have j5 := k3.2.1.cell 5
      go_wp2_with fail
      refine (hs2 _ _ (Hb.st C3)).mono ?_; rintro e w4 ⟨rfl, B4⟩
      have k4 := k3.nx B4
      have hRC := k4.2.2.1
      go_wp2_with (refine wp_st6 rfl (.tmp 4) (.tmp 14) rfl _ rfl _ _ _ _ _ _ rfl hRC rfl rfl rfl rfl rfl rfl ?_)
      have s6 := hRC.put6 (.bool false) (.slice none 0 0) (.slice none 0 0) (.bool false) (.slice none 0 0) (.slice none 0 0)
      have B6 := wr6_below (b := w.heap.size + 2) k4.2.2.2 (by omega) (.bool false) (.slice none 0 0) (.slice none 0 0) (.bool false) (.slice none 0 0) (.slice none 0 0)
      have r0' := s6.cell 0
      have r1' := s6.cell 1
      have r2' := s6.cell 2
      have r3' := s6.cell 3
      have r4' := s6.cell 4
      have r5' := s6.cell 5
      refine bodyPost_ret (v := .tuple #[.agg #[.bool false, .slice none 0 0, .slice none 0 0, .bool false, .slice none 0 0, .slice none 0 0], .int .i64 2]) (by simp [results, r0', r1', r2', r3', r4', r5', go_sem]) rfl ?_
      exact retNE_nil 2 B6


set_option maxRecDepth 100000 in
set_option maxHeartbeats 16000000 in
theorem rsubn_ok (V U : Value) (x y u v : Rat) (w : World) (hV : RN w w.heap.size V x y) (hU : RN w w.heap.size U u v) (bx : qw x ≤ 512) (bY : qw y ≤ 512) (bu : qw u ≤ 512) (bv : qw v ≤ 512) :
    Calls Try.prog 30 #[V, U] w (RetNE w (fitQ (x + -u) (y + -v))) := by
  obtain ⟨A1, c1, D1, d1, A2, c2, D2, d2, rfl, p1, p2, p3, p4⟩ := hV
  obtain ⟨E1, e1, F1, f1, E2, e2, F2, f2, rfl, p5, p6, p7, p8⟩ := hU
  have Ha : VN w w.heap.size (.agg #[.bool (qn x), .slice A1 (digs (qt x)).length c1, .slice D1 (digs (qd x)).length d1, .bool (qn y), .slice A2 (digs (qt y)).length c2, .slice D2 (digs (qd y)).length d2]) (rwq x) (rwq y) := ⟨A1, c1, D1, d1, A2, c2, D2, d2, rfl, p1, p2, p3, p4⟩
  have Hb : VN w w.heap.size (.agg #[.bool (qn u), .slice E1 (digs (qt u)).length e1, .slice F1 (digs (qd u)).length f1, .bool (qn v), .slice E2 (digs (qt v)).length e2, .slice F2 (digs (qd v)).length f2]) (rwq u) (rwq v) := ⟨E1, e1, F1, f1, E2, e2, F2, f2, rfl, p5, p6, p7, p8⟩
  have hx : RQ w w.heap.size (.agg #[.bool (qn x), .slice A1 (digs (qt x)).length c1, .slice D1 (digs (qd x)).length d1]) x := ⟨A1, c1, D1, d1, rfl, p1, p2⟩
  have hy : RQ w w.heap.size (.agg #[.bool (qn y), .slice A2 (digs (qt y)).length c2, .slice D2 (digs (qd y)).length d2]) y := ⟨A2, c2, D2, d2, rfl, p3, p4⟩
  have hu : RQ w w.heap.size (.agg #[.bool (qn u), .slice E1 (digs (qt u)).length e1, .slice F1 (digs (qd u)).length f1]) u := ⟨E1, e1, F1, f1, rfl, p5, p6⟩
  have hv : RQ w w.heap.size (.agg #[.bool (qn v), .slice E2 (digs (qt v)).length e2, .slice F2 (digs (qd v)).length f2]) v := ⟨E2, e2, F2, f2, rfl, p7, p8⟩
  clear p1 p2 p3 p4 p5 p6 p7 p8
  have k0 := S3.new w [.bool (qn x), .slice A1 (digs (qt x)).length c1, .slice D1 (digs (qd x)).length d1, .bool (qn y), .slice A2 (digs (qt y)).length c2, .slice D2 (digs (qd y)).length d2] [.bool (qn u), .slice E1 (digs (qt u)).length e1, .slice F1 (digs (qd u)).length f1, .bool (qn v), .slice E2 (digs (qt v)).length e2, .slice F2 (digs (qd v)).length f2] [.bool false, .slice none 0 0, .slice none 0 0, .bool false, .slice none 0 0, .slice none 0 0] 26 26 26 6
  have C0 := k0.2.2.2
  have i0 := k0.1.cell 0
  have i1 := k0.1.cell 1
  have i2 := k0.1.cell 2
  have i3 := k0.1.cell 3
  have i4 := k0.1.cell 4
  have i5 := k0.1.cell 5
  have hs1 := fun V w' h => resound_any V (rwq x) (rwq y) w' h
  have hs2 := fun V w' h => resound_any V (rwq u) (rwq v) w' h
  rw [nB_rwq bx bY] at hs1
  rw [nB_rwq bu bv] at hs2
  have nu := qw_neg u
  have nv := qw_neg v
  have hF := fun A1 D1 A2 D2 c1 d1 c2 d2 base w' h1 h2 h3 h4 => rfitq_any (x + -u) (y + -v) A1 D1 A2 D2 c1 d1 c2 d2 base w' h1 h2 h3 h4
  dsimp only [rwq] at hF
  generalize fitQ (x + -u) (y + -v) = ft at *
  obtain ⟨fr, fi, fk⟩ := ft
  go_enter Try.func30, Try.ntmps30
  go_wp2_with fail
  refine (hs1 _ _ (Ha.st C0)).mono ?_; rintro e w3 ⟨rfl, B3⟩
  have k3 := k0.nx B3
  have C3 := k3.2.2.2
  have j0 := k3.2.1.cell 0
  have j1 := k3.2.1.cell 1
  have j2 := k3.2.1.cell 2
  have j3 := k3.2.1.cell 3
  have j4 := k3.2.1.cell 4
  have j5 := k3.2.1.cell 5
  go_wp2_with fail
  refine (hs2 _ _ (Hb.st C3)).mono ?_; rintro e w4 ⟨rfl, B4⟩
  have k4 := k3.nx B4
  have C4 := k4.2.2.2
  clear i0 i1 i2 i3 i4 i5 j0 j1 j2 j3 j4 j5
  go_upto_region 3 with fail
  have k4d := k4.dr
  have k4s := And.intro (k4d.1.cell 0) (And.intro (k4d.1.cell 1) (And.intro (k4d.1.cell 2) (And.intro (k4d.1.cell 3) (And.intro (k4d.1.cell 4) (And.intro (k4d.1.cell 5) (And.intro (k4d.2.1.cell 0) (And.intro (k4d.2.1.cell 1) (And.intro (k4d.2.1.cell 2) (And.intro (k4d.2.1.cell 3) (And.intro (k4d.2.1.cell 4) (And.intro (k4d.2.1.cell 5) (And.intro (k4d.2.2.1.cell 0) (And.intro (k4d.2.2.1.frozen 0) (And.intro (k4d.2.2.1.cell 1) (And.intro (k4d.2.2.1.frozen 1) (And.intro (k4d.2.2.1.cell 2) (And.intro (k4d.2.2.1.frozen 2) (And.intro (k4d.2.2.1.cell 3) (And.intro (k4d.2.2.1.frozen 3) (And.intro (k4d.2.2.1.cell 4) (And.intro (k4d.2.2.1.frozen 4) (And.intro (k4d.2.2.1.cell 5) (And.intro (k4d.2.2.1.frozen 5) (k4d))))))))))))))))))))))))
  go_region_held3 (fun w' => w'.cell? ⟨w.heap.size, 0, none⟩ = some (.bool (qn x)) ∧ w'.cell? ⟨w.heap.size, 1, none⟩ = some (.slice A1 (digs (qt x)).length c1) ∧ w'.cell? ⟨w.heap.size, 2, none⟩ = some (.slice D1 (digs (qd x)).length d1) ∧ w'.cell? ⟨w.heap.size, 3, none⟩ = some (.bool (qn y)) ∧ w'.cell? ⟨w.heap.size, 4, none⟩ = some (.slice A2 (digs (qt y)).length c2) ∧ w'.cell? ⟨w.heap.size, 5, none⟩ = some (.slice D2 (digs (qd y)).length d2) ∧ w'.cell? ⟨w.heap.size + 1, 0, none⟩ = some (.bool (qn u)) ∧ w'.cell? ⟨w.heap.size + 1, 1, none⟩ = some (.slice E1 (digs (qt u)).length e1) ∧ w'.cell? ⟨w.heap.size + 1, 2, none⟩ = some (.slice F1 (digs (qd u)).length f1) ∧ w'.cell? ⟨w.heap.size + 1, 3, none⟩ = some (.bool (qn v)) ∧ w'.cell? ⟨w.heap.size + 1, 4, none⟩ = some (.slice E2 (digs (qt v)).length e2) ∧ w'.cell? ⟨w.heap.size + 1, 5, none⟩ = some (.slice F2 (digs (qd v)).length f2) ∧ w'.cell? ⟨w.heap.size + 2, 0, none⟩ = some (cv w' (w.heap.size + 2) 0) ∧ w'.frozen? ⟨w.heap.size + 2, 0, none⟩ = false ∧ w'.cell? ⟨w.heap.size + 2, 1, none⟩ = some (cv w' (w.heap.size + 2) 1) ∧ w'.frozen? ⟨w.heap.size + 2, 1, none⟩ = false ∧ w'.cell? ⟨w.heap.size + 2, 2, none⟩ = some (cv w' (w.heap.size + 2) 2) ∧ w'.frozen? ⟨w.heap.size + 2, 2, none⟩ = false ∧ w'.cell? ⟨w.heap.size + 2, 3, none⟩ = some (cv w' (w.heap.size + 2) 3) ∧ w'.frozen? ⟨w.heap.size + 2, 3, none⟩ = false ∧ w'.cell? ⟨w.heap.size + 2, 4, none⟩ = some (cv w' (w.heap.size + 2) 4) ∧ w'.frozen? ⟨w.heap.size + 2, 4, none⟩ = false ∧ w'.cell? ⟨w.heap.size + 2, 5, none⟩ = some (cv w' (w.heap.size + 2) 5) ∧ w'.frozen? ⟨w.heap.size + 2, 5, none⟩ = false ∧ S3 w w.heap.size [.bool (qn x), .slice A1 (digs (qt x)).length c1, .slice D1 (digs (qd x)).length d1, .bool (qn y), .slice A2 (digs (qt y)).length c2, .slice D2 (digs (qd y)).length d2] [.bool (qn u), .slice E1 (digs (qt u)).length e1, .slice F1 (digs (qd u)).length f1, .bool (qn v), .slice E2 (digs (qt v)).length e2, .slice F2 (digs (qd v)).length f2] 6 w')
    (first
      | with_reducible exact k4s
      | (have s1 := (by with_reducible assumption : _ ∧ _ ∧ _ ∧ _ ∧ _ ∧ _ ∧ _ ∧ _ ∧ _ ∧ _ ∧ _ ∧ _ ∧ _ ∧ _ ∧ _ ∧ _ ∧ _ ∧ _ ∧ _ ∧ _ ∧ _ ∧ _ ∧ _ ∧ _ ∧ S3 w w.heap.size [.bool (qn x), .slice A1 (digs (qt x)).length c1, .slice D1 (digs (qd x)).length d1, .bool (qn y), .slice A2 (digs (qt y)).length c2, .slice D2 (digs (qd y)).length d2] [.bool (qn u), .slice E1 (digs (qt u)).length e1, .slice F1 (digs (qd u)).length f1, .bool (qn v), .slice E2 (digs (qt v)).length e2, .slice F2 (digs (qd v)).length f2] 6 _).2.2.2.2.2.2.2.2.2.2.2.2.2.2.2.2.2.2.2.2.2.2.2.2.nx BX; have q0_ := s1.1.cell 0; have q1_ := s1.1.cell 1; have q2_ := s1.1.cell 2; have q3_ := s1.1.cell 3; have q4_ := s1.1.cell 4; have q5_ := s1.1.cell 5; have q6_ := s1.2.1.cell 0; have q7_ := s1.2.1.cell 1; have q8_ := s1.2.1.cell 2; have q9_ := s1.2.1.cell 3; have q10_ := s1.2.1.cell 4; have q11_ := s1.2.1.cell 5; have q12_ := s1.2.2.1.cell 0; have q13_ := s1.2.2.1.frozen 0; have q14_ := s1.2.2.1.cell 1; have q15_ := s1.2.2.1.frozen 1; have q16_ := s1.2.2.1.cell 2; have q17_ := s1.2.2.1.frozen 2; have q18_ := s1.2.2.1.cell 3; have q19_ := s1.2.2.1.frozen 3; have q20_ := s1.2.2.1.cell 4; have q21_ := s1.2.2.1.frozen 4; have q22_ := s1.2.2.1.cell 5; have q23_ := s1.2.2.1.frozen 5; with_reducible exact ⟨q0_, q1_, q2_, q3_, q4_, q5_, q6_, q7_, q8_, q9_, q10_, q11_, q12_, q13_, q14_, q15_, q16_, q17_, q18_, q19_, q20_, q21_, q22_, q23_, s1⟩)
      | (have s1 := (by with_reducible assumption : _ ∧ _ ∧ _ ∧ _ ∧ _ ∧ _ ∧ _ ∧ _ ∧ _ ∧ _ ∧ _ ∧ _ ∧ _ ∧ _ ∧ _ ∧ _ ∧ _ ∧ _ ∧ _ ∧ _ ∧ _ ∧ _ ∧ _ ∧ _ ∧ S3 w w.heap.size [.bool (qn x), .slice A1 (digs (qt x)).length c1, .slice D1 (digs (qd x)).length d1, .bool (qn y), .slice A2 (digs (qt y)).length c2, .slice D2 (digs (qd y)).length d2] [.bool (qn u), .slice E1 (digs (qt u)).length e1, .slice F1 (digs (qd u)).length f1, .bool (qn v), .slice E2 (digs (qt v)).length e2, .slice F2 (digs (qd v)).length f2] 6 _).2.2.2.2.2.2.2.2.2.2.2.2.2.2.2.2.2.2.2.2.2.2.2.2.put6 (.bool fr.s) (.slice A7 fr.a.length c7) (.slice D7 fr.b.length d7) (.bool fi.s) (.slice A8 fi.a.length c8) (.slice D8 fi.b.length d8); have q0_ := s1.1.cell 0; have q1_ := s1.1.cell 1; have q2_ := s1.1.cell 2; have q3_ := s1.1.cell 3; have q4_ := s1.1.cell 4; have q5_ := s1.1.cell 5; have q6_ := s1.2.1.cell 0; have q7_ := s1.2.1.cell 1; have q8_ := s1.2.1.cell 2; have q9_ := s1.2.1.cell 3; have q10_ := s1.2.1.cell 4; have q11_ := s1.2.1.cell 5; have q12_ := s1.2.2.1.cell 0; have q13_ := s1.2.2.1.frozen 0; have q14_ := s1.2.2.1.cell 1; have q15_ := s1.2.2.1.frozen 1; have q16_ := s1.2.2.1.cell 2; have q17_ := s1.2.2.1.frozen 2; have q18_ := s1.2.2.1.cell 3; have q19_ := s1.2.2.1.frozen 3; have q20_ := s1.2.2.1.cell 4; have q21_ := s1.2.2.1.frozen 4; have q22_ := s1.2.2.1.cell 5; have q23_ := s1.2.2.1.frozen 5; with_reducible exact ⟨q0_, q1_, q2_, q3_, q4_, q5_, q6_, q7_, q8_, q9_, q10_, q11_, q12_, q13_, q14_, q15_, q16_, q17_, q18_, q19_, q20_, q21_, q22_, q23_, s1⟩))
    (first
      | (go_at_call_of 64 (Value.agg #[.bool (qn u), .slice E1 (digs (qt u)).length e1, .slice F1 (digs (qd u)).length f1]); have hh := (by with_reducible assumption : _ ∧ _ ∧ _ ∧ _ ∧ _ ∧ _ ∧ _ ∧ _ ∧ _ ∧ _ ∧ _ ∧ _ ∧ _ ∧ _ ∧ _ ∧ _ ∧ _ ∧ _ ∧ _ ∧ _ ∧ _ ∧ _ ∧ _ ∧ _ ∧ S3 w w.heap.size [.bool (qn x), .slice A1 (digs (qt x)).length c1, .slice D1 (digs (qd x)).length d1, .bool (qn y), .slice A2 (digs (qt y)).length c2, .slice D2 (digs (qd y)).length d2] [.bool (qn u), .slice E1 (digs (qt u)).length e1, .slice F1 (digs (qd u)).length f1, .bool (qn v), .slice E2 (digs (qt v)).length e2, .slice F2 (digs (qd v)).length f2] 6 _).2.2.2.2.2.2.2.2.2.2.2.2.2.2.2.2.2.2.2.2.2.2.2.2; refine (rminus_any u E1 F1 e1 f1 _).mono ?_; rintro e w12 ⟨rfl, BX⟩)
      | (go_at_call_of 63 (Value.agg #[.bool (qn x), .slice A1 (digs (qt x)).length c1, .slice D1 (digs (qd x)).length d1]); have hh := (by with_reducible assumption : _ ∧ _ ∧ _ ∧ _ ∧ _ ∧ _ ∧ _ ∧ _ ∧ _ ∧ _ ∧ _ ∧ _ ∧ _ ∧ _ ∧ _ ∧ _ ∧ _ ∧ _ ∧ _ ∧ _ ∧ _ ∧ _ ∧ _ ∧ _ ∧ S3 w w.heap.size [.bool (qn x), .slice A1 (digs (qt x)).length c1, .slice D1 (digs (qd x)).length d1, .bool (qn y), .slice A2 (digs (qt y)).length c2, .slice D2 (digs (qd y)).length d2] [.bool (qn u), .slice E1 (digs (qt u)).length e1, .slice F1 (digs (qd u)).length f1, .bool (qn v), .slice E2 (digs (qt v)).length e2, .slice F2 (digs (qd v)).length f2] 6 _).2.2.2.2.2.2.2.2.2.2.2.2.2.2.2.2.2.2.2.2.2.2.2.2; refine (rsum_any _ _ x (-u) _ (hx.st hh.2.2.2) (RQ.neg (hu.st hh.2.2.2)) (by omega)).mono ?_; rintro e w14 ⟨A14, c14, D14, d14, rfl, O14, P14, BX⟩; have O14 := O14.base_le hh.2.2.1.2; have P14 := P14.base_le hh.2.2.1.2)
      | (go_at_call_of 64 (Value.agg #[.bool (qn v), .slice E2 (digs (qt v)).length e2, .slice F2 (digs (qd v)).length f2]); have hh := (by with_reducible assumption : _ ∧ _ ∧ _ ∧ _ ∧ _ ∧ _ ∧ _ ∧ _ ∧ _ ∧ _ ∧ _ ∧ _ ∧ _ ∧ _ ∧ _ ∧ _ ∧ _ ∧ _ ∧ _ ∧ _ ∧ _ ∧ _ ∧ _ ∧ _ ∧ S3 w w.heap.size [.bool (qn x), .slice A1 (digs (qt x)).length c1, .slice D1 (digs (qd x)).length d1, .bool (qn y), .slice A2 (digs (qt y)).length c2, .slice D2 (digs (qd y)).length d2] [.bool (qn u), .slice E1 (digs (qt u)).length e1, .slice F1 (digs (qd u)).length f1, .bool (qn v), .slice E2 (digs (qt v)).length e2, .slice F2 (digs (qd v)).length f2] 6 _).2.2.2.2.2.2.2.2.2.2.2.2.2.2.2.2.2.2.2.2.2.2.2.2; refine (rminus_any v E2 F2 e2 f2 _).mono ?_; rintro e w13 ⟨rfl, BX⟩; have O14 := O14.below BX (Nat.le_refl _); have P14 := P14.below BX (Nat.le_refl _))
      | (go_at_call_of 63 (Value.agg #[.bool (qn y), .slice A2 (digs (qt y)).length c2, .slice D2 (digs (qd y)).length d2]); have hh := (by with_reducible assumption : _ ∧ _ ∧ _ ∧ _ ∧ _ ∧ _ ∧ _ ∧ _ ∧ _ ∧ _ ∧ _ ∧ _ ∧ _ ∧ _ ∧ _ ∧ _ ∧ _ ∧ _ ∧ _ ∧ _ ∧ _ ∧ _ ∧ _ ∧ _ ∧ S3 w w.heap.size [.bool (qn x), .slice A1 (digs (qt x)).length c1, .slice D1 (digs (qd x)).length d1, .bool (qn y), .slice A2 (digs (qt y)).length c2, .slice D2 (digs (qd y)).length d2] [.bool (qn u), .slice E1 (digs (qt u)).length e1, .slice F1 (digs (qd u)).length f1, .bool (qn v), .slice E2 (digs (qt v)).length e2, .slice F2 (digs (qd v)).length f2] 6 _).2.2.2.2.2.2.2.2.2.2.2.2.2.2.2.2.2.2.2.2.2.2.2.2; refine (rsum_any _ _ y (-v) _ (hy.st hh.2.2.2) (RQ.neg (hv.st hh.2.2.2)) (by omega)).mono ?_; rintro e w15 ⟨A15, c15, D15, d15, rfl, O15, P15, BX⟩; have O15 := O15.base_le hh.2.2.1.2; have P15 := P15.base_le hh.2.2.1.2; have O14 := O14.below BX (Nat.le_refl _); have P14 := P14.below BX (Nat.le_refl _))
      | (go_at_call 47; have hh := (by with_reducible assumption : _ ∧ _ ∧ _ ∧ _ ∧ _ ∧ _ ∧ _ ∧ _ ∧ _ ∧ _ ∧ _ ∧ _ ∧ _ ∧ _ ∧ _ ∧ _ ∧ _ ∧ _ ∧ _ ∧ _ ∧ _ ∧ _ ∧ _ ∧ _ ∧ S3 w w.heap.size [.bool (qn x), .slice A1 (digs (qt x)).length c1, .slice D1 (digs (qd x)).length d1, .bool (qn y), .slice A2 (digs (qt y)).length c2, .slice D2 (digs (qd y)).length d2] [.bool (qn u), .slice E1 (digs (qt u)).length e1, .slice F1 (digs (qd u)).length f1, .bool (qn v), .slice E2 (digs (qt v)).length e2, .slice F2 (digs (qd v)).length f2] 6 _).2.2.2.2.2.2.2.2.2.2.2.2.2.2.2.2.2.2.2.2.2.2.2.2; refine (hF _ _ _ _ _ _ _ _ _ _ O14 P14 O15 P15).mono ?_; rintro e w16 ⟨A7, c7, D7, d7, A8, c8, D8, d8, rfl, Q1, Q2, Q3, Q4, BX⟩; dsimp only at Q1 Q2 Q3 Q4; have kk := hh.nx BX))
  have s6 := kk.2.2.1.put6 (.bool fr.s) (.slice A7 fr.a.length c7) (.slice D7 fr.b.length d7) (.bool fi.s) (.slice A8 fi.a.length c8) (.slice D8 fi.b.length d8)
  have B6 := wr6_below (b := w.heap.size + 2) kk.2.2.2 (by omega) (.bool fr.s) (.slice A7 fr.a.length c7) (.slice D7 fr.b.length d7) (.bool fi.s) (.slice A8 fi.a.length c8) (.slice D8 fi.b.length d8)
  have O1 := Q1.put6 (b := w.heap.size + 2) (Nat.lt_succ_self _) (.bool fr.s) (.slice A7 fr.a.length c7) (.slice D7 fr.b.length d7) (.bool fi.s) (.slice A8 fi.a.length c8) (.slice D8 fi.b.length d8)
  have O2 := Q2.put6 (b := w.heap.size + 2) (Nat.lt_succ_self _) (.bool fr.s) (.slice A7 fr.a.length c7) (.slice D7 fr.b.length d7) (.bool fi.s) (.slice A8 fi.a.length c8) (.slice D8 fi.b.length d8)
  have O3 := Q3.put6 (b := w.heap.size + 2) (Nat.lt_succ_self _) (.bool fr.s) (.slice A7 fr.a.length c7) (.slice D7 fr.b.length d7) (.bool fi.s) (.slice A8 fi.a.length c8) (.slice D8 fi.b.length d8)
  have O4 := Q4.put6 (b := w.heap.size + 2) (Nat.lt_succ_self _) (.bool fr.s) (.slice A7 fr.a.length c7) (.slice D7 fr.b.length d7) (.bool fi.s) (.slice A8 fi.a.length c8) (.slice D8 fi.b.length d8)
  have r0' := s6.cell 0
  have r1' := s6.cell 1
  have r2' := s6.cell 2
  have r3' := s6.cell 3
  have r4' := s6.cell 4
  have r5' := s6.cell 5
  unfold wr6 wr3 at s6 B6 O1 O2 O3 O4 r0' r1' r2' r3' r4' r5'
  go_wp2_with fail
  refine bodyPost_ret (v := .tuple #[.agg #[.bool fr.s, .slice A7 fr.a.length c7, .slice D7 fr.b.length d7, .bool fi.s, .slice A8 fi.a.length c8, .slice D8 fi.b.length d8], .int .i64 fk]) (by simp [results, r0', r1', r2', r3', r4', r5', go_sem]) rfl ?_
  have hle : w.heap.size ≤ w.heap.size + 2 + 1 := by omega
  exact ⟨A7, c7, D7, d7, A8, c8, D8, d8, rfl, O1.base_le hle, O2.base_le hle, O3.base_le hle, O4.base_le hle, B6⟩


theorem raddn_any {V U : Value} {r i r' i' : Rw} {w : World} (hV : VN w w.heap.size V r i) (hU : VN w w.heap.size U r' i') : Calls Try.prog 29 #[V, U] w (RetNE w (qaddA r i r' i')) := by
  unfold qaddA
  by_cases h : nB r i = true ∧ nB r' i' = true
  · rw [if_pos h]
    obtain ⟨x, y, rfl, rfl, h1, h2⟩ := nB_rat h.1
    obtain ⟨u, v, rfl, rfl, h3, h4⟩ := nB_rat h.2
    rw [qv_rwq, qv_rwq, qv_rwq, qv_rwq]
    exact raddn_ok V U x y u v w hV hU h1 h2 h3 h4
  · rw [if_neg h]
    exact raddn_bad V U r i r' i' w hV hU h

theorem rsubn_any {V U : Value} {r i r' i' : Rw} {w : World} (hV : VN w w.heap.size V r i) (hU : VN w w.heap.size U r' i') : Calls Try.prog 30 #[V, U] w (RetNE w (qsubA r i r' i')) := by
  unfold qsubA
  by_cases h : nB r i = true ∧ nB r' i' = true
  · rw [if_pos h]
    obtain ⟨x, y, rfl, rfl, h1, h2⟩ := nB_rat h.1
    obtain ⟨u, v, rfl, rfl, h3, h4⟩ := nB_rat h.2
    rw [qv_rwq, qv_rwq, qv_rwq, qv_rwq]
    exact rsubn_ok V U x y u v w hV hU h1 h2 h3 h4
  · rw [if_neg h]
    exact rsubn_bad V U r i r' i' w hV hU h

set_option maxRecDepth 100000 in
set_option maxHeartbeats 4000000 in
theorem rcmpn_walk (V U : Value) (r i r' i' : Rw) (w : World) (hV : VN w w.heap.size V r i) (hU : VN w w.heap.size U r' i') (s1 s2 t1 t2 : Bool) (h1 : nB r i = s1) (h2 : nB r' i' = s2) (h3 : decide (i.a.length = 0) = t1) (h4 : decide (i'.a.length = 0) = t2) (z : Int)
    (hO : s1 = true → s2 = true → t1 = true → t2 = true → ∀ V U w', VR w' w'.heap.size V r.s r.a r.b → VR w' w'.heap.size U r'.s r'.a r'.b → Calls Try.prog 73 #[V, U] w' fun e w'' => e = .returned (.int .i64 z) ∧ Below w'.heap.size w' w'') :
    Calls Try.prog 32 #[V, U] w fun e w' => e = .returned (if s1 = true ∧ s2 = true then (if t1 = true ∧ t2 = true then .tuple #[.int .i64 z, .int .i64 0] else .tuple #[.int .i64 0, .int .i64 10]) else .tuple #[.int .i64 0, .int .i64 2]) ∧ Below w.heap.size w w' := by
  obtain ⟨A1, c1, D1, d1, A2, c2, D2, d2, rfl, p1, p2, p3, p4⟩ := hV
  obtain ⟨E1, e1, F1, f1, E2, e2, F2, f2, rfl, p5, p6, p7, p8⟩ := hU
  have Ha : VN w w.heap.size (.agg #[.bool r.s, .slice A1 r.a.length c1, .slice D1 r.b.length d1, .bool i.s, .slice A2 i.a.length c2, .slice D2 i.b.length d2]) r i := ⟨A1, c1, D1, d1, A2, c2, D2, d2, rfl, p1, p2, p3, p4⟩
  have Hb : VN w w.heap.size (.agg #[.bool r'.s, .slice E1 r'.a.length e1, .slice F1 r'.b.length f1, .bool i'.s, .slice E2 i'.a.length e2, .slice F2 i'.b.length f2]) r' i' := ⟨E1, e1, F1, f1, E2, e2, F2, f2, rfl, p5, p6, p7, p8⟩
  have k0 := T2.new w [.bool r.s, .slice A1 r.a.length c1, .slice D1 r.b.length d1, .bool i.s, .slice A2 i.a.length c2, .slice D2 i.b.length d2] [.bool r'.s, .slice E1 r'.a.length e1, .slice F1 r'.b.length f1, .bool i'.s, .slice E2 i'.a.length e2, .slice F2 i'.b.length f2] 26 26
  have C0 := k0.2.2
  have i0 := k0.1.cell 0
  have i1 := k0.1.cell 1
  have i2 := k0.1.cell 2
  have i3 := k0.1.cell 3
  have i4 := k0.1.cell 4
  have i5 := k0.1.cell 5
  have hs1 := fun V w' h => resound_any V r i w' h
  have hs2 := fun V w' h => resound_any V r' i' w' h
  have hr1 := fun V w' h => rreal_any V r i w' h
  have hr2 := fun V w' h => rreal_any V r' i' w' h
  rw [h1] at hs1
  rw [h2] at hs2
  rw [h3] at hr1
  rw [h4] at hr2
  clear h1 h2 h3 h4
  cases s1 with
  | false =>
    rw [if_neg (by simp)]
    clear hO
    go_enter Try.func32, Try.ntmps32
    go_wp2_with fail
    refine (hs1 _ _ (Ha.st C0)).mono ?_; rintro e w3 ⟨rfl, B3⟩
    have k3 := k0.nx B3
    have C3 := k3.2.2
    clear i0 i1 i2 i3 i4 i5
    go_wp2_with fail
    go_ret2
    exact ⟨rfl, C3⟩
  | true =>
    cases s2 with
    | false =>
      rw [if_neg (by simp)]
      clear hO
      go_enter Try.func32, Try.ntmps32
      go_wp2_with fail
      refine (hs1 _ _ (Ha.st C0)).mono ?_; rintro e w3 ⟨rfl, B3⟩
      have k3 := k0.nx B3
      have C3 := k3.2.2
      clear i0 i1 i2 i3 i4 i5
      have j0 := k3.2.1.cell 0
      have j1 := k3.2.1.cell 1
      have j2 := k3.2.1.cell 2
      have j3 := k3.2.1.cell 3
      have j4 := k3.2.1.cell 4
      have j5 := k3.2.1.cell 5
      go_wp2_with fail
      refine (hs2 _ _ (Hb.st C3)).mono ?_; rintro e w4 ⟨rfl, B4⟩
      have k4 := k3.nx B4
      have C4 := k4.2.2
      clear j0 j1 j2 j3 j4 j5
      go_wp2_with fail
      go_ret2
      exact ⟨rfl, C4⟩
    | true =>
      rw [if_pos ⟨rfl, rfl⟩]
      cases t1 with
      | false =>
        rw [if_neg (by simp)]
        clear hO
        go_enter Try.func32, Try.ntmps32
        go_wp2_with fail
        refine (hs1 _ _ (Ha.st C0)).mono ?_; rintro e w3 ⟨rfl, B3⟩
        have k3 := k0.nx B3
        have C3 := k3.2.2
        clear i0 i1 i2 i3 i4 i5
        have j0 := k3.2.1.cell 0
        have j1 := k3.2.1.cell 1
        have j2 := k3.2.1.cell 2
        have j3 := k3.2.1.cell 3
        have j4 := k3.2.1.cell 4
        have j5 := k3.2.1.cell 5
        go_wp2_with fail
        refine (hs2 _ _ (Hb.st C3)).mono ?_; rintro e w4 ⟨rfl, B4⟩
        have k4 := k3.nx B4
        have C4 := k4.2.2
        clear j0 j1 j2 j3 j4 j5
        have i0 := k4.1.cell 0
        have i1 := k4.1.cell 1
        have i2 := k4.1.cell 2
        have i3 := k4.1.cell 3
        have i4 := k4.1.cell 4
        have i5 := k4.1.cell 5
        go_wp2_with fail
        refine (hr1 _ _ (Ha.st C4)).mono ?_; rintro e w5 ⟨rfl, B5⟩
        have k5 := k4.nx B5
        have C5 := k5.2.2
        clear i0 i1 i2 i3 i4 i5
        go_wp2_with fail
        go_ret2
        exact ⟨rfl, C5⟩
      | true =>
        cases t2 with
        | false =>
          rw [if_neg (by simp)]
          clear hO
          go_enter Try.func32, Try.ntmps32
          go_wp2_with fail
          refine (hs1 _ _ (Ha.st C0)).mono ?_; rintro e w3 ⟨rfl, B3⟩
          have k3 := k0.nx B3
          have C3 := k3.2.2
          clear i0 i1 i2 i3 i4 i5
          have j0 := k3.2.1.cell 0
          have j1 := k3.2.1.cell 1
          have j2 := k3.2.1.cell 2
          have j3 := k3.2.1.cell 3
          have j4 := k3.2.1.cell 4
          have j5 := k3.2.1.cell 5
          go_wp2_with fail
          refine (hs2 _ _ (Hb.st C3)).mono ?_; rintro e w4 ⟨rfl, B4⟩
          have k4 := k3.nx B4
          have C4 := k4.2.2
          clear j0 j1 j2 j3 j4 j5
          have i0 := k4.1.cell 0
          have i1 := k4.1.cell 1
          have i2 := k4.1.cell 2
          have i3 := k4.1.cell 3
          have i4 := k4.1.cell 4
          have i5 := k4.1.cell 5
          go_wp2_with fail
          refine (hr1 _ _ (Ha.st C4)).mono ?_; rintro e w5 ⟨rfl, B5⟩
          have k5 := k4.nx B5
          have C5 := k5.2.2
          clear i0 i1 i2 i3 i4 i5
          have j0 := k5.2.1.cell 0
          have j1 := k5.2.1.cell 1
          have j2 := k5.2.1.cell 2
          have j3 := k5.2.1.cell 3
          have j4 := k5.2.1.cell 4
          have j5 := k5.2.1.cell 5
          go_wp2_with fail
          refine (hr2 _ _ (Hb.st C5)).mono ?_; rintro e w6 ⟨rfl, B6⟩
          have k6 := k5.nx B6
          have C6 := k6.2.2
          clear j0 j1 j2 j3 j4 j5
          go_wp2_with fail
          go_ret2
          exact ⟨rfl, C6⟩
        | true =>
          rw [if_pos ⟨rfl, rfl⟩]
          have hQ := hO rfl rfl rfl rfl
          clear hO
          go_enter Try.func32, Try.ntmps32
          go_wp2_with fail
          refine (hs1 _ _ (Ha.st C0)).mono ?_; rintro e w3 ⟨rfl, B3⟩
          have k3 := k0.nx B3
          have C3 := k3.2.2
          clear i0 i1 i2 i3 i4 i5
          have j0 := k3.2.1.cell 0
          have j1 := k3.2.1.cell 1
          have j2 := k3.2.1.cell 2
          have j3 := k3.2.1.cell 3
          have j4 := k3.2.1.cell 4
          have j5 := k3.2.1.cell 5
          go_wp2_with fail
          refine (hs2 _ _ (Hb.st C3)).mono ?_; rintro e w4 ⟨rfl, B4⟩
          have k4 := k3.nx B4
          have C4 := k4.2.2
          clear j0 j1 j2 j3 j4 j5
          have i0 := k4.1.cell 0
          have i1 := k4.1.cell 1
          have i2 := k4.1.cell 2
          have i3 := k4.1.cell 3
          have i4 := k4.1.cell 4
          have i5 := k4.1.cell 5
          go_wp2_with fail
          refine (hr1 _ _ (Ha.st C4)).mono ?_; rintro e w5 ⟨rfl, B5⟩
          have k5 := k4.nx B5
          have C5 := k5.2.2
          clear i0 i1 i2 i3 i4 i5
          have j0 := k5.2.1.cell 0
          have j1 := k5.2.1.cell 1
          have j2 := k5.2.1.cell 2
          have j3 := k5.2.1.cell 3
          have j4 := k5.2.1.cell 4
          have j5 := k5.2.1.cell 5
          go_wp2_with fail
          refine (hr2 _ _ (Hb.st C5)).mono ?_; rintro e w6 ⟨rfl, B6⟩
          have k6 := k5.nx B6
          have C6 := k6.2.2
          clear j0 j1 j2 j3 j4 j5
          have i0 := k6.1.cell 0
          have i1 := k6.1.cell 1
          have i2 := k6.1.cell 2
          have j0 := k6.2.1.cell 0
          have j1 := k6.2.1.cell 1
          have j2 := k6.2.1.cell 2
          go_wp2_with fail
          refine (hQ _ _ _ ⟨A1, c1, D1, d1, rfl, st p1 C6, st p2 C6⟩ ⟨E1, e1, F1, f1, rfl, st p5 C6, st p6 C6⟩).mono ?_; rintro e w7 ⟨rfl, B7⟩
          go_wp2_with fail
          go_ret2
          exact ⟨rfl, bt C6 B7⟩

theorem rcmpn_any {V U : Value} {r i r' i' : Rw} {w : World} (hV : VN w w.heap.size V r i) (hU : VN w w.heap.size U r' i') :
    Calls Try.prog 32 #[V, U] w fun e w' => e = .returned (.tuple #[.int .i64 (qcmpA r i r' i').1, .int .i64 (qcmpA r i r' i').2]) ∧ Below w.heap.size w w' := by
  have hw := rcmpn_walk V U r i r' i' w hV hU (nB r i) (nB r' i') (decide (i.a.length = 0)) (decide (i'.a.length = 0)) rfl rfl rfl rfl (cmpQ (qv r) (qv r')) (fun e1 e2 _ _ V U w' h1 h2 => by
    obtain ⟨x, y, rfl, rfl, b1, b2⟩ := nB_rat e1
    obtain ⟨u, v, rfl, rfl, b3, b4⟩ := nB_rat e2
    rw [qv_rwq, qv_rwq]
    exact rratOrder_any V U x u w' h1 h2 (by omega))
  refine hw.mono ?_
  rintro e w' ⟨rfl, B⟩
  refine ⟨?_, B⟩
  unfold qcmpA
  by_cases h1 : nB r i = true ∧ nB r' i' = true
  · by_cases h2 : i.a.length = 0 ∧ i'.a.length = 0
    · have e : chkN2 true r i r' i' = 0 := by unfold chkN2; rw [if_pos h1, if_neg (by omega)]
      rw [if_pos h1, if_pos (by simp [h2]), if_pos e]
    · have e : chkN2 true r i r' i' = 10 := by unfold chkN2; rw [if_pos h1, if_pos ⟨rfl, by omega⟩]
      rw [if_pos h1, if_neg (by simpa using h2), e, if_neg (by omega)]
  · have e : chkN2 true r i r' i' = 2 := by unfold chkN2; rw [if_neg h1]
    rw [if_neg h1, e, if_neg (by omega)]

end Go.Proofs.Ytdkejndagicgjaa
namespace Go.Proofs.Ytdkejndagicgjaa
open Go.RowKit


set_option maxRecDepth 100000 in
set_option maxHeartbeats 4000000 in
theorem rsamen_any (V U : Value) (r i r' i' : Rw) (w : World) (hV : VN w w.heap.size V r i) (hU : VN w w.heap.size U r' i') :
    Calls Try.prog 35 #[V, U] w fun e w' => e = .returned (.bool (sameB r i r' i')) ∧ Below w.heap.size w w' := by
  obtain ⟨A1, c1, D1, d1, A2, c2, D2, d2, rfl, p1, p2, p3, p4⟩ := hV
  obtain ⟨E1, e1, F1, f1, E2, e2, F2, f2, rfl, p5, p6, p7, p8⟩ := hU
  have Ha : VN w w.heap.size (.agg #[.bool r.s, .slice A1 r.a.length c1, .slice D1 r.b.length d1, .bool i.s, .slice A2 i.a.length c2, .slice D2 i.b.length d2]) r i := ⟨A1, c1, D1, d1, A2, c2, D2, d2, rfl, p1, p2, p3, p4⟩
  have Hb : VN w w.heap.size (.agg #[.bool r'.s, .slice E1 r'.a.length e1, .slice F1 r'.b.length f1, .bool i'.s, .slice E2 i'.a.length e2, .slice F2 i'.b.length f2]) r' i' := ⟨E1, e1, F1, f1, E2, e2, F2, f2, rfl, p5, p6, p7, p8⟩
  have k0 := T2.new w [.bool r.s, .slice A1 r.a.length c1, .slice D1 r.b.length d1, .bool i.s, .slice A2 i.a.length c2, .slice D2 i.b.length d2] [.bool r'.s, .slice E1 r'.a.length e1, .slice F1 r'.b.length f1, .bool i'.s, .slice E2 i'.a.length e2, .slice F2 i'.b.length f2] 26 26
  have C0 := k0.2.2
  have hs1 := fun V w' h => resound_any V r i w' h
  have hs2 := fun V w' h => resound_any V r' i' w' h
  have hq1 := fun V U w' h1 h2 => ratSame_any V U r.s r.a r.b r'.s r'.a r'.b w' h1 h2
  have hq2 := fun V U w' h1 h2 => ratSame_any V U i.s i.a i.b i'.s i'.a i'.b w' h1 h2
  unfold sameB
  generalize nB r i = t1 at *
  generalize nB r' i' = t2 at *
  generalize fsB r.s r.a r.b r'.s r'.a r'.b = t3 at *
  generalize fsB i.s i.a i.b i'.s i'.a i'.b = t4 at *
  cases t1 with
  | false =>
    have i0 := k0.1.cell 0
    have i1 := k0.1.cell 1
    have i2 := k0.1.cell 2
    have i3 := k0.1.cell 3
    have i4 := k0.1.cell 4
    have i5 := k0.1.cell 5
    go_enter Try.func35, Try.ntmps35
    go_wp2_with fail
    refine (hs1 _ _ (Ha.st C0)).mono ?_; rintro e w3 ⟨rfl, B3⟩
    have k3 := k0.nx B3
    have C3 := k3.2.2
    clear i0 i1 i2 i3 i4 i5
    go_wp2_with fail
    go_ret
    exact ⟨by simp, C3⟩
  | true =>
    cases t2 with
    | false =>
      have i0 := k0.1.cell 0
      have i1 := k0.1.cell 1
      have i2 := k0.1.cell 2
      have i3 := k0.1.cell 3
      have i4 := k0.1.cell 4
      have i5 := k0.1.cell 5
      go_enter Try.func35, Try.ntmps35
      go_wp2_with fail
      refine (hs1 _ _ (Ha.st C0)).mono ?_; rintro e w3 ⟨rfl, B3⟩
      have k3 := k0.nx B3
      have C3 := k3.2.2
      clear i0 i1 i2 i3 i4 i5
      have j0 := k3.2.1.cell 0
      have j1 := k3.2.1.cell 1
      have j2 := k3.2.1.cell 2
      have j3 := k3.2.1.cell 3
      have j4 := k3.2.1.cell 4
      have j5 := k3.2.1.cell 5
      go_wp2_with fail
      refine (hs2 _ _ (Hb.st C3)).mono ?_; rintro e w4 ⟨rfl, B4⟩
      have k4 := k3.nx B4
      have C4 := k4.2.2
      clear j0 j1 j2 j3 j4 j5
      go_wp2_with fail
      go_ret
      exact ⟨by simp, C4⟩
    | true =>
      cases t3 with
      | false =>
        have i0 := k0.1.cell 0
        have i1 := k0.1.cell 1
        have i2 := k0.1.cell 2
        have i3 := k0.1.cell 3
        have i4 := k0.1.cell 4
        have i5 := k0.1.cell 5
        go_enter Try.func35, Try.ntmps35
        go_wp2_with fail
        refine (hs1 _ _ (Ha.st C0)).mono ?_; rintro e w3 ⟨rfl, B3⟩
        have k3 := k0.nx B3
        have C3 := k3.2.2
        clear i0 i1 i2 i3 i4 i5
        have j0 := k3.2.1.cell 0
        have j1 := k3.2.1.cell 1
        have j2 := k3.2.1.cell 2
        have j3 := k3.2.1.cell 3
        have j4 := k3.2.1.cell 4
        have j5 := k3.2.1.cell 5
        go_wp2_with fail
        refine (hs2 _ _ (Hb.st C3)).mono ?_; rintro e w4 ⟨rfl, B4⟩
        have k4 := k3.nx B4
        have C4 := k4.2.2
        clear j0 j1 j2 j3 j4 j5
        have i0 := k4.1.cell 0
        have i1 := k4.1.cell 1
        have i2 := k4.1.cell 2
        have j0 := k4.2.1.cell 0
        have j1 := k4.2.1.cell 1
        have j2 := k4.2.1.cell 2
        go_wp2_with fail
        refine (hq1 _ _ _ ⟨A1, c1, D1, d1, rfl, st p1 C4, st p2 C4⟩ ⟨E1, e1, F1, f1, rfl, st p5 C4, st p6 C4⟩).mono ?_; rintro e w5 ⟨rfl, B5⟩
        have k5 := k4.nx B5
        have C5 := k5.2.2
        clear i0 i1 i2 j0 j1 j2
        go_wp2_with fail
        go_ret
        exact ⟨by simp, C5⟩
      | true =>
        have i0 := k0.1.cell 0
        have i1 := k0.1.cell 1
        have i2 := k0.1.cell 2
        have i3 := k0.1.cell 3
        have i4 := k0.1.cell 4
        have i5 := k0.1.cell 5
        go_enter Try.func35, Try.ntmps35
        go_wp2_with fail
        refine (hs1 _ _ (Ha.st C0)).mono ?_; rintro e w3 ⟨rfl, B3⟩
        have k3 := k0.nx B3
        have C3 := k3.2.2
        clear i0 i1 i2 i3 i4 i5
        have j0 := k3.2.1.cell 0
        have j1 := k3.2.1.cell 1
        have j2 := k3.2.1.cell 2
        have j3 := k3.2.1.cell 3
        have j4 := k3.2.1.cell 4
        have j5 := k3.2.1.cell 5
        go_wp2_with fail
        refine (hs2 _ _ (Hb.st C3)).mono ?_; rintro e w4 ⟨rfl, B4⟩
        have k4 := k3.nx B4
        have C4 := k4.2.2
        clear j0 j1 j2 j3 j4 j5
        have i0 := k4.1.cell 0
        have i1 := k4.1.cell 1
        have i2 := k4.1.cell 2
        have j0 := k4.2.1.cell 0
        have j1 := k4.2.1.cell 1
        have j2 := k4.2.1.cell 2
        go_wp2_with fail
        refine (hq1 _ _ _ ⟨A1, c1, D1, d1, rfl, st p1 C4, st p2 C4⟩ ⟨E1, e1, F1, f1, rfl, st p5 C4, st p6 C4⟩).mono ?_; rintro e w5 ⟨rfl, B5⟩
        have k5 := k4.nx B5
        have C5 := k5.2.2
        clear i0 i1 i2 j0 j1 j2
        have i3 := k5.1.cell 3
        have i4 := k5.1.cell 4
        have i5 := k5.1.cell 5
        have j3 := k5.2.1.cell 3
        have j4 := k5.2.1.cell 4
        have j5 := k5.2.1.cell 5
        go_wp2_with fail
        refine (hq2 _ _ _ ⟨A2, c2, D2, d2, rfl, st p3 C5, st p4 C5⟩ ⟨E2, e2, F2, f2, rfl, st p7 C5, st p8 C5⟩).mono ?_; rintro e w6 ⟨rfl, B6⟩
        have C6 := bt C5 B6
        clear i3 i4 i5 j3 j4 j5
        go_wp2_with fail
        go_ret
        exact ⟨by simp, C6⟩


set_option maxRecDepth 100000 in
set_option maxHeartbeats 4000000 in
theorem rwhole1_any (V : Value) (r i : Rw) (w : World) (hV : VN w w.heap.size V r i) :
    Calls Try.prog 38 #[V] w fun e w' => e = .returned (.bool (wB r i)) ∧ Below w.heap.size w w' := by
  obtain ⟨A1, c1, D1, d1, A2, c2, D2, d2, rfl, p1, p2, p3, p4⟩ := hV
  have Ha : VN w w.heap.size (.agg #[.bool r.s, .slice A1 r.a.length c1, .slice D1 r.b.length d1, .bool i.s, .slice A2 i.a.length c2, .slice D2 i.b.length d2]) r i := ⟨A1, c1, D1, d1, A2, c2, D2, d2, rfl, p1, p2, p3, p4⟩
  have S0 := SB.new w [.bool r.s, .slice A1 r.a.length c1, .slice D1 r.b.length d1, .bool i.s, .slice A2 i.a.length c2, .slice D2 i.b.length d2] 26
  have C0 := bal w (.cells #[.bool r.s, .slice A1 r.a.length c1, .slice D1 r.b.length d1, .bool i.s, .slice A2 i.a.length c2, .slice D2 i.b.length d2] 26)
  have hs1 := fun V w' h => resound_any V r i w' h
  have hr1 := fun V w' h => rreal_any V r i w' h
  unfold wB
  obtain ⟨t3, hd⟩ : ∃ t3, decide (r.b = [1]) = t3 := ⟨_, rfl⟩
  rw [hd]
  have hd := Lib.hid hd
  generalize nB r i = t1 at *
  generalize decide (i.a.length = 0) = t2 at *
  cases t1 with
  | false =>
    have i0 := S0.cell 0
    have i1 := S0.cell 1
    have i2 := S0.cell 2
    have i3 := S0.cell 3
    have i4 := S0.cell 4
    have i5 := S0.cell 5
    go_enter Try.func38, Try.ntmps38
    go_wp2_with fail
    refine (hs1 _ _ (Ha.st C0)).mono ?_; rintro e w3 ⟨rfl, B3⟩
    have S3 := S0.nx B3
    have C3 := bt C0 B3
    clear i0 i1 i2 i3 i4 i5
    go_wp2_with fail
    go_ret
    exact ⟨by simp, C3⟩
  | true =>
    cases t2 with
    | false =>
      have i0 := S0.cell 0
      have i1 := S0.cell 1
      have i2 := S0.cell 2
      have i3 := S0.cell 3
      have i4 := S0.cell 4
      have i5 := S0.cell 5
      go_enter Try.func38, Try.ntmps38
      go_wp2_with fail
      refine (hs1 _ _ (Ha.st C0)).mono ?_; rintro e w3 ⟨rfl, B3⟩
      have S3 := S0.nx B3
      have C3 := bt C0 B3
      clear i0 i1 i2 i3 i4 i5
      have j0 := S3.cell 0
      have j1 := S3.cell 1
      have j2 := S3.cell 2
      have j3 := S3.cell 3
      have j4 := S3.cell 4
      have j5 := S3.cell 5
      go_wp2_with fail
      refine (hr1 _ _ (Ha.st C3)).mono ?_; rintro e w4 ⟨rfl, B4⟩
      have S4 := S3.nx B4
      have C4 := bt C3 B4
      clear j0 j1 j2 j3 j4 j5
      go_wp2_with fail
      go_ret
      exact ⟨by simp, C4⟩
    | true =>
      have i0 := S0.cell 0
      have i1 := S0.cell 1
      have i2 := S0.cell 2
      have i3 := S0.cell 3
      have i4 := S0.cell 4
      have i5 := S0.cell 5
      go_enter Try.func38, Try.ntmps38
      go_wp2_with fail
      refine (hs1 _ _ (Ha.st C0)).mono ?_; rintro e w3 ⟨rfl, B3⟩
      have S3 := S0.nx B3
      have C3 := bt C0 B3
      clear i0 i1 i2 i3 i4 i5
      have j0 := S3.cell 0
      have j1 := S3.cell 1
      have j2 := S3.cell 2
      have j3 := S3.cell 3
      have j4 := S3.cell 4
      have j5 := S3.cell 5
      go_wp2_with fail
      refine (hr1 _ _ (Ha.st C3)).mono ?_; rintro e w4 ⟨rfl, B4⟩
      have S4 := S3.nx B4
      have C4 := bt C3 B4
      clear j0 j1 j2 j3 j4 j5
      have i2 := S4.cell 2
      have L4 := bal w4 (.cells #[.int .u32 (1 : Nat)] 60)
      have r1 := RW.one w4 60 (show 1 < 4294967296 by omega)
      have hsm := same_any D1 (some ⟨w4.heap.size, 0, none⟩) d1 1 r.b.length 1 r.b [1] _ rfl rfl (st p2 (bt C4 L4)) (r1.more (by simp))
      rw [hd.out] at hsm
      go_wp2_with fail
      refine hsm.mono ?_; rintro e w5 ⟨rfl, q, rfl⟩
      go_wp2_with fail
      go_ret
      exact ⟨by simp, bdN (bt C4 L4) q⟩

end Go.Proofs.Ytdkejndagicgjaa
namespace Go.Proofs.Ytdkejndagicgjaa
open Go.RowKit


theorem lit1 (w : World) : OW (w.alloc (.cells #[.int .u32 (1 : Nat)] 60)) w.heap.size (some ⟨w.heap.size, 0, none⟩) 1 [1] := OW.lit w [1] (by simp) (B32_cons (by omega) B32_nil)
set_option maxHeartbeats 4000000 in
theorem rzero_any (w : World) : Calls Try.prog 57 #[] w fun e w' => ∃ D d, e = .returned (.agg #[.bool false, .slice none 0 0, .slice D 1 d]) ∧ OW w' w.heap.size D d [1] ∧ Below w.heap.size w w' := by
  have B1 := bal w (.cells #[.bool false, .slice none 0 0, .slice (some ⟨w.heap.size + 1, 0, none⟩) 1 1] 24)
  have s1 := SB.new w [.bool false, .slice none 0 0, .slice (some ⟨w.heap.size + 1, 0, none⟩) 1 1] 24
  have z1 : (w.alloc (.cells #[.bool false, .slice none 0 0, .slice (some ⟨w.heap.size + 1, 0, none⟩) 1 1] 24)).heap.size = w.heap.size + 1 := by simp
  have B2 := bal (w.alloc (.cells #[.bool false, .slice none 0 0, .slice (some ⟨w.heap.size + 1, 0, none⟩) 1 1] 24)) (.cells #[.int .u32 (1 : Nat)] 60)
  have O1 := lit1 (w.alloc (.cells #[.bool false, .slice none 0 0, .slice (some ⟨w.heap.size + 1, 0, none⟩) 1 1] 24))
  rw [z1] at O1
  have s2 := s1.nx B2
  have r0 := s2.cell 0
  have r1 := s2.cell 1
  have r2 := s2.cell 2
  have B3 := bt B1 B2
  clear s1 s2 B1 B2 z1
  go_enter Try.func57, Try.ntmps57
  go_wp2_with fail
  refine bodyPost_ret (v := (.agg #[.bool false, .slice none 0 0, .slice (some ⟨w.heap.size + 1, 0, none⟩) 1 1])) (by simp [results, r0, r1, r2, go_sem]) rfl ?_
  exact ⟨_, _, rfl, O1.base_le (Nat.le_succ _), B3⟩


/-- an answer in its own words -/
def RetI (w : World) (s : Bool) (k : Nat) (e : Ending) (w' : World) : Prop := ∃ A1 c1 D1 d1 A2 c2 D2 d2, e = .returned (.agg #[.bool s, .slice A1 (digs k).length c1, .slice D1 1 d1, .bool false, .slice A2 0 c2, .slice D2 1 d2]) ∧
  OW w' w.heap.size A1 c1 (digs k) ∧ OW w' w.heap.size D1 d1 [1] ∧ OW w' w.heap.size A2 c2 [] ∧ OW w' w.heap.size D2 d2 [1] ∧ Below w.heap.size w w'
set_option maxRecDepth 100000 in
set_option maxHeartbeats 4000000 in
theorem rint_walk (n : Int) (k : Nat) (w : World) (h0 : -9223372036854775808 ≤ n) (h1 : n ≤ 9223372036854775807) (hk' : n.natAbs = k) :
    Calls Try.prog 39 #[.int .i64 n] w (RetI w (decide (n < 0)) k) := by
  have B1 := bal w (.cells #[.bool false, .slice none 0 0, .slice none 0 0, .bool false, .slice none 0 0, .slice none 0 0] 26)
  have s1 := SB.new w [.bool false, .slice none 0 0, .slice none 0 0, .bool false, .slice none 0 0, .slice none 0 0] 26
  have hof : ∀ (z : Int), z = (k : Int) → ∀ w, Calls Try.prog 77 #[.int .u64 z] w (RetW w k) := fun z hz w => by
    subst hz
    have h := rof_any (k : Int) w (by omega) (by omega)
    rw [Int.toNat_natCast] at h
    exact h
  by_cases hn : n < 0
  · have hk : -n = (k : Int) := by omega
    have HK := Lib.hid hk
    have hd : decide (n < 0) = true := decide_eq_true hn
    clear hk' hk
    rw [hd]
    go_enter Try.func39, Try.ntmps39
    go_wp2_with fail
    refine (hof _ (by have hk := HK.out; first | omega | (simp only [IntKind.wrap_u64, IntKind.wrap_i64]; omega)) _).mono ?_; rintro e w3 ⟨A3, c3, rfl, O3, B3⟩
    have B4 := bal w3 (.cells #[.int .u32 (1 : Nat)] 60)
    have O4 := lit1 w3
    have s3 := (s1.nx B3).nx B4
    have hb3 : w.heap.size < w3.heap.size := (s1.nx B3).2
    have O3 := O3.below B4 (Nat.le_refl _)
    go_wp2_with fail
    refine (rzero_any _).mono ?_; rintro e w5 ⟨D5, d5, rfl, O5, B5⟩
    have s5 := s3.nx B5
    have hb4 : w.heap.size < (w3.alloc (.cells #[.int .u32 (1 : Nat)] 60)).heap.size := s3.2
    have O3 := O3.below B5 (Nat.le_refl _)
    have O4 := O4.below B5 (Nat.le_refl _)
    have hRC := s5.rc (n := 6)
    clear hof HK
    go_wp2_with (refine wp_st6 rfl (.tmp 2) (.tmp 20) rfl _ rfl _ _ _ _ _ _ rfl hRC rfl rfl rfl rfl rfl rfl ?_)
    have s6 := hRC.put6 (.bool true) (.slice A3 (digs k).length c3) (.slice (some ⟨w3.heap.size, 0, none⟩) 1 1) (.bool false) (.slice none 0 0) (.slice D5 1 d5)
    have B6 := wr6_below (b := w.heap.size) (bt (bt (bt B1 B3) B4) B5) (Nat.le_refl _) (.bool true) (.slice A3 (digs k).length c3) (.slice (some ⟨w3.heap.size, 0, none⟩) 1 1) (.bool false) (.slice none 0 0) (.slice D5 1 d5)
    have Oa := O3.put6 (b := w.heap.size) (by simp) (.bool true) (.slice A3 (digs k).length c3) (.slice (some ⟨w3.heap.size, 0, none⟩) 1 1) (.bool false) (.slice none 0 0) (.slice D5 1 d5)
    have Ob := O4.put6 (b := w.heap.size) hb3 (.bool true) (.slice A3 (digs k).length c3) (.slice (some ⟨w3.heap.size, 0, none⟩) 1 1) (.bool false) (.slice none 0 0) (.slice D5 1 d5)
    have Oc := O5.put6 (b := w.heap.size) hb4 (.bool true) (.slice A3 (digs k).length c3) (.slice (some ⟨w3.heap.size, 0, none⟩) 1 1) (.bool false) (.slice none 0 0) (.slice D5 1 d5)
    have r0' := s6.cell 0
    have r1' := s6.cell 1
    have r2' := s6.cell 2
    have r3' := s6.cell 3
    have r4' := s6.cell 4
    have r5' := s6.cell 5
    refine bodyPost_ret (v := .agg #[.bool true, .slice A3 (digs k).length c3, .slice (some ⟨w3.heap.size, 0, none⟩) 1 1, .bool false, .slice none 0 0, .slice D5 1 d5]) (by simp [results, r0', r1', r2', r3', r4', r5', go_sem]) rfl ?_
    exact ⟨_, _, _, _, _, _, _, _, rfl, Oa.base_le (by simp), Ob.base_le (Nat.le_of_lt hb3), OW.nil _ _ , Oc.base_le (Nat.le_of_lt hb4), B6⟩
  · have hk : n = (k : Int) := by omega
    have HK := Lib.hid hk
    have hd : decide (n < 0) = false := decide_eq_false hn
    clear hk' hk
    rw [hd]
    go_enter Try.func39, Try.ntmps39
    go_wp2_with fail
    refine (hof _ (by have hk := HK.out; first | omega | (simp only [IntKind.wrap_u64, IntKind.wrap_i64]; omega)) _).mono ?_; rintro e w3 ⟨A3, c3, rfl, O3, B3⟩
    have B4 := bal w3 (.cells #[.int .u32 (1 : Nat)] 60)
    have O4 := lit1 w3
    have s3 := (s1.nx B3).nx B4
    have hb3 : w.heap.size < w3.heap.size := (s1.nx B3).2
    have O3 := O3.below B4 (Nat.le_refl _)
    go_wp2_with fail
    refine (rzero_any _).mono ?_; rintro e w5 ⟨D5, d5, rfl, O5, B5⟩
    have s5 := s3.nx B5
    have hb4 : w.heap.size < (w3.alloc (.cells #[.int .u32 (1 : Nat)] 60)).heap.size := s3.2
    have O3 := O3.below B5 (Nat.le_refl _)
    have O4 := O4.below B5 (Nat.le_refl _)
    have hRC := s5.rc (n := 6)
    clear hof HK
    go_wp2_with (refine wp_st6 rfl (.tmp 2) (.tmp 20) rfl _ rfl _ _ _ _ _ _ rfl hRC rfl rfl rfl rfl rfl rfl ?_)
    have s6 := hRC.put6 (.bool false) (.slice A3 (digs k).length c3) (.slice (some ⟨w3.heap.size, 0, none⟩) 1 1) (.bool false) (.slice none 0 0) (.slice D5 1 d5)
    have B6 := wr6_below (b := w.heap.size) (bt (bt (bt B1 B3) B4) B5) (Nat.le_refl _) (.bool false) (.slice A3 (digs k).length c3) (.slice (some ⟨w3.heap.size, 0, none⟩) 1 1) (.bool false) (.slice none 0 0) (.slice D5 1 d5)
    have Oa := O3.put6 (b := w.heap.size) (by simp) (.bool false) (.slice A3 (digs k).length c3) (.slice (some ⟨w3.heap.size, 0, none⟩) 1 1) (.bool false) (.slice none 0 0) (.slice D5 1 d5)
    have Ob := O4.put6 (b := w.heap.size) hb3 (.bool false) (.slice A3 (digs k).length c3) (.slice (some ⟨w3.heap.size, 0, none⟩) 1 1) (.bool false) (.slice none 0 0) (.slice D5 1 d5)
    have Oc := O5.put6 (b := w.heap.size) hb4 (.bool false) (.slice A3 (digs k).length c3) (.slice (some ⟨w3.heap.size, 0, none⟩) 1 1) (.bool false) (.slice none 0 0) (.slice D5 1 d5)
    have r0' := s6.cell 0
    have r1' := s6.cell 1
    have r2' := s6.cell 2
    have r3' := s6.cell 3
    have r4' := s6.cell 4
    have r5' := s6.cell 5
    refine bodyPost_ret (v := .agg #[.bool false, .slice A3 (digs k).length c3, .slice (some ⟨w3.heap.size, 0, none⟩) 1 1, .bool false, .slice none 0 0, .slice D5 1 d5]) (by simp [results, r0', r1', r2', r3', r4', r5', go_sem]) rfl ?_
    exact ⟨_, _, _, _, _, _, _, _, rfl, Oa.base_le (by simp), Ob.base_le (Nat.le_of_lt hb3), OW.nil _ _ , Oc.base_le (Nat.le_of_lt hb4), B6⟩

theorem rint_any (n : Int) (w : World) (h0 : -9223372036854775808 ≤ n) (h1 : n ≤ 9223372036854775807) :
    Calls Try.prog 39 #[.int .i64 n] w (RetN w (rwq (n : Rat)) (rwq 0)) := by
  have e1 : digs (qd (n : Rat)) = [1] := by rw [qd_int]; exact digs_one1
  have e2 : digs (qd (0 : Rat)) = [1] := digs_one1
  have e3 : digs (qt (0 : Rat)) = [] := digs_zero
  refine (rint_walk n n.natAbs w h0 h1 rfl).mono ?_
  rintro e w' ⟨A1, c1, D1, d1, A2, c2, D2, d2, rfl, h1, h2, h3, h4, B⟩
  refine ⟨A1, c1, D1, d1, A2, c2, D2, d2, ?_, ?_, ?_, ?_, ?_, B⟩
  · simp only [rwq, e1, e2, e3, qn_int, qt_int]
    rfl
  · exact h1
  · show OW w' w.heap.size D1 d1 (digs (qd (n : Rat)))
    rw [e1]; exact h2
  · show OW w' w.heap.size A2 c2 (digs (qt (0 : Rat)))
    rw [e3]; exact h3
  · show OW w' w.heap.size D2 d2 (digs (qd (0 : Rat)))
    rw [e2]; exact h4

end Go.Proofs.Ytdkejndagicgjaa
namespace Go.Proofs.Ytdkejndagicgjaa
open Go.RowKit

/-- a number as an int: its value and the error -/
def smallV (s : Bool) (N : Nat) : Int × Int := if -9223372036854775808 ≤ sgn s N ∧ sgn s N ≤ 9223372036854775807 then (sgn s N, 0) else (0, 4)
def smallA (r i : Rw) : Int × Int := if nB r i = true then (if wB r i = true then smallV r.s (val r.a) else (0, 10)) else (0, 2)
theorem small_no {s : Bool} {N : Nat} (h : 9223372036854775808 < N) : smallV s N = (0, 4) := by
  unfold smallV sgn
  rw [if_neg]
  split <;> omega
theorem small_edge : smallV false 9223372036854775808 = (0, 4) := rfl
theorem small_edge' : smallV true 9223372036854775808 = (-9223372036854775808, 0) := rfl
theorem neg_wrap {n : Nat} (h : n ≤ 9223372036854775808) : wrap64 (IntKind.u64.wrap (-(n : Int))) = -(n : Int) := by
  have e : IntKind.u64.wrap (-(n : Int)) = (-(n : Int)) % 18446744073709551616 := by simp [IntKind.wrap, IntKind.bits, IntKind.signed]
  rw [e]
  unfold wrap64
  omega
theorem small_edgew : smallV true 9223372036854775808 = (wrap64 (IntKind.u64.wrap (-9223372036854775808)), 0) := by
  have h := neg_wrap (Nat.le_refl 9223372036854775808)
  rw [small_edge']
  exact congrArg (fun x => (x, (0 : Int))) h.symm
theorem small_in {s : Bool} {N : Nat} (h : N < 9223372036854775808) : smallV s N = (sgn s N, 0) := by
  unfold smallV
  rw [if_pos]
  unfold sgn
  split <;> omega
theorem or_take0 {l : List Nat} (hb : B32 l) : bits .or .u64 ((val ([] : List Nat) : Nat) : Int) ((wd l 0 : Nat) : Int) = ((val (l.take 1) : Nat) : Int) := by
  have h := wd_lt hb 0
  have h0 : val ([] : List Nat) = 0 := rfl
  rw [u64_or_nat _ _ (by omega) (by omega), val_take_succ', List.take_zero, h0, Nat.zero_or, Wp_zero]
  simp
theorem or_take1 {l : List Nat} (hb : B32 l) : bits .or .u64 ((val (l.take 1) : Nat) : Int) ((wd l 1 : Int) * 4294967296) = ((val (l.take 2) : Nat) : Int) := by
  have h := wd_lt hb 1
  have h1 := val_take_lt hb 1
  have h2 : Wp 1 = 4294967296 := by decide
  rw [h2] at h1
  have h3 : ((wd l 1 : Int) * 4294967296) = ((wd l 1 * 4294967296 : Nat) : Int) := by omega
  rw [h3, u64_or_nat _ _ (by omega) (by omega), or_hi h1, val_take_succ' l 1, h2]
theorem val_take2 {l : List Nat} (h : l.length ≤ 2) (hb : B32 l) : val l < 18446744073709551616 := by
  have h1 := val_lt hb
  have h2 : Wp l.length ≤ Wp 2 := Nat.pow_le_pow_right (by omega) h
  have h3 : Wp 2 = 18446744073709551616 := by decide
  omega


set_option maxRecDepth 100000 in
set_option maxHeartbeats 8000000 in
theorem esmall_any (V : Value) (r i : Rw) (w : World) (hV : VN w w.heap.size V r i) :
    Calls Try.prog 33 #[V] w fun e w' => e = .returned (.tuple #[.int .i64 (smallA r i).1, .int .i64 (smallA r i).2]) ∧ Below w.heap.size w w' := by
  obtain ⟨A1, c1, D1, d1, A2, c2, D2, d2, rfl, p1, p2, p3, p4⟩ := hV
  have Ha : VN w w.heap.size (.agg #[.bool r.s, .slice A1 r.a.length c1, .slice D1 r.b.length d1, .bool i.s, .slice A2 i.a.length c2, .slice D2 i.b.length d2]) r i := ⟨A1, c1, D1, d1, A2, c2, D2, d2, rfl, p1, p2, p3, p4⟩
  have S0 := SB.new w [.bool r.s, .slice A1 r.a.length c1, .slice D1 r.b.length d1, .bool i.s, .slice A2 i.a.length c2, .slice D2 i.b.length d2] 26
  have C0 := bal w (.cells #[.bool r.s, .slice A1 r.a.length c1, .slice D1 r.b.length d1, .bool i.s, .slice A2 i.a.length c2, .slice D2 i.b.length d2] 26)
  have hs1 := fun V w' h => esound_any V r i w' h
  have hw1 := fun V w' h => whole1_any V r i w' h
  obtain ⟨z, hz⟩ : ∃ z, Hid (smallA r i = z) := ⟨_, rfl⟩
  rw [hz.out]
  by_cases n1 : nB r i = true
  · rw [n1] at hs1
    by_cases n2 : wB r i = true
    · rw [n2] at hw1
      have hzz : Hid (smallV r.s (val r.a) = z) := by
        have h := hz.out
        unfold smallA at h
        rw [if_pos n1, if_pos n2] at h
        exact h
      obtain ⟨q1, q2, q3, q4, q5⟩ := wB_int n2
      have hb := p1.b32
      have hN : Hid (r.a = digs (val r.a)) := q1
      clear hz n1 n2 q1 q2 q3 q4 q5
      have i0 := S0.cell 0
      have i1 := S0.cell 1
      have i2 := S0.cell 2
      have i3 := S0.cell 3
      have i4 := S0.cell 4
      have i5 := S0.cell 5
      go_enter Try.func33, Try.ntmps33
      go_wp2_with fail
      refine (hs1 _ _ (Ha.st C0)).mono ?_; rintro e w3 ⟨rfl, B3⟩
      have S3 := S0.nx B3
      have C3 := bt C0 B3
      clear i0 i1 i2 i3 i4 i5
      have j0 := S3.cell 0
      have j1 := S3.cell 1
      have j2 := S3.cell 2
      have j3 := S3.cell 3
      have j4 := S3.cell 4
      have j5 := S3.cell 5
      go_wp2_with fail
      refine (hw1 _ _ (Ha.st C3)).mono ?_; rintro e w4 ⟨rfl, B4⟩
      have S4 := S3.nx B4
      have C4 := bt C3 B4
      clear j0 j1 j2 j3 j4 j5
      have m0 := S4.cell 0
      have m1 := S4.cell 1
      have p4 := st p1 C4
      clear S0 S3 S4
      generalize r.a = l at *
      generalize r.s = s at *
      go_wp2_with fail
      go_loopg [4, 17] l.length (fun gg uv iv wr => ∃ k : Nat, k ≤ l.length ∧ k ≤ 2 ∧ l.length - k = gg ∧ iv = .int .i64 (k : Int) ∧ uv = .int .u64 ((val (l.take k) : Nat) : Int) ∧ wr = w4)
      case atStart => exact ⟨0, Nat.zero_le _, by omega, rfl, rfl, by simp [val], rfl⟩
      case round =>
        obtain ⟨k, hk, hk2, rfl, rfl, rfl, rfl⟩ := hrel
        by_cases hlt : k < l.length
        · obtain ⟨b1, o1, rfl, hlt1, hx⟩ := p4.at_ (by omega)
          obtain rfl | rfl | rfl : k = 0 ∨ k = 1 ∨ k = 2 := by omega
          · have hx0 := hx 0 hlt
            rw [Nat.add_zero] at hx0
            have hv0 := wd_lt hb 0
            have e0 := Lib.hid (or_take0 hb)
            go_wp2_with fail
            go_roundg (l.length - 1)
            case measure => omega
            case rel => exact ⟨1, by omega, by omega, rfl, rfl, congrArg (Value.int .u64) e0.out, rfl⟩
          · have hx1 := hx 1 hlt
            have hv0 := wd_lt hb 0
            have hv1 := wd_lt hb 1
            have e1 := Lib.hid (or_take1 hb)
            go_wp2_with fail
            go_roundg (l.length - 2)
            case measure => omega
            case rel => exact ⟨2, by omega, by omega, rfl, rfl, congrArg (Value.int .u64) e1.out, rfl⟩
          · have hx2 := hx 2 hlt
            have hbig : 9223372036854775808 < val l := by
              have h1 := hN.out
              have h2 : 2 < (digs (val l)).length := by rw [← h1]; exact hlt
              have h3 := digs_len_lt.1 h2
              have h4 : Wp 2 = 18446744073709551616 := by decide
              omega
            have hz := hzz.out
            rw [small_no hbig] at hz
            subst hz
            clear hzz hbig hN
            go_wp2_with fail
            go_ret2
            exact ⟨rfl, C4⟩
        · obtain rfl : k = l.length := by omega
          have hlt64 := val_take2 hk2 hb
          rw [List.take_length]
          clear hN hb
          generalize val l = N at *
          obtain hc | rfl | hc : N < 9223372036854775808 ∨ N = 9223372036854775808 ∨ 9223372036854775808 < N := by omega
          · cases s with
            | false =>
              have hz := hzz.out
              rw [small_in hc, sgn_false] at hz
              subst hz
              clear hzz
              go_wp2_with fail
              go_ret2
              exact ⟨rfl, C4⟩
            | true =>
              have hz := hzz.out
              rw [small_in hc, sgn_true, ← neg_wrap (Nat.le_of_lt hc)] at hz
              subst hz
              clear hzz
              go_wp2_with fail
              go_ret2
              exact ⟨rfl, C4⟩
          · cases s with
            | false =>
              have hz := hzz.out
              rw [small_edge] at hz
              subst hz
              clear hzz
              go_wp2_with fail
              go_ret2
              exact ⟨rfl, C4⟩
            | true =>
              have hz := hzz.out
              rw [small_edgew] at hz
              subst hz
              clear hzz
              go_wp2_with fail
              go_ret2
              exact ⟨rfl, C4⟩
          · have hz := hzz.out
            rw [small_no hc] at hz
            subst hz
            clear hzz
            go_wp2_with fail
            go_ret2
            exact ⟨rfl, C4⟩
    · have n2' := Bool.eq_false_iff.2 n2
      rw [n2'] at hw1
      have hzz : z = (0, 10) := by
        have h := hz.out
        unfold smallA at h
        rw [if_pos n1, if_neg n2] at h
        exact h.symm
      subst hzz
      clear hz n1 n2 n2'
      have i0 := S0.cell 0
      have i1 := S0.cell 1
      have i2 := S0.cell 2
      have i3 := S0.cell 3
      have i4 := S0.cell 4
      have i5 := S0.cell 5
      go_enter Try.func33, Try.ntmps33
      go_wp2_with fail
      refine (hs1 _ _ (Ha.st C0)).mono ?_; rintro e w3 ⟨rfl, B3⟩
      have S3 := S0.nx B3
      have C3 := bt C0 B3
      clear i0 i1 i2 i3 i4 i5
      have j0 := S3.cell 0
      have j1 := S3.cell 1
      have j2 := S3.cell 2
      have j3 := S3.cell 3
      have j4 := S3.cell 4
      have j5 := S3.cell 5
      go_wp2_with fail
      refine (hw1 _ _ (Ha.st C3)).mono ?_; rintro e w4 ⟨rfl, B4⟩
      have S4 := S3.nx B4
      have C4 := bt C3 B4
      clear j0 j1 j2 j3 j4 j5
      go_wp2_with fail
      go_ret2
      exact ⟨rfl, C4⟩
  · have n1' := Bool.eq_false_iff.2 n1
    rw [n1'] at hs1
    have hzz : z = (0, 2) := by
      have h := hz.out
      unfold smallA at h
      rw [if_neg n1] at h
      exact h.symm
    subst hzz
    clear hz n1 n1'
    have i0 := S0.cell 0
    have i1 := S0.cell 1
    have i2 := S0.cell 2
    have i3 := S0.cell 3
    have i4 := S0.cell 4
    have i5 := S0.cell 5
    go_enter Try.func33, Try.ntmps33
    go_wp2_with fail
    refine (hs1 _ _ (Ha.st C0)).mono ?_; rintro e w3 ⟨rfl, B3⟩
    have S3 := S0.nx B3
    have C3 := bt C0 B3
    clear i0 i1 i2 i3 i4 i5
    go_wp2_with fail
    go_ret2
    exact ⟨rfl, C3⟩

end Go.Proofs.Ytdkejndagicgjaa
namespace Go.Proofs.Ytdkejndagicgjaa
open Go.RowKit

theorem size_64 (n : Nat) : (64 : Int) < (blen n : Int) ↔ 18446744073709551616 ≤ n := by
  have h := blen_le (n := n) (k := 64)
  omega
theorem small_no' {N : Nat} (h : 9223372036854775808 ≤ N) : smallV false N = (0, 4) := by
  unfold smallV sgn
  rw [if_neg]
  simp
  omega
theorem drop_lt {l : List Nat} (hb : B32 l) (hl : l.length ≤ 2) {k : Nat} (hk : 0 < k) : val (l.drop k) < 4294967296 := by
  have h1 := val_lt (B32_drop hb k)
  have h2 : Wp (l.drop k).length ≤ Wp 1 := Nat.pow_le_pow_right (by omega) (by rw [List.length_drop]; omega)
  have h3 : Wp 1 = 4294967296 := by decide
  omega


set_option maxRecDepth 100000 in
set_option maxHeartbeats 8000000 in
theorem rsmall_any (V : Value) (r i : Rw) (w : World) (hV : VN w w.heap.size V r i) :
    Calls Try.prog 34 #[V] w fun e w' => e = .returned (.tuple #[.int .i64 (smallA r i).1, .int .i64 (smallA r i).2]) ∧ Below w.heap.size w w' := by
  obtain ⟨A1, c1, D1, d1, A2, c2, D2, d2, rfl, p1, p2, p3, p4⟩ := hV
  have Ha : VN w w.heap.size (.agg #[.bool r.s, .slice A1 r.a.length c1, .slice D1 r.b.length d1, .bool i.s, .slice A2 i.a.length c2, .slice D2 i.b.length d2]) r i := ⟨A1, c1, D1, d1, A2, c2, D2, d2, rfl, p1, p2, p3, p4⟩
  have S0 := SB.new w [.bool r.s, .slice A1 r.a.length c1, .slice D1 r.b.length d1, .bool i.s, .slice A2 i.a.length c2, .slice D2 i.b.length d2] 26
  have C0 := bal w (.cells #[.bool r.s, .slice A1 r.a.length c1, .slice D1 r.b.length d1, .bool i.s, .slice A2 i.a.length c2, .slice D2 i.b.length d2] 26)
  have hs1 := fun V w' h => resound_any V r i w' h
  have hw1 := fun V w' h => rwhole1_any V r i w' h
  obtain ⟨z, hz⟩ : ∃ z, Hid (smallA r i = z) := ⟨_, rfl⟩
  rw [hz.out]
  by_cases n1 : nB r i = true
  · rw [n1] at hs1
    by_cases n2 : wB r i = true
    · rw [n2] at hw1
      have hzz : Hid (smallV r.s (val r.a) = z) := by
        have h := hz.out
        unfold smallA at h
        rw [if_pos n1, if_pos n2] at h
        exact h
      obtain ⟨q1, q2, q3, q4, q5⟩ := wB_int n2
      have hb := p1.b32
      have hN : Hid (r.a = digs (val r.a)) := q1
      have hsg : Hid (r.s = true → 0 < val r.a) := by
        intro h
        cases Nat.eq_zero_or_pos (val r.a) with
        | inl h0 => rw [q4 h0] at h; exact absurd h (by simp)
        | inr h0 => exact h0
      clear hz n1 n2 q1 q2 q3 q4 q5
      have i0 := S0.cell 0
      have i1 := S0.cell 1
      have i2 := S0.cell 2
      have i3 := S0.cell 3
      have i4 := S0.cell 4
      have i5 := S0.cell 5
      go_enter Try.func34, Try.ntmps34
      go_wp2_with fail
      refine (hs1 _ _ (Ha.st C0)).mono ?_; rintro e w3 ⟨rfl, B3⟩
      have S3 := S0.nx B3
      have C3 := bt C0 B3
      clear i0 i1 i2 i3 i4 i5
      have j0 := S3.cell 0
      have j1 := S3.cell 1
      have j2 := S3.cell 2
      have j3 := S3.cell 3
      have j4 := S3.cell 4
      have j5 := S3.cell 5
      go_wp2_with fail
      refine (hw1 _ _ (Ha.st C3)).mono ?_; rintro e w4 ⟨rfl, B4⟩
      have S4 := S3.nx B4
      have C4 := bt C3 B4
      clear j0 j1 j2 j3 j4 j5
      have m0 := S4.cell 0
      have m1 := S4.cell 1
      have p4 := st p1 C4
      clear S0 S3 S4
      generalize r.a = l at *
      generalize r.s = s at *
      have hz1 := rsize_any A1 c1 _ l w4 rfl p4
      by_cases hbg : 18446744073709551616 ≤ val l
      · have hz := hzz.out
        rw [small_no (by omega)] at hz
        subst hz
        have hbl := (size_64 (val l)).2 hbg
        clear hzz hbg hN hsg
        go_wp2_with (refine hz1.mono ?_; rintro e w' ⟨rfl, rfl⟩)
        go_ret2
        exact ⟨rfl, C4⟩
      have hk2 : l.length ≤ 2 := by
        rw [hN.out]
        exact digs_len_le.2 (by have h : Wp 2 = 18446744073709551616 := by decide
                                omega)
      have hbl : ¬ (64 : Int) < (blen (val l) : Int) := fun h => hbg ((size_64 (val l)).1 h)
      clear hN
      go_wp2_with (refine hz1.mono ?_; rintro e w' ⟨rfl, rfl⟩)
      clear hz1 hbl
      go_loopg [4, 5] l.length (fun gg uv iv wr => ∃ k : Nat, k ≤ l.length ∧ k = gg ∧ iv = .int .i64 ((k : Int) - 1) ∧ uv = .int .u64 ((val (l.drop k) : Nat) : Int) ∧ wr = w4)
      case atStart => exact ⟨l.length, Nat.le_refl _, rfl, rfl, by rw [List.drop_length]; rfl, rfl⟩
      case round =>
        obtain ⟨k, hk, rfl, rfl, rfl, rfl⟩ := hrel
        by_cases hlt : 0 < k
        · obtain ⟨b1, o1, rfl, hlt1, hx⟩ := p4.at_ (by omega)
          obtain ⟨j, rfl⟩ : ∃ j, k = j + 1 := ⟨k - 1, by omega⟩
          have hx0 := hx j (by omega)
          have hv0 := wd_lt hb j
          have hv1 := drop_lt hb hk2 hlt
          have hvs := Lib.hid (val_drop (l := l) (k := j) (by omega))
          generalize val (l.drop (j + 1)) = t at *
          go_wp2_with fail
          go_roundg j
          case measure => omega
          case rel => exact ⟨j, by omega, rfl, by go_num, by rw [hvs.out]; go_num, rfl⟩
        · obtain rfl : k = 0 := by omega
          have hlt64 := val_take2 hk2 hb
          rw [List.drop_zero]
          clear hb
          generalize val l = N at *
          by_cases hc : N < 9223372036854775808
          · cases s with
            | false =>
              have hz := hzz.out
              rw [small_in hc, sgn_false] at hz
              subst hz
              have hg : ¬ (9223372036854775808 : Int) ≤ (N : Int) := by omega
              clear hzz hsg hc
              go_wp2_with fail
              go_ret2
              exact ⟨rfl, C4⟩
            | true =>
              have hz := hzz.out
              have h0 := hsg.out rfl
              rw [small_in hc, sgn_true, show -(N : Int) = -((N : Int) - 1) - 1 by omega] at hz
              subst hz
              clear hzz hsg
              go_wp2_with fail
              go_ret2
              exact ⟨rfl, C4⟩
          · cases s with
            | false =>
              have hz := hzz.out
              rw [small_no' (by omega)] at hz
              subst hz
              have hg : (9223372036854775808 : Int) ≤ (N : Int) := by omega
              clear hzz hsg hc
              go_wp2_with fail
              go_ret2
              exact ⟨rfl, C4⟩
            | true =>
              by_cases hc2 : N = 9223372036854775808
              · subst hc2
                have hz := hzz.out
                rw [small_edge'] at hz
                subst hz
                clear hzz hsg
                go_wp2_with fail
                go_ret2
                exact ⟨rfl, C4⟩
              · have hz := hzz.out
                rw [small_no (by omega)] at hz
                subst hz
                clear hzz hsg
                go_wp2_with fail
                go_ret2
                exact ⟨rfl, C4⟩
    · have n2' := Bool.eq_false_iff.2 n2
      rw [n2'] at hw1
      have hzz : z = (0, 10) := by
        have h := hz.out
        unfold smallA at h
        rw [if_pos n1, if_neg n2] at h
        exact h.symm
      subst hzz
      clear hz n1 n2 n2'
      have i0 := S0.cell 0
      have i1 := S0.cell 1
      have i2 := S0.cell 2
      have i3 := S0.cell 3
      have i4 := S0.cell 4
      have i5 := S0.cell 5
      go_enter Try.func34, Try.ntmps34
      go_wp2_with fail
      refine (hs1 _ _ (Ha.st C0)).mono ?_; rintro e w3 ⟨rfl, B3⟩
      have S3 := S0.nx B3
      have C3 := bt C0 B3
      clear i0 i1 i2 i3 i4 i5
      have j0 := S3.cell 0
      have j1 := S3.cell 1
      have j2 := S3.cell 2
      have j3 := S3.cell 3
      have j4 := S3.cell 4
      have j5 := S3.cell 5
      go_wp2_with fail
      refine (hw1 _ _ (Ha.st C3)).mono ?_; rintro e w4 ⟨rfl, B4⟩
      have S4 := S3.nx B4
      have C4 := bt C3 B4
      clear j0 j1 j2 j3 j4 j5
      go_wp2_with fail
      go_ret2
      exact ⟨rfl, C4⟩
  · have n1' := Bool.eq_false_iff.2 n1
    rw [n1'] at hs1
    have hzz : z = (0, 2) := by
      have h := hz.out
      unfold smallA at h
      rw [if_neg n1] at h
      exact h.symm
    subst hzz
    clear hz n1 n1'
    have i0 := S0.cell 0
    have i1 := S0.cell 1
    have i2 := S0.cell 2
    have i3 := S0.cell 3
    have i4 := S0.cell 4
    have i5 := S0.cell 5
    go_enter Try.func34, Try.ntmps34
    go_wp2_with fail
    refine (hs1 _ _ (Ha.st C0)).mono ?_; rintro e w3 ⟨rfl, B3⟩
    have S3 := S0.nx B3
    have C3 := bt C0 B3
    clear i0 i1 i2 i3 i4 i5
    go_wp2_with fail
    go_ret2
    exact ⟨rfl, C3⟩

end Go.Proofs.Ytdkejndagicgjaa
