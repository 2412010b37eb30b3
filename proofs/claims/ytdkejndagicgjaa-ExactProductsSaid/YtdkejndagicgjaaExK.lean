/- Walks: the reference's Mul and Div. -/
import Derived.Test.YtdkejndagicgjaaGI
import Derived.Test.YtdkejndagicgjaaGK
import Derived.Test.YtdkejndagicgjaaGL
namespace Go.Proofs.Ytdkejndagicgjaa
open Go.RowKit

theorem largeB_q {x y : Rat} : largeB (rwq x) (rwq y) = !decide (qw x ≤ 512 ∧ qw y ≤ 512) := by
  unfold largeB rwq qw
  dsimp only
  rw [Bool.eq_iff_iff]
  simp only [Bool.or_eq_true, decide_eq_true_eq, Bool.not_eq_true', decide_eq_false_iff_not, Nat.max_le]
  omega
/-- fit of what is of one's own -/
def RetF (w : World) (base : Nat) (x : Rw × Rw × Int) (e : Ending) (w' : World) : Prop := ∃ A1 c1 D1 d1 A2 c2 D2 d2, e = .returned (.tuple #[.agg #[.bool x.1.s, .slice A1 x.1.a.length c1, .slice D1 x.1.b.length d1, .bool x.2.1.s, .slice A2 x.2.1.a.length c2, .slice D2 x.2.1.b.length d2], .int .i64 x.2.2]) ∧
  OW w' base A1 c1 x.1.a ∧ OW w' base D1 d1 x.1.b ∧ OW w' base A2 c2 x.2.1.a ∧ OW w' base D2 d2 x.2.1.b ∧ Below w.heap.size w w'
theorem rfitq_any (X Y : Rat) (A1 D1 A2 D2 : Option Addr) (c1 d1 c2 d2 base : Nat) (w : World) (h1 : OW w base A1 c1 (rwq X).a) (h2 : OW w base D1 d1 (rwq X).b) (h3 : OW w base A2 c2 (rwq Y).a) (h4 : OW w base D2 d2 (rwq Y).b) :
    Calls Try.prog 47 #[.agg #[.bool (rwq X).s, .slice A1 (rwq X).a.length c1, .slice D1 (rwq X).b.length d1, .bool (rwq Y).s, .slice A2 (rwq Y).a.length c2, .slice D2 (rwq Y).b.length d2]] w (RetF w base (fitQ X Y)) := by
  have h := rfitn_any (.agg #[.bool (rwq X).s, .slice A1 (rwq X).a.length c1, .slice D1 (rwq X).b.length d1, .bool (rwq Y).s, .slice A2 (rwq Y).a.length c2, .slice D2 (rwq Y).b.length d2]) (rwq X) (rwq Y) w ⟨A1, c1, D1, d1, A2, c2, D2, d2, rfl, h1.rw, h2.rw, h3.rw, h4.rw⟩
  rw [largeB_q] at h
  refine h.mono ?_
  rintro e w' ⟨rfl, B⟩
  unfold fitQ
  by_cases hq : qw X ≤ 512 ∧ qw Y ≤ 512
  · rw [if_pos hq, decide_eq_true hq, if_neg (by simp)]
    exact ⟨A1, c1, D1, d1, A2, c2, D2, d2, rfl, h1.below B (Nat.le_refl _), h2.below B (Nat.le_refl _), h3.below B (Nat.le_refl _), h4.below B (Nat.le_refl _), B⟩
  · rw [if_neg hq, decide_eq_false hq, if_pos (by simp)]
    exact ⟨none, 0, none, 0, none, 0, none, 0, rfl, OW.nil _ _, OW.nil _ _, OW.nil _ _, OW.nil _ _, B⟩


set_option maxRecDepth 100000 in
set_option maxHeartbeats 4000000 in
theorem rmul_bad (V U : Value) (r i r' i' : Rw) (w : World) (hV : VN w w.heap.size V r i) (hU : VN w w.heap.size U r' i') (hb : ¬ (nB r i = true ∧ nB r' i' = true)) :
    Calls Try.prog 13 #[V, U] w (RetNE w (rw0, rw0, 2)) := by
  obtain ⟨A1, c1, D1, d1, A2, c2, D2, d2, rfl, p1, p2, p3, p4⟩ := hV
  obtain ⟨E1, e1, F1, f1, E2, e2, F2, f2, rfl, p5, p6, p7, p8⟩ := hU
  have Ha : VN w w.heap.size (.agg #[.bool r.s, .slice A1 r.a.length c1, .slice D1 r.b.length d1, .bool i.s, .slice A2 i.a.length c2, .slice D2 i.b.length d2]) r i := ⟨A1, c1, D1, d1, A2, c2, D2, d2, rfl, p1, p2, p3, p4⟩
  have Hb : VN w w.heap.size (.agg #[.bool r'.s, .slice E1 r'.a.length e1, .slice F1 r'.b.length f1, .bool i'.s, .slice E2 i'.a.length e2, .slice F2 i'.b.length f2]) r' i' := ⟨E1, e1, F1, f1, E2, e2, F2, f2, rfl, p5, p6, p7, p8⟩
  clear p1 p2 p3 p4 p5 p6 p7 p8
  have k0 := S3.new w [.bool r.s, .slice A1 r.a.length c1, .slice D1 r.b.length d1, .bool i.s, .slice A2 i.a.length c2, .slice D2 i.b.length d2] [.bool r'.s, .slice E1 r'.a.length e1, .slice F1 r'.b.length f1, .bool i'.s, .slice E2 i'.a.length e2, .slice F2 i'.b.length f2] [.bool false, .slice none 0 0, .slice none 0 0, .bool false, .slice none 0 0, .slice none 0 0] 26 26 26 6
  have C0 := k0.2.2.2
  have i0 := k0.1.cell 0
  have i1 := k0.1.cell 1
  have i2 := k0.1.cell 2
  have i3 := k0.1.cell 3
  have i4 := k0.1.cell 4
  have i5 := k0.1.cell 5
  have hs1 := fun V w' h => resound_any V r i w' h
  have hs2 := fun V w' h => resound_any V r' i' w' h
  generalize nB r i = t1 at *
  generalize nB r' i' = t2 at *
  cases t1 with
  | false =>
    clear hb
    go_enter Try.func13, Try.ntmps13
    go_wp2_with fail
    refine (hs1 _ _ (Ha.st C0)).mono ?_; rintro e w3 ⟨rfl, B3⟩
    have k3 := k0.nx B3
    have hRC := k3.2.2.1
    go_wp2_with (refine wp_st6 rfl (.tmp 4) (.tmp 14) rfl _ rfl _ _ _ _ _ _ rfl hRC rfl rfl rfl rfl rfl rfl ?_)
    have s6 := hRC.put6 (.bool false) (.slice none 0 0) (.slice none 0 0) (.bool false) (.slice none 0 0) (.slice none 0 0)
    have B6 := wr6_below (b := w.heap.size + 2) k3.2.2.2 (by omega) (.bool false) (.slice none 0 0) (.slice none 0 0) (.bool false) (.slice none 0 0) (.slice none 0 0)
    have r0' := s6.cell 0
    have r1' := s6.cell 1
    have r2' := s6.cell 2
    have r3' := s6.cell 3
    have r4' := s6.cell 4
    have r5' := s6.cell 5
    refine bodyPost_ret (v := .tuple #[.agg #[.bool false, .slice none 0 0, .slice none 0 0, .bool false, .slice none 0 0, .slice none 0 0], .int .i64 2]) (by simp [results, r0', r1', r2', r3', r4', r5', go_sem]) rfl ?_
    exact retNE_nil 2 B6
  | true =>
    cases t2 with
    | true => exact absurd ⟨rfl, rfl⟩ hb
    | false =>
      clear hb
      go_enter Try.func13, Try.ntmps13
      go_wp2_with fail
      refine (hs1 _ _ (Ha.st C0)).mono ?_; rintro e w3 ⟨rfl, B3⟩
      have k3 := k0.nx B3
      have C3 := k3.2.2.2
      have j0 := k3.2.1.cell 0
      have j1 := k3.2.1.cell 1
      have j2 := k3.2.1.cell 2
      have j3 := k3.2.1.cell 3
      have j4 := k3.2.1.cell 4
      have j5 := k3.2.1.cell 5
      go_wp2_with fail
      refine (hs2 _ _ (Hb.st C3)).mono ?_; rintro e w4 ⟨rfl, B4⟩
      have k4 := k3.nx B4
      have hRC := k4.2.2.1
      go_wp2_with (refine wp_st6 rfl (.tmp 4) (.tmp 14) rfl _ rfl _ _ _ _ _ _ rfl hRC rfl rfl rfl rfl rfl rfl ?_)
      have s6 := hRC.put6 (.bool false) (.slice none 0 0) (.slice none 0 0) (.bool false) (.slice none 0 0) (.slice none 0 0)
      have B6 := wr6_below (b := w.heap.size + 2) k4.2.2.2 (by omega) (.bool false) (.slice none 0 0) (.slice none 0 0) (.bool false) (.slice none 0 0) (.slice none 0 0)
      have r0' := s6.cell 0
      have r1' := s6.cell 1
      have r2' := s6.cell 2
      have r3' := s6.cell 3
      have r4' := s6.cell 4
      have r5' := s6.cell 5
      refine bodyPost_ret (v := .tuple #[.agg #[.bool false, .slice none 0 0, .slice none 0 0, .bool false, .slice none 0 0, .slice none 0 0], .int .i64 2]) (by simp [results, r0', r1', r2', r3', r4', r5', go_sem]) rfl ?_
      exact retNE_nil 2 B6


set_option maxRecDepth 100000 in
set_option maxHeartbeats 4000000 in
theorem rmul_ok (V U : Value) (x y u v : Rat) (w : World) (hV : RN w w.heap.size V x y) (hU : RN w w.heap.size U u v) (bx : qw x ≤ 512) (bY : qw y ≤ 512) (bu : qw u ≤ 512) (bv : qw v ≤ 512) :
    Calls Try.prog 13 #[V, U] w (RetNE w (fitQ (x * u + -(y * v)) (x * v + y * u))) := by
  obtain ⟨A1, c1, D1, d1, A2, c2, D2, d2, rfl, p1, p2, p3, p4⟩ := hV
  obtain ⟨E1, e1, F1, f1, E2, e2, F2, f2, rfl, p5, p6, p7, p8⟩ := hU
  have Ha : VN w w.heap.size (.agg #[.bool (rwq x).s, .slice A1 (rwq x).a.length c1, .slice D1 (rwq x).b.length d1, .bool (rwq y).s, .slice A2 (rwq y).a.length c2, .slice D2 (rwq y).b.length d2]) (rwq x) (rwq y) := ⟨A1, c1, D1, d1, A2, c2, D2, d2, rfl, p1, p2, p3, p4⟩
  have Hb : VN w w.heap.size (.agg #[.bool (rwq u).s, .slice E1 (rwq u).a.length e1, .slice F1 (rwq u).b.length f1, .bool (rwq v).s, .slice E2 (rwq v).a.length e2, .slice F2 (rwq v).b.length f2]) (rwq u) (rwq v) := ⟨E1, e1, F1, f1, E2, e2, F2, f2, rfl, p5, p6, p7, p8⟩
  clear p1 p2 p3 p4 p5 p6 p7 p8
  have k0 := S3.new w [.bool (rwq x).s, .slice A1 (rwq x).a.length c1, .slice D1 (rwq x).b.length d1, .bool (rwq y).s, .slice A2 (rwq y).a.length c2, .slice D2 (rwq y).b.length d2] [.bool (rwq u).s, .slice E1 (rwq u).a.length e1, .slice F1 (rwq u).b.length f1, .bool (rwq v).s, .slice E2 (rwq v).a.length e2, .slice F2 (rwq v).b.length f2] [.bool false, .slice none 0 0, .slice none 0 0, .bool false, .slice none 0 0, .slice none 0 0] 26 26 26 6
  have C0 := k0.2.2.2
  have i0 := k0.1.cell 0
  have i1 := k0.1.cell 1
  have i2 := k0.1.cell 2
  have i3 := k0.1.cell 3
  have i4 := k0.1.cell 4
  have i5 := k0.1.cell 5
  have hs1 := fun V w' h => resound_any V (rwq x) (rwq y) w' h
  have hs2 := fun V w' h => resound_any V (rwq u) (rwq v) w' h
  rw [nB_rwq bx bY] at hs1
  rw [nB_rwq bu bv] at hs2
  have hT := fun V U w' h1 h2 => rtimes_rat V U x y u v w' h1 h2 (by omega) (by omega) (by omega) (by omega)
  have hF := fun A1 D1 A2 D2 c1 d1 c2 d2 base w' h1 h2 h3 h4 => rfitq_any (x * u + -(y * v)) (x * v + y * u) A1 D1 A2 D2 c1 d1 c2 d2 base w' h1 h2 h3 h4
  generalize fitQ (x * u + -(y * v)) (x * v + y * u) = ft at *
  obtain ⟨fr, fi, fk⟩ := ft
  generalize rwq (x * u + -(y * v)) = X at *
  generalize rwq (x * v + y * u) = Y at *
  clear bx bY bu bv
  go_enter Try.func13, Try.ntmps13
  go_wp2_with fail
  refine (hs1 _ _ (Ha.st C0)).mono ?_; rintro e w3 ⟨rfl, B3⟩
  have k3 := k0.nx B3
  have C3 := k3.2.2.2
  have j0 := k3.2.1.cell 0
  have j1 := k3.2.1.cell 1
  have j2 := k3.2.1.cell 2
  have j3 := k3.2.1.cell 3
  have j4 := k3.2.1.cell 4
  have j5 := k3.2.1.cell 5
  go_wp2_with fail
  refine (hs2 _ _ (Hb.st C3)).mono ?_; rintro e w4 ⟨rfl, B4⟩
  have k4 := k3.nx B4
  have C4 := k4.2.2.2
  clear i0 i1 i2 i3 i4 i5 j0 j1 j2 j3 j4 j5
  have i0 := k4.1.cell 0
  have i1 := k4.1.cell 1
  have i2 := k4.1.cell 2
  have i3 := k4.1.cell 3
  have i4 := k4.1.cell 4
  have i5 := k4.1.cell 5
  have j0 := k4.2.1.cell 0
  have j1 := k4.2.1.cell 1
  have j2 := k4.2.1.cell 2
  have j3 := k4.2.1.cell 3
  have j4 := k4.2.1.cell 4
  have j5 := k4.2.1.cell 5
  go_wp2_with fail
  refine (hT _ _ _ (Ha.st C4) (Hb.st C4)).mono ?_; rintro e w5 ⟨A5, c5, D5, d5, A6, c6, D6, d6, rfl, O1, O2, O3, O4, B5⟩
  have k5 := k4.nx B5
  go_wp2_with fail
  refine (hF _ _ _ _ _ _ _ _ _ _ O1 O2 O3 O4).mono ?_; rintro e w6 ⟨A7, c7, D7, d7, A8, c8, D8, d8, rfl, Q1, Q2, Q3, Q4, B6⟩
  dsimp only at Q1 Q2 Q3 Q4
  clear O1 O2 O3 O4
  have kk := k5.nx B6
  have sz := k4.2.2.1.2
  have hRC := kk.2.2.1
  go_wp2_with (refine wp_st6 rfl (.tmp 4) (.tmp 19) rfl _ rfl _ _ _ _ _ _ rfl hRC rfl rfl rfl rfl rfl rfl ?_)
  have s6 := kk.2.2.1.put6 (.bool fr.s) (.slice A7 fr.a.length c7) (.slice D7 fr.b.length d7) (.bool fi.s) (.slice A8 fi.a.length c8) (.slice D8 fi.b.length d8)
  have B6 := wr6_below (b := w.heap.size + 2) kk.2.2.2 (by omega) (.bool fr.s) (.slice A7 fr.a.length c7) (.slice D7 fr.b.length d7) (.bool fi.s) (.slice A8 fi.a.length c8) (.slice D8 fi.b.length d8)
  have O1 := Q1.put6 (b := w.heap.size + 2) sz (.bool fr.s) (.slice A7 fr.a.length c7) (.slice D7 fr.b.length d7) (.bool fi.s) (.slice A8 fi.a.length c8) (.slice D8 fi.b.length d8)
  have O2 := Q2.put6 (b := w.heap.size + 2) sz (.bool fr.s) (.slice A7 fr.a.length c7) (.slice D7 fr.b.length d7) (.bool fi.s) (.slice A8 fi.a.length c8) (.slice D8 fi.b.length d8)
  have O3 := Q3.put6 (b := w.heap.size + 2) sz (.bool fr.s) (.slice A7 fr.a.length c7) (.slice D7 fr.b.length d7) (.bool fi.s) (.slice A8 fi.a.length c8) (.slice D8 fi.b.length d8)
  have O4 := Q4.put6 (b := w.heap.size + 2) sz (.bool fr.s) (.slice A7 fr.a.length c7) (.slice D7 fr.b.length d7) (.bool fi.s) (.slice A8 fi.a.length c8) (.slice D8 fi.b.length d8)
  have r0' := s6.cell 0
  have r1' := s6.cell 1
  have r2' := s6.cell 2
  have r3' := s6.cell 3
  have r4' := s6.cell 4
  have r5' := s6.cell 5
  refine bodyPost_ret (v := .tuple #[.agg #[.bool fr.s, .slice A7 fr.a.length c7, .slice D7 fr.b.length d7, .bool fi.s, .slice A8 fi.a.length c8, .slice D8 fi.b.length d8], .int .i64 fk]) (by simp [results, r0', r1', r2', r3', r4', r5', go_sem]) rfl ?_
  have hle := Nat.le_of_lt (Nat.lt_of_succ_lt (Nat.lt_of_succ_lt sz))
  exact ⟨A7, c7, D7, d7, A8, c8, D8, d8, rfl, O1.base_le hle, O2.base_le hle, O3.base_le hle, O4.base_le hle, B6⟩


set_option maxRecDepth 100000 in
set_option maxHeartbeats 4000000 in
theorem rdiv_bad (V U : Value) (r i r' i' : Rw) (w : World) (hV : VN w w.heap.size V r i) (hU : VN w w.heap.size U r' i') (hb : ¬ (nB r i = true ∧ nB r' i' = true)) :
    Calls Try.prog 15 #[V, U] w (RetNE w (rw0, rw0, 2)) := by
  obtain ⟨A1, c1, D1, d1, A2, c2, D2, d2, rfl, p1, p2, p3, p4⟩ := hV
  obtain ⟨E1, e1, F1, f1, E2, e2, F2, f2, rfl, p5, p6, p7, p8⟩ := hU
  have Ha : VN w w.heap.size (.agg #[.bool r.s, .slice A1 r.a.length c1, .slice D1 r.b.length d1, .bool i.s, .slice A2 i.a.length c2, .slice D2 i.b.length d2]) r i := ⟨A1, c1, D1, d1, A2, c2, D2, d2, rfl, p1, p2, p3, p4⟩
  have Hb : VN w w.heap.size (.agg #[.bool r'.s, .slice E1 r'.a.length e1, .slice F1 r'.b.length f1, .bool i'.s, .slice E2 i'.a.length e2, .slice F2 i'.b.length f2]) r' i' := ⟨E1, e1, F1, f1, E2, e2, F2, f2, rfl, p5, p6, p7, p8⟩
  clear p1 p2 p3 p4 p5 p6 p7 p8
  have k0 := S3.new w [.bool r.s, .slice A1 r.a.length c1, .slice D1 r.b.length d1, .bool i.s, .slice A2 i.a.length c2, .slice D2 i.b.length d2] [.bool r'.s, .slice E1 r'.a.length e1, .slice F1 r'.b.length f1, .bool i'.s, .slice E2 i'.a.length e2, .slice F2 i'.b.length f2] [.bool false, .slice none 0 0, .slice none 0 0, .bool false, .slice none 0 0, .slice none 0 0] 26 26 26 6
  have C0 := k0.2.2.2
  have i0 := k0.1.cell 0
  have i1 := k0.1.cell 1
  have i2 := k0.1.cell 2
  have i3 := k0.1.cell 3
  have i4 := k0.1.cell 4
  have i5 := k0.1.cell 5
  have hs1 := fun V w' h => resound_any V r i w' h
  have hs2 := fun V w' h => resound_any V r' i' w' h
  generalize nB r i = t1 at *
  generalize nB r' i' = t2 at *
  cases t1 with
  | false =>
    clear hb
    go_enter Try.func15, Try.ntmps15
    go_wp2_with fail
    refine (hs1 _ _ (Ha.st C0)).mono ?_; rintro e w3 ⟨rfl, B3⟩
    have k3 := k0.nx B3
    have hRC := k3.2.2.1
    go_wp2_with (refine wp_st6 rfl (.tmp 4) (.tmp 14) rfl _ rfl _ _ _ _ _ _ rfl hRC rfl rfl rfl rfl rfl rfl ?_)
    have s6 := hRC.put6 (.bool false) (.slice none 0 0) (.slice none 0 0) (.bool false) (.slice none 0 0) (.slice none 0 0)
    have B6 := wr6_below (b := w.heap.size + 2) k3.2.2.2 (by omega) (.bool false) (.slice none 0 0) (.slice none 0 0) (.bool false) (.slice none 0 0) (.slice none 0 0)
    have r0' := s6.cell 0
    have r1' := s6.cell 1
    have r2' := s6.cell 2
    have r3' := s6.cell 3
    have r4' := s6.cell 4
    have r5' := s6.cell 5
    refine bodyPost_ret (v := .tuple #[.agg #[.bool false, .slice none 0 0, .slice none 0 0, .bool false, .slice none 0 0, .slice none 0 0], .int .i64 2]) (by simp [results, r0', r1', r2', r3', r4', r5', go_sem]) rfl ?_
    exact retNE_nil 2 B6
  | true =>
    cases t2 with
    | true => exact absurd ⟨rfl, rfl⟩ hb
    | false =>
      clear hb
      go_enter Try.func15, Try.ntmps15
      go_wp2_with fail
      refine (hs1 _ _ (Ha.st C0)).mono ?_; rintro e w3 ⟨rfl, B3⟩
      have k3 := k0.nx B3
      have C3 := k3.2.2.2
      have j0 := k3.2.1.cell 0
      have j1 := k3.2.1.cell 1
      have j2 := k3.2.1.cell 2
      have j3 := k3.2.1.cell 3
      have j4 := k3.2.1.cell 4
      have j5 := k3.2.1.cell 5
      go_wp2_with fail
      refine (hs2 _ _ (Hb.st C3)).mono ?_; rintro e w4 ⟨rfl, B4⟩
      have k4 := k3.nx B4
      have hRC := k4.2.2.1
      go_wp2_with (refine wp_st6 rfl (.tmp 4) (.tmp 14) rfl _ rfl _ _ _ _ _ _ rfl hRC rfl rfl rfl rfl rfl rfl ?_)
      have s6 := hRC.put6 (.bool false) (.slice none 0 0) (.slice none 0 0) (.bool false) (.slice none 0 0) (.slice none 0 0)
      have B6 := wr6_below (b := w.heap.size + 2) k4.2.2.2 (by omega) (.bool false) (.slice none 0 0) (.slice none 0 0) (.bool false) (.slice none 0 0) (.slice none 0 0)
      have r0' := s6.cell 0
      have r1' := s6.cell 1
      have r2' := s6.cell 2
      have r3' := s6.cell 3
      have r4' := s6.cell 4
      have r5' := s6.cell 5
      refine bodyPost_ret (v := .tuple #[.agg #[.bool false, .slice none 0 0, .slice none 0 0, .bool false, .slice none 0 0, .slice none 0 0], .int .i64 2]) (by simp [results, r0', r1', r2', r3', r4', r5', go_sem]) rfl ?_
      exact retNE_nil 2 B6


set_option maxRecDepth 100000 in
set_option maxHeartbeats 4000000 in
theorem rdiv_zero (V U : Value) (x y u v : Rat) (w : World) (hV : RN w w.heap.size V x y) (hU : RN w w.heap.size U u v) (bx : qw x ≤ 512) (bY : qw y ≤ 512) (bu : qw u ≤ 512) (bv : qw v ≤ 512) (hz : u = 0 ∧ v = 0) :
    Calls Try.prog 15 #[V, U] w (RetNE w (rw0, rw0, 3)) := by
  obtain ⟨A1, c1, D1, d1, A2, c2, D2, d2, rfl, p1, p2, p3, p4⟩ := hV
  obtain ⟨E1, e1, F1, f1, E2, e2, F2, f2, rfl, p5, p6, p7, p8⟩ := hU
  have Ha : VN w w.heap.size (.agg #[.bool (rwq x).s, .slice A1 (rwq x).a.length c1, .slice D1 (rwq x).b.length d1, .bool (rwq y).s, .slice A2 (rwq y).a.length c2, .slice D2 (rwq y).b.length d2]) (rwq x) (rwq y) := ⟨A1, c1, D1, d1, A2, c2, D2, d2, rfl, p1, p2, p3, p4⟩
  have Hb : VN w w.heap.size (.agg #[.bool (rwq u).s, .slice E1 (rwq u).a.length e1, .slice F1 (rwq u).b.length f1, .bool (rwq v).s, .slice E2 (rwq v).a.length e2, .slice F2 (rwq v).b.length f2]) (rwq u) (rwq v) := ⟨E1, e1, F1, f1, E2, e2, F2, f2, rfl, p5, p6, p7, p8⟩
  clear p1 p2 p3 p4 p5 p6 p7 p8
  have k0 := S3.new w [.bool (rwq x).s, .slice A1 (rwq x).a.length c1, .slice D1 (rwq x).b.length d1, .bool (rwq y).s, .slice A2 (rwq y).a.length c2, .slice D2 (rwq y).b.length d2] [.bool (rwq u).s, .slice E1 (rwq u).a.length e1, .slice F1 (rwq u).b.length f1, .bool (rwq v).s, .slice E2 (rwq v).a.length e2, .slice F2 (rwq v).b.length f2] [.bool false, .slice none 0 0, .slice none 0 0, .bool false, .slice none 0 0, .slice none 0 0] 26 26 26 6
  have C0 := k0.2.2.2
  have i0 := k0.1.cell 0
  have i1 := k0.1.cell 1
  have i2 := k0.1.cell 2
  have i3 := k0.1.cell 3
  have i4 := k0.1.cell 4
  have i5 := k0.1.cell 5
  have hs1 := fun V w' h => resound_any V (rwq x) (rwq y) w' h
  have hs2 := fun V w' h => resound_any V (rwq u) (rwq v) w' h
  rw [nB_rwq bx bY] at hs1
  rw [nB_rwq bu bv] at hs2
  have hZ := fun V w' h => risZero_any V (rwq u) (rwq v) w' h
  rw [zeroB_q] at hZ
  rw [decide_eq_true hz] at hZ
  clear hz bx bY bu bv
  go_enter Try.func15, Try.ntmps15
  go_wp2_with fail
  refine (hs1 _ _ (Ha.st C0)).mono ?_; rintro e w3 ⟨rfl, B3⟩
  have k3 := k0.nx B3
  have C3 := k3.2.2.2
  have j0 := k3.2.1.cell 0
  have j1 := k3.2.1.cell 1
  have j2 := k3.2.1.cell 2
  have j3 := k3.2.1.cell 3
  have j4 := k3.2.1.cell 4
  have j5 := k3.2.1.cell 5
  go_wp2_with fail
  refine (hs2 _ _ (Hb.st C3)).mono ?_; rintro e w4 ⟨rfl, B4⟩
  have k4 := k3.nx B4
  have C4 := k4.2.2.2
  clear i0 i1 i2 i3 i4 i5 j0 j1 j2 j3 j4 j5
  have j0 := k4.2.1.cell 0
  have j1 := k4.2.1.cell 1
  have j2 := k4.2.1.cell 2
  have j3 := k4.2.1.cell 3
  have j4 := k4.2.1.cell 4
  have j5 := k4.2.1.cell 5
  go_wp2_with fail
  refine (hZ _ _ (Hb.st C4)).mono ?_; rintro e w5 ⟨rfl, B5⟩
  have k5 := k4.nx B5
  clear j0 j1 j2 j3 j4 j5
  have hRC := k5.2.2.1
  go_wp2_with (refine wp_st6 rfl (.tmp 4) (.tmp 17) rfl _ rfl _ _ _ _ _ _ rfl hRC rfl rfl rfl rfl rfl rfl ?_)
  have s6 := hRC.put6 (.bool false) (.slice none 0 0) (.slice none 0 0) (.bool false) (.slice none 0 0) (.slice none 0 0)
  have B6 := wr6_below (b := w.heap.size + 2) k5.2.2.2 (by omega) (.bool false) (.slice none 0 0) (.slice none 0 0) (.bool false) (.slice none 0 0) (.slice none 0 0)
  have r0' := s6.cell 0
  have r1' := s6.cell 1
  have r2' := s6.cell 2
  have r3' := s6.cell 3
  have r4' := s6.cell 4
  have r5' := s6.cell 5
  refine bodyPost_ret (v := .tuple #[.agg #[.bool false, .slice none 0 0, .slice none 0 0, .bool false, .slice none 0 0, .slice none 0 0], .int .i64 3]) (by simp [results, r0', r1', r2', r3', r4', r5', go_sem]) rfl ?_
  exact retNE_nil 3 B6


set_option maxRecDepth 100000 in
set_option maxHeartbeats 16000000 in
theorem rdiv_ok (V U : Value) (x y u v : Rat) (w : World) (hV : RN w w.heap.size V x y) (hU : RN w w.heap.size U u v) (bx : qw x ≤ 512) (bY : qw y ≤ 512) (bu : qw u ≤ 512) (bv : qw v ≤ 512) (hz : ¬ (u = 0 ∧ v = 0)) :
    Calls Try.prog 15 #[V, U] w (RetNE w (divQ x y u v)) := by
  unfold divQ
  obtain ⟨A1, c1, D1, d1, A2, c2, D2, d2, rfl, p1, p2, p3, p4⟩ := hV
  obtain ⟨E1, e1, F1, f1, E2, e2, F2, f2, rfl, p5, p6, p7, p8⟩ := hU
  have Ha : VN w w.heap.size (.agg #[.bool (rwq x).s, .slice A1 (rwq x).a.length c1, .slice D1 (rwq x).b.length d1, .bool (rwq y).s, .slice A2 (rwq y).a.length c2, .slice D2 (rwq y).b.length d2]) (rwq x) (rwq y) := ⟨A1, c1, D1, d1, A2, c2, D2, d2, rfl, p1, p2, p3, p4⟩
  have Hb : VN w w.heap.size (.agg #[.bool (rwq u).s, .slice E1 (rwq u).a.length e1, .slice F1 (rwq u).b.length f1, .bool (rwq v).s, .slice E2 (rwq v).a.length e2, .slice F2 (rwq v).b.length f2]) (rwq u) (rwq v) := ⟨E1, e1, F1, f1, E2, e2, F2, f2, rfl, p5, p6, p7, p8⟩
  clear p1 p2 p3 p4 p5 p6 p7 p8
  have k0 := S3.new w [.bool (rwq x).s, .slice A1 (rwq x).a.length c1, .slice D1 (rwq x).b.length d1, .bool (rwq y).s, .slice A2 (rwq y).a.length c2, .slice D2 (rwq y).b.length d2] [.bool (rwq u).s, .slice E1 (rwq u).a.length e1, .slice F1 (rwq u).b.length f1, .bool (rwq v).s, .slice E2 (rwq v).a.length e2, .slice F2 (rwq v).b.length f2] [.bool false, .slice none 0 0, .slice none 0 0, .bool false, .slice none 0 0, .slice none 0 0] 26 26 26 6
  have C0 := k0.2.2.2
  have i0 := k0.1.cell 0
  have i1 := k0.1.cell 1
  have i2 := k0.1.cell 2
  have i3 := k0.1.cell 3
  have i4 := k0.1.cell 4
  have i5 := k0.1.cell 5
  have hs1 := fun V w' h => resound_any V (rwq x) (rwq y) w' h
  have hs2 := fun V w' h => resound_any V (rwq u) (rwq v) w' h
  rw [nB_rwq bx bY] at hs1
  rw [nB_rwq bu bv] at hs2
  have hZ := fun V w' h => risZero_any V (rwq u) (rwq v) w' h
  rw [zeroB_q] at hZ
  rw [decide_eq_false hz] at hZ
  have hI := fun V w' h => rinverse_any V u v w' h hz (by omega) (by omega)
  obtain ⟨hn1, hn2⟩ := norm_pos' hz
  have m0 := qw_inv hn1 hn2
  have m1 := qw_mul u u
  have m2 := qw_mul v v
  have m3 := qw_add (u * u) (v * v)
  have m4 := qw_mul u (u * u + v * v)⁻¹
  have m5 := qw_mul (-v) (u * u + v * v)⁻¹
  rw [qw_neg] at m5
  have mp : qw (u * (u * u + v * v)⁻¹) ≤ 3000 := by omega
  have mq : qw (-v * (u * u + v * v)⁻¹) ≤ 3000 := by omega
  clear m0 m1 m2 m3 m4 m5 hn1 hn2 hz
  generalize (u * (u * u + v * v)⁻¹) = p at *
  generalize (-v * (u * u + v * v)⁻¹) = q at *
  have hT := fun V U w' h1 h2 => rtimes_rat V U x y p q w' h1 h2 (by omega) (by omega) (by omega) (by omega)
  have hF := fun A1 D1 A2 D2 c1 d1 c2 d2 base w' h1 h2 h3 h4 => rfitq_any (x * p + -(y * q)) (x * q + y * p) A1 D1 A2 D2 c1 d1 c2 d2 base w' h1 h2 h3 h4
  generalize fitQ (x * p + -(y * q)) (x * q + y * p) = ft at *
  obtain ⟨fr, fi, fk⟩ := ft
  generalize rwq (x * p + -(y * q)) = X at *
  generalize rwq (x * q + y * p) = Y at *
  clear bx bY bu bv mp mq
  go_enter Try.func15, Try.ntmps15
  go_wp2_with fail
  refine (hs1 _ _ (Ha.st C0)).mono ?_; rintro e w3 ⟨rfl, B3⟩
  have k3 := k0.nx B3
  have C3 := k3.2.2.2
  have j0 := k3.2.1.cell 0
  have j1 := k3.2.1.cell 1
  have j2 := k3.2.1.cell 2
  have j3 := k3.2.1.cell 3
  have j4 := k3.2.1.cell 4
  have j5 := k3.2.1.cell 5
  go_wp2_with fail
  refine (hs2 _ _ (Hb.st C3)).mono ?_; rintro e w4 ⟨rfl, B4⟩
  have k4 := k3.nx B4
  have C4 := k4.2.2.2
  clear i0 i1 i2 i3 i4 i5 j0 j1 j2 j3 j4 j5
  have j0 := k4.2.1.cell 0
  have j1 := k4.2.1.cell 1
  have j2 := k4.2.1.cell 2
  have j3 := k4.2.1.cell 3
  have j4 := k4.2.1.cell 4
  have j5 := k4.2.1.cell 5
  go_wp2_with fail
  refine (hZ _ _ (Hb.st C4)).mono ?_; rintro e w5 ⟨rfl, B5⟩
  have k5 := k4.nx B5
  clear j0 j1 j2 j3 j4 j5
  go_upto_region 5 with fail
  have k5d := k5.dr
  have k5s := And.intro (k5d.1.cell 0) (And.intro (k5d.1.cell 1) (And.intro (k5d.1.cell 2) (And.intro (k5d.1.cell 3) (And.intro (k5d.1.cell 4) (And.intro (k5d.1.cell 5) (And.intro (k5d.2.1.cell 0) (And.intro (k5d.2.1.cell 1) (And.intro (k5d.2.1.cell 2) (And.intro (k5d.2.1.cell 3) (And.intro (k5d.2.1.cell 4) (And.intro (k5d.2.1.cell 5) (And.intro (k5d.2.2.1.cell 0) (And.intro (k5d.2.2.1.frozen 0) (And.intro (k5d.2.2.1.cell 1) (And.intro (k5d.2.2.1.frozen 1) (And.intro (k5d.2.2.1.cell 2) (And.intro (k5d.2.2.1.frozen 2) (And.intro (k5d.2.2.1.cell 3) (And.intro (k5d.2.2.1.frozen 3) (And.intro (k5d.2.2.1.cell 4) (And.intro (k5d.2.2.1.frozen 4) (And.intro (k5d.2.2.1.cell 5) (And.intro (k5d.2.2.1.frozen 5) (k5d))))))))))))))))))))))))
  go_region_held3 (fun w' => w'.cell? ⟨w.heap.size, 0, none⟩ = some (.bool (rwq x).s) ∧ w'.cell? ⟨w.heap.size, 1, none⟩ = some (.slice A1 (rwq x).a.length c1) ∧ w'.cell? ⟨w.heap.size, 2, none⟩ = some (.slice D1 (rwq x).b.length d1) ∧ w'.cell? ⟨w.heap.size, 3, none⟩ = some (.bool (rwq y).s) ∧ w'.cell? ⟨w.heap.size, 4, none⟩ = some (.slice A2 (rwq y).a.length c2) ∧ w'.cell? ⟨w.heap.size, 5, none⟩ = some (.slice D2 (rwq y).b.length d2) ∧ w'.cell? ⟨w.heap.size + 1, 0, none⟩ = some (.bool (rwq u).s) ∧ w'.cell? ⟨w.heap.size + 1, 1, none⟩ = some (.slice E1 (rwq u).a.length e1) ∧ w'.cell? ⟨w.heap.size + 1, 2, none⟩ = some (.slice F1 (rwq u).b.length f1) ∧ w'.cell? ⟨w.heap.size + 1, 3, none⟩ = some (.bool (rwq v).s) ∧ w'.cell? ⟨w.heap.size + 1, 4, none⟩ = some (.slice E2 (rwq v).a.length e2) ∧ w'.cell? ⟨w.heap.size + 1, 5, none⟩ = some (.slice F2 (rwq v).b.length f2) ∧ w'.cell? ⟨w.heap.size + 2, 0, none⟩ = some (cv w' (w.heap.size + 2) 0) ∧ w'.frozen? ⟨w.heap.size + 2, 0, none⟩ = false ∧ w'.cell? ⟨w.heap.size + 2, 1, none⟩ = some (cv w' (w.heap.size + 2) 1) ∧ w'.frozen? ⟨w.heap.size + 2, 1, none⟩ = false ∧ w'.cell? ⟨w.heap.size + 2, 2, none⟩ = some (cv w' (w.heap.size + 2) 2) ∧ w'.frozen? ⟨w.heap.size + 2, 2, none⟩ = false ∧ w'.cell? ⟨w.heap.size + 2, 3, none⟩ = some (cv w' (w.heap.size + 2) 3) ∧ w'.frozen? ⟨w.heap.size + 2, 3, none⟩ = false ∧ w'.cell? ⟨w.heap.size + 2, 4, none⟩ = some (cv w' (w.heap.size + 2) 4) ∧ w'.frozen? ⟨w.heap.size + 2, 4, none⟩ = false ∧ w'.cell? ⟨w.heap.size + 2, 5, none⟩ = some (cv w' (w.heap.size + 2) 5) ∧ w'.frozen? ⟨w.heap.size + 2, 5, none⟩ = false ∧ S3 w w.heap.size [.bool (rwq x).s, .slice A1 (rwq x).a.length c1, .slice D1 (rwq x).b.length d1, .bool (rwq y).s, .slice A2 (rwq y).a.length c2, .slice D2 (rwq y).b.length d2] [.bool (rwq u).s, .slice E1 (rwq u).a.length e1, .slice F1 (rwq u).b.length f1, .bool (rwq v).s, .slice E2 (rwq v).a.length e2, .slice F2 (rwq v).b.length f2] 6 w')
    (first
      | with_reducible exact k5s
      | (have s1 := (by with_reducible assumption : _ ∧ _ ∧ _ ∧ _ ∧ _ ∧ _ ∧ _ ∧ _ ∧ _ ∧ _ ∧ _ ∧ _ ∧ _ ∧ _ ∧ _ ∧ _ ∧ _ ∧ _ ∧ _ ∧ _ ∧ _ ∧ _ ∧ _ ∧ _ ∧ S3 w w.heap.size [.bool (rwq x).s, .slice A1 (rwq x).a.length c1, .slice D1 (rwq x).b.length d1, .bool (rwq y).s, .slice A2 (rwq y).a.length c2, .slice D2 (rwq y).b.length d2] [.bool (rwq u).s, .slice E1 (rwq u).a.length e1, .slice F1 (rwq u).b.length f1, .bool (rwq v).s, .slice E2 (rwq v).a.length e2, .slice F2 (rwq v).b.length f2] 6 _).2.2.2.2.2.2.2.2.2.2.2.2.2.2.2.2.2.2.2.2.2.2.2.2.nx BX; have q0_ := s1.1.cell 0; have q1_ := s1.1.cell 1; have q2_ := s1.1.cell 2; have q3_ := s1.1.cell 3; have q4_ := s1.1.cell 4; have q5_ := s1.1.cell 5; have q6_ := s1.2.1.cell 0; have q7_ := s1.2.1.cell 1; have q8_ := s1.2.1.cell 2; have q9_ := s1.2.1.cell 3; have q10_ := s1.2.1.cell 4; have q11_ := s1.2.1.cell 5; have q12_ := s1.2.2.1.cell 0; have q13_ := s1.2.2.1.frozen 0; have q14_ := s1.2.2.1.cell 1; have q15_ := s1.2.2.1.frozen 1; have q16_ := s1.2.2.1.cell 2; have q17_ := s1.2.2.1.frozen 2; have q18_ := s1.2.2.1.cell 3; have q19_ := s1.2.2.1.frozen 3; have q20_ := s1.2.2.1.cell 4; have q21_ := s1.2.2.1.frozen 4; have q22_ := s1.2.2.1.cell 5; have q23_ := s1.2.2.1.frozen 5; with_reducible exact ⟨q0_, q1_, q2_, q3_, q4_, q5_, q6_, q7_, q8_, q9_, q10_, q11_, q12_, q13_, q14_, q15_, q16_, q17_, q18_, q19_, q20_, q21_, q22_, q23_, s1⟩)
      | (have s1 := (by with_reducible assumption : _ ∧ _ ∧ _ ∧ _ ∧ _ ∧ _ ∧ _ ∧ _ ∧ _ ∧ _ ∧ _ ∧ _ ∧ _ ∧ _ ∧ _ ∧ _ ∧ _ ∧ _ ∧ _ ∧ _ ∧ _ ∧ _ ∧ _ ∧ _ ∧ S3 w w.heap.size [.bool (rwq x).s, .slice A1 (rwq x).a.length c1, .slice D1 (rwq x).b.length d1, .bool (rwq y).s, .slice A2 (rwq y).a.length c2, .slice D2 (rwq y).b.length d2] [.bool (rwq u).s, .slice E1 (rwq u).a.length e1, .slice F1 (rwq u).b.length f1, .bool (rwq v).s, .slice E2 (rwq v).a.length e2, .slice F2 (rwq v).b.length f2] 6 _).2.2.2.2.2.2.2.2.2.2.2.2.2.2.2.2.2.2.2.2.2.2.2.2.put6 (.bool fr.s) (.slice A7 fr.a.length c7) (.slice D7 fr.b.length d7) (.bool fi.s) (.slice A8 fi.a.length c8) (.slice D8 fi.b.length d8); have q0_ := s1.1.cell 0; have q1_ := s1.1.cell 1; have q2_ := s1.1.cell 2; have q3_ := s1.1.cell 3; have q4_ := s1.1.cell 4; have q5_ := s1.1.cell 5; have q6_ := s1.2.1.cell 0; have q7_ := s1.2.1.cell 1; have q8_ := s1.2.1.cell 2; have q9_ := s1.2.1.cell 3; have q10_ := s1.2.1.cell 4; have q11_ := s1.2.1.cell 5; have q12_ := s1.2.2.1.cell 0; have q13_ := s1.2.2.1.frozen 0; have q14_ := s1.2.2.1.cell 1; have q15_ := s1.2.2.1.frozen 1; have q16_ := s1.2.2.1.cell 2; have q17_ := s1.2.2.1.frozen 2; have q18_ := s1.2.2.1.cell 3; have q19_ := s1.2.2.1.frozen 3; have q20_ := s1.2.2.1.cell 4; have q21_ := s1.2.2.1.frozen 4; have q22_ := s1.2.2.1.cell 5; have q23_ := s1.2.2.1.frozen 5; with_reducible exact ⟨q0_, q1_, q2_, q3_, q4_, q5_, q6_, q7_, q8_, q9_, q10_, q11_, q12_, q13_, q14_, q15_, q16_, q17_, q18_, q19_, q20_, q21_, q22_, q23_, s1⟩))
    (first
      | (go_at_call 52; have hh := (by with_reducible assumption : _ ∧ _ ∧ _ ∧ _ ∧ _ ∧ _ ∧ _ ∧ _ ∧ _ ∧ _ ∧ _ ∧ _ ∧ _ ∧ _ ∧ _ ∧ _ ∧ _ ∧ _ ∧ _ ∧ _ ∧ _ ∧ _ ∧ _ ∧ _ ∧ S3 w w.heap.size [.bool (rwq x).s, .slice A1 (rwq x).a.length c1, .slice D1 (rwq x).b.length d1, .bool (rwq y).s, .slice A2 (rwq y).a.length c2, .slice D2 (rwq y).b.length d2] [.bool (rwq u).s, .slice E1 (rwq u).a.length e1, .slice F1 (rwq u).b.length f1, .bool (rwq v).s, .slice E2 (rwq v).a.length e2, .slice F2 (rwq v).b.length f2] 6 _).2.2.2.2.2.2.2.2.2.2.2.2.2.2.2.2.2.2.2.2.2.2.2.2; refine (hI _ _ (Hb.st hh.2.2.2)).mono ?_; rintro e w12 ⟨A12, c12, D12, d12, E12, e12, F12, f12, rfl, O1, O2, O3, O4, BX⟩; have HN : VN w12 w12.heap.size (.agg #[.bool (rwq p).s, .slice A12 (rwq p).a.length c12, .slice D12 (rwq p).b.length d12, .bool (rwq q).s, .slice E12 (rwq q).a.length e12, .slice F12 (rwq q).b.length f12]) (rwq p) (rwq q) := ⟨A12, c12, D12, d12, E12, e12, F12, f12, rfl, O1.rw, O2.rw, O3.rw, O4.rw⟩; clear O1 O2 O3 O4)
      | (go_at_call 48; have hh := (by with_reducible assumption : _ ∧ _ ∧ _ ∧ _ ∧ _ ∧ _ ∧ _ ∧ _ ∧ _ ∧ _ ∧ _ ∧ _ ∧ _ ∧ _ ∧ _ ∧ _ ∧ _ ∧ _ ∧ _ ∧ _ ∧ _ ∧ _ ∧ _ ∧ _ ∧ S3 w w.heap.size [.bool (rwq x).s, .slice A1 (rwq x).a.length c1, .slice D1 (rwq x).b.length d1, .bool (rwq y).s, .slice A2 (rwq y).a.length c2, .slice D2 (rwq y).b.length d2] [.bool (rwq u).s, .slice E1 (rwq u).a.length e1, .slice F1 (rwq u).b.length f1, .bool (rwq v).s, .slice E2 (rwq v).a.length e2, .slice F2 (rwq v).b.length f2] 6 _).2.2.2.2.2.2.2.2.2.2.2.2.2.2.2.2.2.2.2.2.2.2.2.2; refine (hT _ _ _ (Ha.st hh.2.2.2) HN).mono ?_; rintro e w13 ⟨A13, c13, D13, d13, E13, e13, F13, f13, rfl, O1, O2, O3, O4, BX⟩; have sz := hh.2.2.1.2)
      | (go_at_call 47; have hh := (by with_reducible assumption : _ ∧ _ ∧ _ ∧ _ ∧ _ ∧ _ ∧ _ ∧ _ ∧ _ ∧ _ ∧ _ ∧ _ ∧ _ ∧ _ ∧ _ ∧ _ ∧ _ ∧ _ ∧ _ ∧ _ ∧ _ ∧ _ ∧ _ ∧ _ ∧ S3 w w.heap.size [.bool (rwq x).s, .slice A1 (rwq x).a.length c1, .slice D1 (rwq x).b.length d1, .bool (rwq y).s, .slice A2 (rwq y).a.length c2, .slice D2 (rwq y).b.length d2] [.bool (rwq u).s, .slice E1 (rwq u).a.length e1, .slice F1 (rwq u).b.length f1, .bool (rwq v).s, .slice E2 (rwq v).a.length e2, .slice F2 (rwq v).b.length f2] 6 _).2.2.2.2.2.2.2.2.2.2.2.2.2.2.2.2.2.2.2.2.2.2.2.2; refine (hF _ _ _ _ _ _ _ _ _ _ O1 O2 O3 O4).mono ?_; rintro e w16 ⟨A7, c7, D7, d7, A8, c8, D8, d8, rfl, Q1, Q2, Q3, Q4, BX⟩; dsimp only at Q1 Q2 Q3 Q4; have kk := hh.nx BX))
  have s6 := kk.2.2.1.put6 (.bool fr.s) (.slice A7 fr.a.length c7) (.slice D7 fr.b.length d7) (.bool fi.s) (.slice A8 fi.a.length c8) (.slice D8 fi.b.length d8)
  have B6 := wr6_below (b := w.heap.size + 2) kk.2.2.2 (by omega) (.bool fr.s) (.slice A7 fr.a.length c7) (.slice D7 fr.b.length d7) (.bool fi.s) (.slice A8 fi.a.length c8) (.slice D8 fi.b.length d8)
  have O1 := Q1.put6 (b := w.heap.size + 2) sz (.bool fr.s) (.slice A7 fr.a.length c7) (.slice D7 fr.b.length d7) (.bool fi.s) (.slice A8 fi.a.length c8) (.slice D8 fi.b.length d8)
  have O2 := Q2.put6 (b := w.heap.size + 2) sz (.bool fr.s) (.slice A7 fr.a.length c7) (.slice D7 fr.b.length d7) (.bool fi.s) (.slice A8 fi.a.length c8) (.slice D8 fi.b.length d8)
  have O3 := Q3.put6 (b := w.heap.size + 2) sz (.bool fr.s) (.slice A7 fr.a.length c7) (.slice D7 fr.b.length d7) (.bool fi.s) (.slice A8 fi.a.length c8) (.slice D8 fi.b.length d8)
  have O4 := Q4.put6 (b := w.heap.size + 2) sz (.bool fr.s) (.slice A7 fr.a.length c7) (.slice D7 fr.b.length d7) (.bool fi.s) (.slice A8 fi.a.length c8) (.slice D8 fi.b.length d8)
  have r0' := s6.cell 0
  have r1' := s6.cell 1
  have r2' := s6.cell 2
  have r3' := s6.cell 3
  have r4' := s6.cell 4
  have r5' := s6.cell 5
  unfold wr6 wr3 at s6 B6 O1 O2 O3 O4 r0' r1' r2' r3' r4' r5'
  go_wp2_with fail
  refine bodyPost_ret (v := .tuple #[.agg #[.bool fr.s, .slice A7 fr.a.length c7, .slice D7 fr.b.length d7, .bool fi.s, .slice A8 fi.a.length c8, .slice D8 fi.b.length d8], .int .i64 fk]) (by simp [results, r0', r1', r2', r3', r4', r5', go_sem]) rfl ?_
  have hle := Nat.le_of_lt (Nat.lt_of_succ_lt (Nat.lt_of_succ_lt sz))
  exact ⟨A7, c7, D7, d7, A8, c8, D8, d8, rfl, O1.base_le hle, O2.base_le hle, O3.base_le hle, O4.base_le hle, B6⟩


theorem rmuln_any {V U : Value} {r i r' i' : Rw} {w : World} (hV : VN w w.heap.size V r i) (hU : VN w w.heap.size U r' i') : Calls Try.prog 13 #[V, U] w (RetNE w (qmulA r i r' i')) := by
  unfold qmulA
  by_cases h : nB r i = true ∧ nB r' i' = true
  · rw [if_pos h]
    obtain ⟨x, y, rfl, rfl, h1, h2⟩ := nB_rat h.1
    obtain ⟨u, v, rfl, rfl, h3, h4⟩ := nB_rat h.2
    rw [qv_rwq, qv_rwq, qv_rwq, qv_rwq]
    exact rmul_ok V U x y u v w hV hU h1 h2 h3 h4
  · rw [if_neg h]
    exact rmul_bad V U r i r' i' w hV hU h
theorem rdivn_any {V U : Value} {r i r' i' : Rw} {w : World} (hV : VN w w.heap.size V r i) (hU : VN w w.heap.size U r' i') : Calls Try.prog 15 #[V, U] w (RetNE w (qdivA r i r' i')) := by
  unfold qdivA
  by_cases h : nB r i = true ∧ nB r' i' = true
  · rw [if_pos h]
    obtain ⟨x, y, rfl, rfl, h1, h2⟩ := nB_rat h.1
    obtain ⟨u, v, rfl, rfl, h3, h4⟩ := nB_rat h.2
    rw [qv_rwq, qv_rwq, qv_rwq, qv_rwq]
    by_cases hz : u = 0 ∧ v = 0
    · rw [if_pos hz]
      exact rdiv_zero V U x y u v w hV hU h1 h2 h3 h4 hz
    · rw [if_neg hz]
      exact rdiv_ok V U x y u v w hV hU h1 h2 h3 h4 hz
  · rw [if_neg h]
    exact rdiv_bad V U r i r' i' w hV hU h
end Go.Proofs.Ytdkejndagicgjaa
