/- Walks: the reference's Expt: its errors; to the power 0. -/
import Derived.Test.YtdkejndagicgjaaGP
import Derived.Test.YtdkejndagicgjaaEyE
namespace Go.Proofs.Ytdkejndagicgjaa
open Go.RowKit


set_option maxRecDepth 100000 in
set_option maxHeartbeats 4000000 in
theorem rexpt_bad (V : Value) (r i : Rw) (n : Int) (w : World) (hV : VN w w.heap.size V r i) (hb : ¬ nB r i = true) :
    Calls Try.prog 28 #[V, .int .i64 n] w (RetNE w (rw0, rw0, 2)) := by
  have hs1 := fun V w' h => resound_any V r i w' h
  rw [Bool.eq_false_iff.2 hb] at hs1
  obtain ⟨A1, c1, D1, d1, A2, c2, D2, d2, rfl, p1, p2, p3, p4⟩ := hV
  have Ha : VN w w.heap.size (.agg #[.bool r.s, .slice A1 r.a.length c1, .slice D1 r.b.length d1, .bool i.s, .slice A2 i.a.length c2, .slice D2 i.b.length d2]) r i := ⟨A1, c1, D1, d1, A2, c2, D2, d2, rfl, p1, p2, p3, p4⟩
  have k0 := S2.new w [.bool r.s, .slice A1 r.a.length c1, .slice D1 r.b.length d1, .bool i.s, .slice A2 i.a.length c2, .slice D2 i.b.length d2] [.bool false, .slice none 0 0, .slice none 0 0, .bool false, .slice none 0 0, .slice none 0 0] 26 26 6
  have C0 := k0.2.2
  have i0 := k0.1.cell 0
  have i1 := k0.1.cell 1
  have i2 := k0.1.cell 2
  have i3 := k0.1.cell 3
  have i4 := k0.1.cell 4
  have i5 := k0.1.cell 5
  clear p1 p2 p3 p4 hb
  go_enter Try.func28, Try.ntmps28
  go_wp2_with fail
  refine (hs1 _ _ (Ha.st C0)).mono ?_; rintro e w3 ⟨rfl, B3⟩
  have k3 := k0.nx B3
  clear i0 i1 i2 i3 i4 i5 hs1
  have hRC := k3.2.1
  go_wp2_with (refine wp_st6 rfl (.tmp 4) (.tmp 12) rfl _ rfl _ _ _ _ _ _ rfl hRC rfl rfl rfl rfl rfl rfl ?_)
  have s6 := hRC.put6 (.bool false) (.slice none 0 0) (.slice none 0 0) (.bool false) (.slice none 0 0) (.slice none 0 0)
  have B6 := wr6_below (b := w.heap.size + 1) k3.2.2 (by omega) (.bool false) (.slice none 0 0) (.slice none 0 0) (.bool false) (.slice none 0 0) (.slice none 0 0)
  have r0' := s6.cell 0
  have r1' := s6.cell 1
  have r2' := s6.cell 2
  have r3' := s6.cell 3
  have r4' := s6.cell 4
  have r5' := s6.cell 5
  refine bodyPost_ret (v := .tuple #[.agg #[.bool false, .slice none 0 0, .slice none 0 0, .bool false, .slice none 0 0, .slice none 0 0], .int .i64 2]) (by simp [results, r0', r1', r2', r3', r4', r5', go_sem]) rfl ?_
  exact retNE_nil 2 B6


set_option maxRecDepth 100000 in
set_option maxHeartbeats 16000000 in
theorem rexpt_arg (V : Value) (x y : Rat) (n : Int) (w : World) (hV : RN w w.heap.size V x y) (bx : qw x ≤ 512) (by_ : qw y ≤ 512) (hn : n < -1024 ∨ 1024 < n) :
    Calls Try.prog 28 #[V, .int .i64 n] w (RetNE w (rw0, rw0, 1)) := by
  have hs1 := fun V w' h => resound_any V (rwq x) (rwq y) w' h
  rw [nB_rwq bx by_] at hs1
  obtain ⟨A1, c1, D1, d1, A2, c2, D2, d2, rfl, p1, p2, p3, p4⟩ := hV
  have Ha : VN w w.heap.size (.agg #[.bool (qn x), .slice A1 (digs (qt x)).length c1, .slice D1 (digs (qd x)).length d1, .bool (qn y), .slice A2 (digs (qt y)).length c2, .slice D2 (digs (qd y)).length d2]) (rwq x) (rwq y) := ⟨A1, c1, D1, d1, A2, c2, D2, d2, rfl, p1, p2, p3, p4⟩
  simp only [rwq] at p1 p2 p3 p4
  have k0 := S2.new w [.bool (qn x), .slice A1 (digs (qt x)).length c1, .slice D1 (digs (qd x)).length d1, .bool (qn y), .slice A2 (digs (qt y)).length c2, .slice D2 (digs (qd y)).length d2] [.bool false, .slice none 0 0, .slice none 0 0, .bool false, .slice none 0 0, .slice none 0 0] 26 26 6
  have C0 := k0.2.2
  have i0 := k0.1.cell 0
  have i1 := k0.1.cell 1
  have i2 := k0.1.cell 2
  have i3 := k0.1.cell 3
  have i4 := k0.1.cell 4
  have i5 := k0.1.cell 5
  clear p1 p2 p3 p4 bx by_
  by_cases h1 : n < -1024
  · clear hn
    go_enter Try.func28, Try.ntmps28
    go_wp2_with fail
    refine (hs1 _ _ (Ha.st C0)).mono ?_; rintro e w3 ⟨rfl, B3⟩
    have k3 := k0.nx B3
    clear i0 i1 i2 i3 i4 i5 hs1
    have hRC := k3.2.1
    go_wp2_with (refine wp_st6 rfl (.tmp 4) (.tmp 19) rfl _ rfl _ _ _ _ _ _ rfl hRC rfl rfl rfl rfl rfl rfl ?_)
    have s6 := hRC.put6 (.bool false) (.slice none 0 0) (.slice none 0 0) (.bool false) (.slice none 0 0) (.slice none 0 0)
    have B6 := wr6_below (b := w.heap.size + 1) k3.2.2 (by omega) (.bool false) (.slice none 0 0) (.slice none 0 0) (.bool false) (.slice none 0 0) (.slice none 0 0)
    have r0' := s6.cell 0
    have r1' := s6.cell 1
    have r2' := s6.cell 2
    have r3' := s6.cell 3
    have r4' := s6.cell 4
    have r5' := s6.cell 5
    refine bodyPost_ret (v := .tuple #[.agg #[.bool false, .slice none 0 0, .slice none 0 0, .bool false, .slice none 0 0, .slice none 0 0], .int .i64 1]) (by simp [results, r0', r1', r2', r3', r4', r5', go_sem]) rfl ?_
    exact retNE_nil 1 B6
  · have h2 : 1024 < n := by omega
    clear hn
    go_enter Try.func28, Try.ntmps28
    go_wp2_with fail
    refine (hs1 _ _ (Ha.st C0)).mono ?_; rintro e w3 ⟨rfl, B3⟩
    have k3 := k0.nx B3
    clear i0 i1 i2 i3 i4 i5 hs1
    have hRC := k3.2.1
    go_wp2_with (refine wp_st6 rfl (.tmp 4) (.tmp 19) rfl _ rfl _ _ _ _ _ _ rfl hRC rfl rfl rfl rfl rfl rfl ?_)
    have s6 := hRC.put6 (.bool false) (.slice none 0 0) (.slice none 0 0) (.bool false) (.slice none 0 0) (.slice none 0 0)
    have B6 := wr6_below (b := w.heap.size + 1) k3.2.2 (by omega) (.bool false) (.slice none 0 0) (.slice none 0 0) (.bool false) (.slice none 0 0) (.slice none 0 0)
    have r0' := s6.cell 0
    have r1' := s6.cell 1
    have r2' := s6.cell 2
    have r3' := s6.cell 3
    have r4' := s6.cell 4
    have r5' := s6.cell 5
    refine bodyPost_ret (v := .tuple #[.agg #[.bool false, .slice none 0 0, .slice none 0 0, .bool false, .slice none 0 0, .slice none 0 0], .int .i64 1]) (by simp [results, r0', r1', r2', r3', r4', r5', go_sem]) rfl ?_
    exact retNE_nil 1 B6


set_option maxRecDepth 100000 in
set_option maxHeartbeats 16000000 in
theorem rexpt_one (V : Value) (x y : Rat) (w : World) (hV : RN w w.heap.size V x y) (bx : qw x ≤ 512) (by_ : qw y ≤ 512) :
    Calls Try.prog 28 #[V, .int .i64 0] w (RetNE w (rwq 1, rwq 0, 0)) := by
  have hs1 := fun V w' h => resound_any V (rwq x) (rwq y) w' h
  rw [nB_rwq bx by_] at hs1
  obtain ⟨A1, c1, D1, d1, A2, c2, D2, d2, rfl, p1, p2, p3, p4⟩ := hV
  have Ha : VN w w.heap.size (.agg #[.bool (qn x), .slice A1 (digs (qt x)).length c1, .slice D1 (digs (qd x)).length d1, .bool (qn y), .slice A2 (digs (qt y)).length c2, .slice D2 (digs (qd y)).length d2]) (rwq x) (rwq y) := ⟨A1, c1, D1, d1, A2, c2, D2, d2, rfl, p1, p2, p3, p4⟩
  simp only [rwq] at p1 p2 p3 p4
  have k0 := S2.new w [.bool (qn x), .slice A1 (digs (qt x)).length c1, .slice D1 (digs (qd x)).length d1, .bool (qn y), .slice A2 (digs (qt y)).length c2, .slice D2 (digs (qd y)).length d2] [.bool false, .slice none 0 0, .slice none 0 0, .bool false, .slice none 0 0, .slice none 0 0] 26 26 6
  have C0 := k0.2.2
  have i0 := k0.1.cell 0
  have i1 := k0.1.cell 1
  have i2 := k0.1.cell 2
  have i3 := k0.1.cell 3
  have i4 := k0.1.cell 4
  have i5 := k0.1.cell 5
  clear p1 p2 p3 p4 bx by_
  have hI := fun w' => rint_any 1 w' (by omega) (by omega)
  rw [show ((1 : Int) : Rat) = 1 from rfl] at hI
  generalize rwq 1 = u1 at *
  generalize rwq 0 = u0 at *
  go_enter Try.func28, Try.ntmps28
  go_wp2_with fail
  refine (hs1 _ _ (Ha.st C0)).mono ?_; rintro e w3 ⟨rfl, B3⟩
  have k3 := k0.nx B3
  clear i0 i1 i2 i3 i4 i5 hs1
  go_wp2_with fail
  refine (hI _).mono ?_; rintro e w5 ⟨A5, c5, D5, d5, A6, c6, D6, d6, rfl, O1, O2, O3, O4, B5⟩
  have sz := k3.2.1.2
  have k5 := k3.nx B5
  have hRC := k5.2.1
  go_wp2_with (refine wp_st6 rfl (.tmp 4) (.tmp 22) rfl _ rfl _ _ _ _ _ _ rfl hRC rfl rfl rfl rfl rfl rfl ?_)
  have s6 := hRC.put6 (.bool u1.s) (.slice A5 u1.a.length c5) (.slice D5 u1.b.length d5) (.bool u0.s) (.slice A6 u0.a.length c6) (.slice D6 u0.b.length d6)
  have B6 := wr6_below (b := w.heap.size + 1) k5.2.2 (by omega) (.bool u1.s) (.slice A5 u1.a.length c5) (.slice D5 u1.b.length d5) (.bool u0.s) (.slice A6 u0.a.length c6) (.slice D6 u0.b.length d6)
  have O1 := O1.put6 (b := w.heap.size + 1) sz (.bool u1.s) (.slice A5 u1.a.length c5) (.slice D5 u1.b.length d5) (.bool u0.s) (.slice A6 u0.a.length c6) (.slice D6 u0.b.length d6)
  have O2 := O2.put6 (b := w.heap.size + 1) sz (.bool u1.s) (.slice A5 u1.a.length c5) (.slice D5 u1.b.length d5) (.bool u0.s) (.slice A6 u0.a.length c6) (.slice D6 u0.b.length d6)
  have O3 := O3.put6 (b := w.heap.size + 1) sz (.bool u1.s) (.slice A5 u1.a.length c5) (.slice D5 u1.b.length d5) (.bool u0.s) (.slice A6 u0.a.length c6) (.slice D6 u0.b.length d6)
  have O4 := O4.put6 (b := w.heap.size + 1) sz (.bool u1.s) (.slice A5 u1.a.length c5) (.slice D5 u1.b.length d5) (.bool u0.s) (.slice A6 u0.a.length c6) (.slice D6 u0.b.length d6)
  have r0' := s6.cell 0
  have r1' := s6.cell 1
  have r2' := s6.cell 2
  have r3' := s6.cell 3
  have r4' := s6.cell 4
  have r5' := s6.cell 5
  refine bodyPost_ret (v := .tuple #[.agg #[.bool u1.s, .slice A5 u1.a.length c5, .slice D5 u1.b.length d5, .bool u0.s, .slice A6 u0.a.length c6, .slice D6 u0.b.length d6], .int .i64 0]) (by simp [results, r0', r1', r2', r3', r4', r5', go_sem]) rfl ?_
  have hle := Nat.le_of_lt (Nat.lt_of_succ_lt sz)
  exact ⟨A5, c5, D5, d5, A6, c6, D6, d6, rfl, O1.base_le hle, O2.base_le hle, O3.base_le hle, O4.base_le hle, B6⟩


set_option maxRecDepth 100000 in
set_option maxHeartbeats 16000000 in
theorem rexpt_zero (V : Value) (x y : Rat) (n : Int) (w : World) (hV : RN w w.heap.size V x y) (bx : qw x ≤ 512) (by_ : qw y ≤ 512) (h0 : x = 0 ∧ y = 0) (hn : n < 0) (h1 : -1024 ≤ n) :
    Calls Try.prog 28 #[V, .int .i64 n] w (RetNE w (rw0, rw0, 3)) := by
  have hs1 := fun V w' h => resound_any V (rwq x) (rwq y) w' h
  rw [nB_rwq bx by_] at hs1
  obtain ⟨A1, c1, D1, d1, A2, c2, D2, d2, rfl, p1, p2, p3, p4⟩ := hV
  have Ha : VN w w.heap.size (.agg #[.bool (qn x), .slice A1 (digs (qt x)).length c1, .slice D1 (digs (qd x)).length d1, .bool (qn y), .slice A2 (digs (qt y)).length c2, .slice D2 (digs (qd y)).length d2]) (rwq x) (rwq y) := ⟨A1, c1, D1, d1, A2, c2, D2, d2, rfl, p1, p2, p3, p4⟩
  simp only [rwq] at p1 p2 p3 p4
  have k0 := S2.new w [.bool (qn x), .slice A1 (digs (qt x)).length c1, .slice D1 (digs (qd x)).length d1, .bool (qn y), .slice A2 (digs (qt y)).length c2, .slice D2 (digs (qd y)).length d2] [.bool false, .slice none 0 0, .slice none 0 0, .bool false, .slice none 0 0, .slice none 0 0] 26 26 6
  have C0 := k0.2.2
  have i0 := k0.1.cell 0
  have i1 := k0.1.cell 1
  have i2 := k0.1.cell 2
  have i3 := k0.1.cell 3
  have i4 := k0.1.cell 4
  have i5 := k0.1.cell 5
  have hZ := fun V w' h => risZero_any V (rwq x) (rwq y) w' h
  rw [zeroB_q] at hZ
  rw [decide_eq_true h0] at hZ
  clear h0 p1 p2 p3 p4 bx by_
  have e1 : ¬ n < -1024 := by omega
  have e2 : ¬ 1024 < n := by omega
  have e3 : (n == 0) = false := beq_eq_false_iff_ne.2 (by omega)
  go_enter Try.func28, Try.ntmps28
  go_wp2_with fail
  refine (hs1 _ _ (Ha.st C0)).mono ?_; rintro e w3 ⟨rfl, B3⟩
  have k3 := k0.nx B3
  clear i0 i1 i2 i3 i4 i5 hs1
  have C3 := k3.2.2
  have j0 := k3.1.cell 0
  have j1 := k3.1.cell 1
  have j2 := k3.1.cell 2
  have j3 := k3.1.cell 3
  have j4 := k3.1.cell 4
  have j5 := k3.1.cell 5
  go_wp2_with fail
  refine (hZ _ _ (Ha.st C3)).mono ?_; rintro e w4 ⟨rfl, B4⟩
  have k4 := k3.nx B4
  clear hZ j0 j1 j2 j3 j4 j5
  have hRC := k4.2.1
  go_wp2_with (refine wp_st6 rfl (.tmp 4) (.tmp 29) rfl _ rfl _ _ _ _ _ _ rfl hRC rfl rfl rfl rfl rfl rfl ?_)
  have s6 := hRC.put6 (.bool false) (.slice none 0 0) (.slice none 0 0) (.bool false) (.slice none 0 0) (.slice none 0 0)
  have B6 := wr6_below (b := w.heap.size + 1) k4.2.2 (by omega) (.bool false) (.slice none 0 0) (.slice none 0 0) (.bool false) (.slice none 0 0) (.slice none 0 0)
  have r0' := s6.cell 0
  have r1' := s6.cell 1
  have r2' := s6.cell 2
  have r3' := s6.cell 3
  have r4' := s6.cell 4
  have r5' := s6.cell 5
  refine bodyPost_ret (v := .tuple #[.agg #[.bool false, .slice none 0 0, .slice none 0 0, .bool false, .slice none 0 0, .slice none 0 0], .int .i64 3]) (by simp [results, r0', r1', r2', r3', r4', r5', go_sem]) rfl ?_
  exact retNE_nil 3 B6

end Go.Proofs.Ytdkejndagicgjaa
