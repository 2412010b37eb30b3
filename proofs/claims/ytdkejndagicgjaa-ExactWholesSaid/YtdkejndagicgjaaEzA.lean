/- Walks: the reference's DivMod: its errors. -/
import Derived.Test.YtdkejndagicgjaaGK
import Derived.Test.YtdkejndagicgjaaGN
namespace Go.Proofs.Ytdkejndagicgjaa
open Go.RowKit


set_option maxRecDepth 100000 in
set_option maxHeartbeats 8000000 in
theorem rdm_bad (V U : Value) (r i r' i' : Rw) (w : World) (hV : VN w w.heap.size V r i) (hU : VN w w.heap.size U r' i') (hb : ¬ chkN2 true r i r' i' = 0) :
    Calls Try.prog 21 #[V, U] w (RetNN w (dm0 (chkN2 true r i r' i'))) := by
  obtain ⟨A1, c1, D1, d1, A2, c2, D2, d2, rfl, p1, p2, p3, p4⟩ := hV
  obtain ⟨E1, e1, F1, f1, E2, e2, F2, f2, rfl, p5, p6, p7, p8⟩ := hU
  have Ha : VN w w.heap.size (.agg #[.bool r.s, .slice A1 r.a.length c1, .slice D1 r.b.length d1, .bool i.s, .slice A2 i.a.length c2, .slice D2 i.b.length d2]) r i := ⟨A1, c1, D1, d1, A2, c2, D2, d2, rfl, p1, p2, p3, p4⟩
  have Hb : VN w w.heap.size (.agg #[.bool r'.s, .slice E1 r'.a.length e1, .slice F1 r'.b.length f1, .bool i'.s, .slice E2 i'.a.length e2, .slice F2 i'.b.length f2]) r' i' := ⟨E1, e1, F1, f1, E2, e2, F2, f2, rfl, p5, p6, p7, p8⟩
  have k0 := D4.new w [.bool r.s, .slice A1 r.a.length c1, .slice D1 r.b.length d1, .bool i.s, .slice A2 i.a.length c2, .slice D2 i.b.length d2] [.bool r'.s, .slice E1 r'.a.length e1, .slice F1 r'.b.length f1, .bool i'.s, .slice E2 i'.a.length e2, .slice F2 i'.b.length f2] [.bool false, .slice none 0 0, .slice none 0 0, .bool false, .slice none 0 0, .slice none 0 0] [.bool false, .slice none 0 0, .slice none 0 0, .bool false, .slice none 0 0, .slice none 0 0] 26 26 26 26
  have C0 := k0.2.2.2.2
  clear p1 p2 p3 p4 p5 p6 p7 p8
  have hs1 := fun V w' h => resound_any V r i w' h
  have hs2 := fun V w' h => resound_any V r' i' w' h
  have hr1 := fun V w' h => rreal_any V r i w' h
  have hr2 := fun V w' h => rreal_any V r' i' w' h
  obtain ⟨t3, h3⟩ : ∃ t3, decide (i.a.length = 0) = t3 := ⟨_, rfl⟩
  obtain ⟨t4, h4⟩ : ∃ t4, decide (i'.a.length = 0) = t4 := ⟨_, rfl⟩
  have hck : chkN2 true r i r' i' = if nB r i = true ∧ nB r' i' = true then (if t3 = true ∧ t4 = true then 0 else 10) else 2 := by
    unfold chkN2
    by_cases hn : nB r i = true ∧ nB r' i' = true
    · rw [if_pos hn, if_pos hn]
      by_cases ha : i.a.length = 0 <;> by_cases hc : i'.a.length = 0 <;> simp [ha, hc, ← h3, ← h4] <;> omega
    · rw [if_neg hn, if_neg hn]
  rw [hck] at hb ⊢
  rw [h3] at hr1
  rw [h4] at hr2
  clear h3 h4 hck
  generalize nB r i = t1 at *
  generalize nB r' i' = t2 at *
  cases t1 with
  | false =>
    rw [if_neg (by simp)]
    clear hb
    have C3_ := k0.2.2.2.2
    have i0 := k0.1.cell 0
    have i1 := k0.1.cell 1
    have i2 := k0.1.cell 2
    have i3 := k0.1.cell 3
    have i4 := k0.1.cell 4
    have i5 := k0.1.cell 5
    go_enter Try.func21, Try.ntmps21
    go_wp2_with fail
    refine (hs1 _ _ (Ha.st C3_)).mono ?_; rintro e w3 ⟨rfl, B3⟩
    have k3 := k0.nx B3
    clear i0 i1 i2 i3 i4 i5
    have hR1 := k3.2.2.1
    have ky := k3.putq (.bool false) (.slice none 0 0) (.slice none 0 0) (.bool false) (.slice none 0 0) (.slice none 0 0)
    have sq := hR1.put6 (.bool false) (.slice none 0 0) (.slice none 0 0) (.bool false) (.slice none 0 0) (.slice none 0 0)
    obtain ⟨W1, hW1⟩ : ∃ W1, W1 = wr6 w3 (w.heap.size + 2) (.bool false) (.slice none 0 0) (.slice none 0 0) (.bool false) (.slice none 0 0) (.slice none 0 0) := ⟨_, rfl⟩
    rw [← hW1] at ky sq
    have hR2 := ky.2.2.2.1
    go_wp2_with ((refine wp_st6 rfl (.tmp 4) (.tmp 20) rfl _ rfl _ _ _ _ _ _ rfl hR1 rfl rfl rfl rfl rfl rfl ?_; rw [← hW1]; clear hW1; refine wp_st6 rfl (.tmp 5) (.tmp 21) rfl _ rfl _ _ _ _ _ _ rfl hR2 rfl rfl rfl rfl rfl rfl ?_))
    have kz := ky.putr (.bool false) (.slice none 0 0) (.slice none 0 0) (.bool false) (.slice none 0 0) (.slice none 0 0)
    have sq := sq.wr6 (r := w.heap.size + 3) (by omega) (.bool false) (.slice none 0 0) (.slice none 0 0) (.bool false) (.slice none 0 0) (.slice none 0 0)
    have sr := hR2.put6 (.bool false) (.slice none 0 0) (.slice none 0 0) (.bool false) (.slice none 0 0) (.slice none 0 0)
    have q0' := sq.cell 0
    have q1' := sq.cell 1
    have q2' := sq.cell 2
    have q3' := sq.cell 3
    have q4' := sq.cell 4
    have q5' := sq.cell 5
    have r0' := sr.cell 0
    have r1' := sr.cell 1
    have r2' := sr.cell 2
    have r3' := sr.cell 3
    have r4' := sr.cell 4
    have r5' := sr.cell 5
    refine bodyPost_ret (v := .tuple #[.agg #[.bool false, .slice none 0 0, .slice none 0 0, .bool false, .slice none 0 0, .slice none 0 0], .agg #[.bool false, .slice none 0 0, .slice none 0 0, .bool false, .slice none 0 0, .slice none 0 0], .int .i64 2]) (by simp [results, q0', q1', q2', q3', q4', q5', r0', r1', r2', r3', r4', r5', go_sem]) rfl ?_
    exact retNN_nil 2 kz.2.2.2.2
  | true =>
    cases t2 with
    | false =>
      rw [if_neg (by simp)]
      clear hb
      have C3_ := k0.2.2.2.2
      have i0 := k0.1.cell 0
      have i1 := k0.1.cell 1
      have i2 := k0.1.cell 2
      have i3 := k0.1.cell 3
      have i4 := k0.1.cell 4
      have i5 := k0.1.cell 5
      go_enter Try.func21, Try.ntmps21
      go_wp2_with fail
      refine (hs1 _ _ (Ha.st C3_)).mono ?_; rintro e w3 ⟨rfl, B3⟩
      have k3 := k0.nx B3
      clear i0 i1 i2 i3 i4 i5
      have C4_ := k3.2.2.2.2
      have i0 := k3.2.1.cell 0
      have i1 := k3.2.1.cell 1
      have i2 := k3.2.1.cell 2
      have i3 := k3.2.1.cell 3
      have i4 := k3.2.1.cell 4
      have i5 := k3.2.1.cell 5
      go_wp2_with fail
      refine (hs2 _ _ (Hb.st C4_)).mono ?_; rintro e w4 ⟨rfl, B4⟩
      have k4 := k3.nx B4
      clear i0 i1 i2 i3 i4 i5
      have hR1 := k4.2.2.1
      have ky := k4.putq (.bool false) (.slice none 0 0) (.slice none 0 0) (.bool false) (.slice none 0 0) (.slice none 0 0)
      have sq := hR1.put6 (.bool false) (.slice none 0 0) (.slice none 0 0) (.bool false) (.slice none 0 0) (.slice none 0 0)
      obtain ⟨W1, hW1⟩ : ∃ W1, W1 = wr6 w4 (w.heap.size + 2) (.bool false) (.slice none 0 0) (.slice none 0 0) (.bool false) (.slice none 0 0) (.slice none 0 0) := ⟨_, rfl⟩
      rw [← hW1] at ky sq
      have hR2 := ky.2.2.2.1
      go_wp2_with ((refine wp_st6 rfl (.tmp 4) (.tmp 20) rfl _ rfl _ _ _ _ _ _ rfl hR1 rfl rfl rfl rfl rfl rfl ?_; rw [← hW1]; clear hW1; refine wp_st6 rfl (.tmp 5) (.tmp 21) rfl _ rfl _ _ _ _ _ _ rfl hR2 rfl rfl rfl rfl rfl rfl ?_))
      have kz := ky.putr (.bool false) (.slice none 0 0) (.slice none 0 0) (.bool false) (.slice none 0 0) (.slice none 0 0)
      have sq := sq.wr6 (r := w.heap.size + 3) (by omega) (.bool false) (.slice none 0 0) (.slice none 0 0) (.bool false) (.slice none 0 0) (.slice none 0 0)
      have sr := hR2.put6 (.bool false) (.slice none 0 0) (.slice none 0 0) (.bool false) (.slice none 0 0) (.slice none 0 0)
      have q0' := sq.cell 0
      have q1' := sq.cell 1
      have q2' := sq.cell 2
      have q3' := sq.cell 3
      have q4' := sq.cell 4
      have q5' := sq.cell 5
      have r0' := sr.cell 0
      have r1' := sr.cell 1
      have r2' := sr.cell 2
      have r3' := sr.cell 3
      have r4' := sr.cell 4
      have r5' := sr.cell 5
      refine bodyPost_ret (v := .tuple #[.agg #[.bool false, .slice none 0 0, .slice none 0 0, .bool false, .slice none 0 0, .slice none 0 0], .agg #[.bool false, .slice none 0 0, .slice none 0 0, .bool false, .slice none 0 0, .slice none 0 0], .int .i64 2]) (by simp [results, q0', q1', q2', q3', q4', q5', r0', r1', r2', r3', r4', r5', go_sem]) rfl ?_
      exact retNN_nil 2 kz.2.2.2.2
    | true =>
      cases t3 with
      | false =>
        rw [if_pos ⟨rfl, rfl⟩, if_neg (by simp)]
        clear hb
        have C3_ := k0.2.2.2.2
        have i0 := k0.1.cell 0
        have i1 := k0.1.cell 1
        have i2 := k0.1.cell 2
        have i3 := k0.1.cell 3
        have i4 := k0.1.cell 4
        have i5 := k0.1.cell 5
        go_enter Try.func21, Try.ntmps21
        go_wp2_with fail
        refine (hs1 _ _ (Ha.st C3_)).mono ?_; rintro e w3 ⟨rfl, B3⟩
        have k3 := k0.nx B3
        clear i0 i1 i2 i3 i4 i5
        have C4_ := k3.2.2.2.2
        have i0 := k3.2.1.cell 0
        have i1 := k3.2.1.cell 1
        have i2 := k3.2.1.cell 2
        have i3 := k3.2.1.cell 3
        have i4 := k3.2.1.cell 4
        have i5 := k3.2.1.cell 5
        go_wp2_with fail
        refine (hs2 _ _ (Hb.st C4_)).mono ?_; rintro e w4 ⟨rfl, B4⟩
        have k4 := k3.nx B4
        clear i0 i1 i2 i3 i4 i5
        have C5_ := k4.2.2.2.2
        have i0 := k4.1.cell 0
        have i1 := k4.1.cell 1
        have i2 := k4.1.cell 2
        have i3 := k4.1.cell 3
        have i4 := k4.1.cell 4
        have i5 := k4.1.cell 5
        go_wp2_with fail
        refine (hr1 _ _ (Ha.st C5_)).mono ?_; rintro e w5 ⟨rfl, B5⟩
        have k5 := k4.nx B5
        clear i0 i1 i2 i3 i4 i5
        have hR1 := k5.2.2.1
        have ky := k5.putq (.bool false) (.slice none 0 0) (.slice none 0 0) (.bool false) (.slice none 0 0) (.slice none 0 0)
        have sq := hR1.put6 (.bool false) (.slice none 0 0) (.slice none 0 0) (.bool false) (.slice none 0 0) (.slice none 0 0)
        obtain ⟨W1, hW1⟩ : ∃ W1, W1 = wr6 w5 (w.heap.size + 2) (.bool false) (.slice none 0 0) (.slice none 0 0) (.bool false) (.slice none 0 0) (.slice none 0 0) := ⟨_, rfl⟩
        rw [← hW1] at ky sq
        have hR2 := ky.2.2.2.1
        go_wp2_with ((refine wp_st6 rfl (.tmp 4) (.tmp 30) rfl _ rfl _ _ _ _ _ _ rfl hR1 rfl rfl rfl rfl rfl rfl ?_; rw [← hW1]; clear hW1; refine wp_st6 rfl (.tmp 5) (.tmp 31) rfl _ rfl _ _ _ _ _ _ rfl hR2 rfl rfl rfl rfl rfl rfl ?_))
        have kz := ky.putr (.bool false) (.slice none 0 0) (.slice none 0 0) (.bool false) (.slice none 0 0) (.slice none 0 0)
        have sq := sq.wr6 (r := w.heap.size + 3) (by omega) (.bool false) (.slice none 0 0) (.slice none 0 0) (.bool false) (.slice none 0 0) (.slice none 0 0)
        have sr := hR2.put6 (.bool false) (.slice none 0 0) (.slice none 0 0) (.bool false) (.slice none 0 0) (.slice none 0 0)
        have q0' := sq.cell 0
        have q1' := sq.cell 1
        have q2' := sq.cell 2
        have q3' := sq.cell 3
        have q4' := sq.cell 4
        have q5' := sq.cell 5
        have r0' := sr.cell 0
        have r1' := sr.cell 1
        have r2' := sr.cell 2
        have r3' := sr.cell 3
        have r4' := sr.cell 4
        have r5' := sr.cell 5
        refine bodyPost_ret (v := .tuple #[.agg #[.bool false, .slice none 0 0, .slice none 0 0, .bool false, .slice none 0 0, .slice none 0 0], .agg #[.bool false, .slice none 0 0, .slice none 0 0, .bool false, .slice none 0 0, .slice none 0 0], .int .i64 10]) (by simp [results, q0', q1', q2', q3', q4', q5', r0', r1', r2', r3', r4', r5', go_sem]) rfl ?_
        exact retNN_nil 10 kz.2.2.2.2
      | true =>
        cases t4 with
        | true => exact absurd (by simp) hb
        | false =>
          rw [if_pos ⟨rfl, rfl⟩, if_neg (by simp)]
          clear hb
          have C3_ := k0.2.2.2.2
          have i0 := k0.1.cell 0
          have i1 := k0.1.cell 1
          have i2 := k0.1.cell 2
          have i3 := k0.1.cell 3
          have i4 := k0.1.cell 4
          have i5 := k0.1.cell 5
          go_enter Try.func21, Try.ntmps21
          go_wp2_with fail
          refine (hs1 _ _ (Ha.st C3_)).mono ?_; rintro e w3 ⟨rfl, B3⟩
          have k3 := k0.nx B3
          clear i0 i1 i2 i3 i4 i5
          have C4_ := k3.2.2.2.2
          have i0 := k3.2.1.cell 0
          have i1 := k3.2.1.cell 1
          have i2 := k3.2.1.cell 2
          have i3 := k3.2.1.cell 3
          have i4 := k3.2.1.cell 4
          have i5 := k3.2.1.cell 5
          go_wp2_with fail
          refine (hs2 _ _ (Hb.st C4_)).mono ?_; rintro e w4 ⟨rfl, B4⟩
          have k4 := k3.nx B4
          clear i0 i1 i2 i3 i4 i5
          have C5_ := k4.2.2.2.2
          have i0 := k4.1.cell 0
          have i1 := k4.1.cell 1
          have i2 := k4.1.cell 2
          have i3 := k4.1.cell 3
          have i4 := k4.1.cell 4
          have i5 := k4.1.cell 5
          go_wp2_with fail
          refine (hr1 _ _ (Ha.st C5_)).mono ?_; rintro e w5 ⟨rfl, B5⟩
          have k5 := k4.nx B5
          clear i0 i1 i2 i3 i4 i5
          have C6_ := k5.2.2.2.2
          have i0 := k5.2.1.cell 0
          have i1 := k5.2.1.cell 1
          have i2 := k5.2.1.cell 2
          have i3 := k5.2.1.cell 3
          have i4 := k5.2.1.cell 4
          have i5 := k5.2.1.cell 5
          go_wp2_with fail
          refine (hr2 _ _ (Hb.st C6_)).mono ?_; rintro e w6 ⟨rfl, B6⟩
          have k6 := k5.nx B6
          clear i0 i1 i2 i3 i4 i5
          have hR1 := k6.2.2.1
          have ky := k6.putq (.bool false) (.slice none 0 0) (.slice none 0 0) (.bool false) (.slice none 0 0) (.slice none 0 0)
          have sq := hR1.put6 (.bool false) (.slice none 0 0) (.slice none 0 0) (.bool false) (.slice none 0 0) (.slice none 0 0)
          obtain ⟨W1, hW1⟩ : ∃ W1, W1 = wr6 w6 (w.heap.size + 2) (.bool false) (.slice none 0 0) (.slice none 0 0) (.bool false) (.slice none 0 0) (.slice none 0 0) := ⟨_, rfl⟩
          rw [← hW1] at ky sq
          have hR2 := ky.2.2.2.1
          go_wp2_with ((refine wp_st6 rfl (.tmp 4) (.tmp 30) rfl _ rfl _ _ _ _ _ _ rfl hR1 rfl rfl rfl rfl rfl rfl ?_; rw [← hW1]; clear hW1; refine wp_st6 rfl (.tmp 5) (.tmp 31) rfl _ rfl _ _ _ _ _ _ rfl hR2 rfl rfl rfl rfl rfl rfl ?_))
          have kz := ky.putr (.bool false) (.slice none 0 0) (.slice none 0 0) (.bool false) (.slice none 0 0) (.slice none 0 0)
          have sq := sq.wr6 (r := w.heap.size + 3) (by omega) (.bool false) (.slice none 0 0) (.slice none 0 0) (.bool false) (.slice none 0 0) (.slice none 0 0)
          have sr := hR2.put6 (.bool false) (.slice none 0 0) (.slice none 0 0) (.bool false) (.slice none 0 0) (.slice none 0 0)
          have q0' := sq.cell 0
          have q1' := sq.cell 1
          have q2' := sq.cell 2
          have q3' := sq.cell 3
          have q4' := sq.cell 4
          have q5' := sq.cell 5
          have r0' := sr.cell 0
          have r1' := sr.cell 1
          have r2' := sr.cell 2
          have r3' := sr.cell 3
          have r4' := sr.cell 4
          have r5' := sr.cell 5
          refine bodyPost_ret (v := .tuple #[.agg #[.bool false, .slice none 0 0, .slice none 0 0, .bool false, .slice none 0 0, .slice none 0 0], .agg #[.bool false, .slice none 0 0, .slice none 0 0, .bool false, .slice none 0 0, .slice none 0 0], .int .i64 10]) (by simp [results, q0', q1', q2', q3', q4', q5', r0', r1', r2', r3', r4', r5', go_sem]) rfl ?_
          exact retNN_nil 10 kz.2.2.2.2


set_option maxRecDepth 100000 in
set_option maxHeartbeats 8000000 in
theorem rdm_zero (V U : Value) (x y u v : Rat) (w : World) (hV : RN w w.heap.size V x y) (hU : RN w w.heap.size U u v) (bx : qw x ≤ 512) (by_ : qw y ≤ 512) (bu : qw u ≤ 512) (bv : qw v ≤ 512) (hy : (rwq y).a = []) (hv : (rwq v).a = []) (h0 : u = 0 ∧ v = 0) :
    Calls Try.prog 21 #[V, U] w (RetNN w (dm0 3)) := by
  have hs1 := fun V w' h => resound_any V (rwq x) (rwq y) w' h
  have hs2 := fun V w' h => resound_any V (rwq u) (rwq v) w' h
  rw [nB_rwq bx by_] at hs1
  rw [nB_rwq bu bv] at hs2
  have hr1 := fun V w' h => rreal_any V (rwq x) (rwq y) w' h
  have hr2 := fun V w' h => rreal_any V (rwq u) (rwq v) w' h
  rw [hy, decide_eq_true (show ([] : List Nat).length = 0 from rfl)] at hr1
  rw [hv, decide_eq_true (show ([] : List Nat).length = 0 from rfl)] at hr2
  have hZ := fun V w' h => risZero_any V (rwq u) (rwq v) w' h
  rw [zeroB_q, decide_eq_true h0] at hZ
  obtain ⟨A1, c1, D1, d1, A2, c2, D2, d2, rfl, p1, p2, p3, p4⟩ := hV
  obtain ⟨E1, e1, F1, f1, E2, e2, F2, f2, rfl, p5, p6, p7, p8⟩ := hU
  have Ha : VN w w.heap.size (.agg #[.bool (qn x), .slice A1 (digs (qt x)).length c1, .slice D1 (digs (qd x)).length d1, .bool (qn y), .slice A2 (digs (qt y)).length c2, .slice D2 (digs (qd y)).length d2]) (rwq x) (rwq y) := ⟨A1, c1, D1, d1, A2, c2, D2, d2, rfl, p1, p2, p3, p4⟩
  have Hb : VN w w.heap.size (.agg #[.bool (qn u), .slice E1 (digs (qt u)).length e1, .slice F1 (digs (qd u)).length f1, .bool (qn v), .slice E2 (digs (qt v)).length e2, .slice F2 (digs (qd v)).length f2]) (rwq u) (rwq v) := ⟨E1, e1, F1, f1, E2, e2, F2, f2, rfl, p5, p6, p7, p8⟩
  have k0 := D4.new w [.bool (qn x), .slice A1 (digs (qt x)).length c1, .slice D1 (digs (qd x)).length d1, .bool (qn y), .slice A2 (digs (qt y)).length c2, .slice D2 (digs (qd y)).length d2] [.bool (qn u), .slice E1 (digs (qt u)).length e1, .slice F1 (digs (qd u)).length f1, .bool (qn v), .slice E2 (digs (qt v)).length e2, .slice F2 (digs (qd v)).length f2] [.bool false, .slice none 0 0, .slice none 0 0, .bool false, .slice none 0 0, .slice none 0 0] [.bool false, .slice none 0 0, .slice none 0 0, .bool false, .slice none 0 0, .slice none 0 0] 26 26 26 26
  have C0 := k0.2.2.2.2
  clear p1 p2 p3 p4 p5 p6 p7 p8 bx by_ bu bv hy hv h0
  have C3_ := k0.2.2.2.2
  have i0 := k0.1.cell 0
  have i1 := k0.1.cell 1
  have i2 := k0.1.cell 2
  have i3 := k0.1.cell 3
  have i4 := k0.1.cell 4
  have i5 := k0.1.cell 5
  go_enter Try.func21, Try.ntmps21
  go_wp2_with fail
  refine (hs1 _ _ (Ha.st C3_)).mono ?_; rintro e w3 ⟨rfl, B3⟩
  have k3 := k0.nx B3
  clear i0 i1 i2 i3 i4 i5
  have C4_ := k3.2.2.2.2
  have i0 := k3.2.1.cell 0
  have i1 := k3.2.1.cell 1
  have i2 := k3.2.1.cell 2
  have i3 := k3.2.1.cell 3
  have i4 := k3.2.1.cell 4
  have i5 := k3.2.1.cell 5
  go_wp2_with fail
  refine (hs2 _ _ (Hb.st C4_)).mono ?_; rintro e w4 ⟨rfl, B4⟩
  have k4 := k3.nx B4
  clear i0 i1 i2 i3 i4 i5
  have C5_ := k4.2.2.2.2
  have i0 := k4.1.cell 0
  have i1 := k4.1.cell 1
  have i2 := k4.1.cell 2
  have i3 := k4.1.cell 3
  have i4 := k4.1.cell 4
  have i5 := k4.1.cell 5
  go_wp2_with fail
  refine (hr1 _ _ (Ha.st C5_)).mono ?_; rintro e w5 ⟨rfl, B5⟩
  have k5 := k4.nx B5
  clear i0 i1 i2 i3 i4 i5
  have C6_ := k5.2.2.2.2
  have i0 := k5.2.1.cell 0
  have i1 := k5.2.1.cell 1
  have i2 := k5.2.1.cell 2
  have i3 := k5.2.1.cell 3
  have i4 := k5.2.1.cell 4
  have i5 := k5.2.1.cell 5
  go_wp2_with fail
  refine (hr2 _ _ (Hb.st C6_)).mono ?_; rintro e w6 ⟨rfl, B6⟩
  have k6 := k5.nx B6
  clear i0 i1 i2 i3 i4 i5
  have C7_ := k6.2.2.2.2
  have i0 := k6.2.1.cell 0
  have i1 := k6.2.1.cell 1
  have i2 := k6.2.1.cell 2
  have i3 := k6.2.1.cell 3
  have i4 := k6.2.1.cell 4
  have i5 := k6.2.1.cell 5
  go_wp2_with fail
  refine (hZ _ _ (Hb.st C7_)).mono ?_; rintro e w7 ⟨rfl, B7⟩
  have k7 := k6.nx B7
  clear i0 i1 i2 i3 i4 i5
  have hR1 := k7.2.2.1
  have ky := k7.putq (.bool false) (.slice none 0 0) (.slice none 0 0) (.bool false) (.slice none 0 0) (.slice none 0 0)
  have sq := hR1.put6 (.bool false) (.slice none 0 0) (.slice none 0 0) (.bool false) (.slice none 0 0) (.slice none 0 0)
  obtain ⟨W1, hW1⟩ : ∃ W1, W1 = wr6 w7 (w.heap.size + 2) (.bool false) (.slice none 0 0) (.slice none 0 0) (.bool false) (.slice none 0 0) (.slice none 0 0) := ⟨_, rfl⟩
  rw [← hW1] at ky sq
  have hR2 := ky.2.2.2.1
  go_wp2_with ((refine wp_st6 rfl (.tmp 4) (.tmp 34) rfl _ rfl _ _ _ _ _ _ rfl hR1 rfl rfl rfl rfl rfl rfl ?_; rw [← hW1]; clear hW1; refine wp_st6 rfl (.tmp 5) (.tmp 35) rfl _ rfl _ _ _ _ _ _ rfl hR2 rfl rfl rfl rfl rfl rfl ?_))
  have kz := ky.putr (.bool false) (.slice none 0 0) (.slice none 0 0) (.bool false) (.slice none 0 0) (.slice none 0 0)
  have sq := sq.wr6 (r := w.heap.size + 3) (by omega) (.bool false) (.slice none 0 0) (.slice none 0 0) (.bool false) (.slice none 0 0) (.slice none 0 0)
  have sr := hR2.put6 (.bool false) (.slice none 0 0) (.slice none 0 0) (.bool false) (.slice none 0 0) (.slice none 0 0)
  have q0' := sq.cell 0
  have q1' := sq.cell 1
  have q2' := sq.cell 2
  have q3' := sq.cell 3
  have q4' := sq.cell 4
  have q5' := sq.cell 5
  have r0' := sr.cell 0
  have r1' := sr.cell 1
  have r2' := sr.cell 2
  have r3' := sr.cell 3
  have r4' := sr.cell 4
  have r5' := sr.cell 5
  refine bodyPost_ret (v := .tuple #[.agg #[.bool false, .slice none 0 0, .slice none 0 0, .bool false, .slice none 0 0, .slice none 0 0], .agg #[.bool false, .slice none 0 0, .slice none 0 0, .bool false, .slice none 0 0, .slice none 0 0], .int .i64 3]) (by simp [results, q0', q1', q2', q3', q4', q5', r0', r1', r2', r3', r4', r5', go_sem]) rfl ?_
  exact retNN_nil 3 kz.2.2.2.2

end Go.Proofs.Ytdkejndagicgjaa
