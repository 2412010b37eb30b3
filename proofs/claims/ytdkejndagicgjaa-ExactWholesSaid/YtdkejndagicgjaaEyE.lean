/- Walks: the reference's Floor. -/
import Derived.Test.YtdkejndagicgjaaEyD
import Derived.Test.YtdkejndagicgjaaExH
import Derived.Test.YtdkejndagicgjaaGO
namespace Go.Proofs.Ytdkejndagicgjaa
open Go.RowKit

theorem qv_nil {y : Rat} (h : (rwq y).a = []) : y = 0 := by
  have h1 : (digs (qt y)).length = 0 := by rw [show digs (qt y) = [] from h]; rfl
  exact qt_zero.1 (digs_len0.1 h1)
theorem chkN1_eq (r i : Rw) : chkN1 true r i = if nB r i = true then (if i.a.length = 0 then 0 else 10) else 2 := by
  unfold chkN1
  by_cases h : nB r i = true
  · rw [if_pos h, if_pos h]
    by_cases h2 : i.a.length = 0
    · rw [if_neg (by omega), if_pos h2]
    · rw [if_pos ⟨rfl, by omega⟩, if_neg h2]
  · rw [if_neg h, if_neg h]


set_option maxRecDepth 100000 in
set_option maxHeartbeats 4000000 in
theorem rfloor_bad (V : Value) (r i : Rw) (w : World) (hV : VN w w.heap.size V r i) (hb : ¬ (nB r i = true ∧ i.a.length = 0)) :
    Calls Try.prog 19 #[V] w (RetNE w (rw0, rw0, if nB r i = true then 10 else 2)) := by
  obtain ⟨A1, c1, D1, d1, A2, c2, D2, d2, rfl, p1, p2, p3, p4⟩ := hV
  have Ha : VN w w.heap.size (.agg #[.bool r.s, .slice A1 r.a.length c1, .slice D1 r.b.length d1, .bool i.s, .slice A2 i.a.length c2, .slice D2 i.b.length d2]) r i := ⟨A1, c1, D1, d1, A2, c2, D2, d2, rfl, p1, p2, p3, p4⟩
  have k0 := S2.new w [.bool r.s, .slice A1 r.a.length c1, .slice D1 r.b.length d1, .bool i.s, .slice A2 i.a.length c2, .slice D2 i.b.length d2] [.bool false, .slice none 0 0, .slice none 0 0, .bool false, .slice none 0 0, .slice none 0 0] 26 26 6
  have C0 := k0.2.2
  have i0 := k0.1.cell 0
  have i1 := k0.1.cell 1
  have i2 := k0.1.cell 2
  have i3 := k0.1.cell 3
  have i4 := k0.1.cell 4
  have i5 := k0.1.cell 5
  have hs1 := fun V w' h => resound_any V r i w' h
  have hr1 := fun V w' h => rreal_any V r i w' h
  obtain ⟨t2, h2⟩ : ∃ t2, decide (i.a.length = 0) = t2 := ⟨_, rfl⟩
  have hb2 : ¬ (nB r i = true ∧ t2 = true) := fun ⟨x, y⟩ => hb ⟨x, of_decide_eq_true (h2.trans y)⟩
  rw [h2] at hr1
  clear h2 hb
  generalize nB r i = t1 at *
  cases t1 with
  | false =>
    rw [if_neg (by simp)]
    clear hb2
    go_enter Try.func19, Try.ntmps19
    go_wp2_with fail
    refine (hs1 _ _ (Ha.st C0)).mono ?_; rintro e w3 ⟨rfl, B3⟩
    have k3 := k0.nx B3
    clear i0 i1 i2 i3 i4 i5
    have hRC := k3.2.1
    go_wp2_with (refine wp_st6 rfl (.tmp 2) (.tmp 7) rfl _ rfl _ _ _ _ _ _ rfl hRC rfl rfl rfl rfl rfl rfl ?_)
    have s6 := hRC.put6 (.bool false) (.slice none 0 0) (.slice none 0 0) (.bool false) (.slice none 0 0) (.slice none 0 0)
    have B6 := wr6_below (b := w.heap.size + 1) k3.2.2 (by omega) (.bool false) (.slice none 0 0) (.slice none 0 0) (.bool false) (.slice none 0 0) (.slice none 0 0)
    have r0' := s6.cell 0
    have r1' := s6.cell 1
    have r2' := s6.cell 2
    have r3' := s6.cell 3
    have r4' := s6.cell 4
    have r5' := s6.cell 5
    refine bodyPost_ret (v := .tuple #[.agg #[.bool false, .slice none 0 0, .slice none 0 0, .bool false, .slice none 0 0, .slice none 0 0], .int .i64 2]) (by simp [results, r0', r1', r2', r3', r4', r5', go_sem]) rfl ?_
    exact retNE_nil 2 B6
  | true =>
    cases t2 with
    | true => exact absurd ⟨rfl, rfl⟩ hb2
    | false =>
      rw [if_pos rfl]
      clear hb2
      go_enter Try.func19, Try.ntmps19
      go_wp2_with fail
      refine (hs1 _ _ (Ha.st C0)).mono ?_; rintro e w3 ⟨rfl, B3⟩
      have k3 := k0.nx B3
      clear i0 i1 i2 i3 i4 i5
      have C3 := k3.2.2
      have j0 := k3.1.cell 0
      have j1 := k3.1.cell 1
      have j2 := k3.1.cell 2
      have j3 := k3.1.cell 3
      have j4 := k3.1.cell 4
      have j5 := k3.1.cell 5
      go_wp2_with fail
      refine (hr1 _ _ (Ha.st C3)).mono ?_; rintro e w4 ⟨rfl, B4⟩
      have k4 := k3.nx B4
      clear j0 j1 j2 j3 j4 j5
      have hRC := k4.2.1
      go_wp2_with (refine wp_st6 rfl (.tmp 2) (.tmp 11) rfl _ rfl _ _ _ _ _ _ rfl hRC rfl rfl rfl rfl rfl rfl ?_)
      have s6 := hRC.put6 (.bool false) (.slice none 0 0) (.slice none 0 0) (.bool false) (.slice none 0 0) (.slice none 0 0)
      have B6 := wr6_below (b := w.heap.size + 1) k4.2.2 (by omega) (.bool false) (.slice none 0 0) (.slice none 0 0) (.bool false) (.slice none 0 0) (.slice none 0 0)
      have r0' := s6.cell 0
      have r1' := s6.cell 1
      have r2' := s6.cell 2
      have r3' := s6.cell 3
      have r4' := s6.cell 4
      have r5' := s6.cell 5
      refine bodyPost_ret (v := .tuple #[.agg #[.bool false, .slice none 0 0, .slice none 0 0, .bool false, .slice none 0 0, .slice none 0 0], .int .i64 10]) (by simp [results, r0', r1', r2', r3', r4', r5', go_sem]) rfl ?_
      exact retNE_nil 10 B6


set_option maxRecDepth 100000 in
set_option maxHeartbeats 4000000 in
theorem rfloor_ok (V : Value) (x y : Rat) (w : World) (hV : RN w w.heap.size V x y) (bx : qw x ≤ 512) (by_ : qw y ≤ 512) (hy : (rwq y).a.length = 0) :
    Calls Try.prog 19 #[V] w (RetNE w (fitQ ((flr x : Int) : Rat) 0)) := by
  have hs1 := fun V w' h => resound_any V (rwq x) (rwq y) w' h
  rw [nB_rwq bx by_] at hs1
  have hr1 := fun V w' h => rreal_any V (rwq x) (rwq y) w' h
  rw [decide_eq_true hy] at hr1
  have hL := fun V w' h => refdown_any V x w' h (by omega)
  obtain ⟨q, hq⟩ : ∃ q : Rat, Hid (((flr x : Int) : Rat) = q) := ⟨_, rfl⟩
  rw [hq.out] at hL ⊢
  have hF := fun A1 D1 A2 D2 c1 d1 c2 d2 base w' h1 h2 h3 h4 => rfitq_any q 0 A1 D1 A2 D2 c1 d1 c2 d2 base w' h1 h2 h3 h4
  have e1 : qn (0 : Rat) = false := rfl
  have e2 : digs (qt (0 : Rat)) = [] := digs_zero
  have e3 : digs (qd (0 : Rat)) = [1] := digs_one1
  simp only [rwq, e1, e2, e3, List.length_nil, List.length_cons, Nat.zero_add] at hF
  generalize fitQ q 0 = ft at *
  obtain ⟨fr, fi, fk⟩ := ft
  obtain ⟨A1, c1, D1, d1, A2, c2, D2, d2, rfl, p1, p2, p3, p4⟩ := hV
  have Ha : VN w w.heap.size (.agg #[.bool (qn x), .slice A1 (digs (qt x)).length c1, .slice D1 (digs (qd x)).length d1, .bool (qn y), .slice A2 (digs (qt y)).length c2, .slice D2 (digs (qd y)).length d2]) (rwq x) (rwq y) := ⟨A1, c1, D1, d1, A2, c2, D2, d2, rfl, p1, p2, p3, p4⟩
  simp only [rwq] at p1 p2 p3 p4
  have hx : RQ w w.heap.size (.agg #[.bool (qn x), .slice A1 (digs (qt x)).length c1, .slice D1 (digs (qd x)).length d1]) x := ⟨A1, c1, D1, d1, rfl, p1, p2⟩
  have k0 := S2.new w [.bool (qn x), .slice A1 (digs (qt x)).length c1, .slice D1 (digs (qd x)).length d1, .bool (qn y), .slice A2 (digs (qt y)).length c2, .slice D2 (digs (qd y)).length d2] [.bool false, .slice none 0 0, .slice none 0 0, .bool false, .slice none 0 0, .slice none 0 0] 26 26 6
  have C0 := k0.2.2
  have i0 := k0.1.cell 0
  have i1 := k0.1.cell 1
  have i2 := k0.1.cell 2
  have i3 := k0.1.cell 3
  have i4 := k0.1.cell 4
  have i5 := k0.1.cell 5
  clear e1 e2 e3 hq hy bx by_ p1 p2 p3 p4
  go_enter Try.func19, Try.ntmps19
  go_wp2_with fail
  refine (hs1 _ _ (Ha.st C0)).mono ?_; rintro e w3 ⟨rfl, B3⟩
  have k3 := k0.nx B3
  clear i0 i1 i2 i3 i4 i5
  have C3 := k3.2.2
  have j0 := k3.1.cell 0
  have j1 := k3.1.cell 1
  have j2 := k3.1.cell 2
  have j3 := k3.1.cell 3
  have j4 := k3.1.cell 4
  have j5 := k3.1.cell 5
  go_wp2_with fail
  refine (hr1 _ _ (Ha.st C3)).mono ?_; rintro e w4 ⟨rfl, B4⟩
  have k4 := k3.nx B4
  clear j0 j1 j2 j3 j4 j5
  have C4 := k4.2.2
  have sz := k4.2.1.2
  have j0 := k4.1.cell 0
  have j1 := k4.1.cell 1
  have j2 := k4.1.cell 2
  go_wp2_with fail
  refine (hL _ _ (hx.st C4)).mono ?_; rintro e w5 ⟨A5, c5, D5, d5, rfl, O1, O2, B5⟩
  have k5 := k4.nx B5
  clear j0 j1 j2 hL
  go_wp2_with fail
  refine (rzero_any _).mono ?_; rintro e w6 ⟨D6, d6, rfl, O3, B6⟩
  have k6 := k5.nx B6
  have O1 := O1.below B6 (Nat.le_refl _)
  have O2 := O2.below B6 (Nat.le_refl _)
  have O3 := O3.base_le B5.size
  go_wp2_with fail
  refine (hF _ _ none _ _ _ 0 _ _ _ O1 O2 (OW.nil _ _) O3).mono ?_; rintro e w7 ⟨A7, c7, D7, d7, A8, c8, D8, d8, rfl, Q1, Q2, Q3, Q4, B7⟩
  dsimp only at Q1 Q2 Q3 Q4
  clear O1 O2 O3 hF
  have kk := k6.nx B7
  have hRC := kk.2.1
  go_wp2_with (refine wp_st6 rfl (.tmp 2) (.tmp 18) rfl _ rfl _ _ _ _ _ _ rfl hRC rfl rfl rfl rfl rfl rfl ?_)
  have s6 := hRC.put6 (.bool fr.s) (.slice A7 fr.a.length c7) (.slice D7 fr.b.length d7) (.bool fi.s) (.slice A8 fi.a.length c8) (.slice D8 fi.b.length d8)
  have B6 := wr6_below (b := w.heap.size + 1) kk.2.2 (by omega) (.bool fr.s) (.slice A7 fr.a.length c7) (.slice D7 fr.b.length d7) (.bool fi.s) (.slice A8 fi.a.length c8) (.slice D8 fi.b.length d8)
  have O1 := Q1.put6 (b := w.heap.size + 1) sz (.bool fr.s) (.slice A7 fr.a.length c7) (.slice D7 fr.b.length d7) (.bool fi.s) (.slice A8 fi.a.length c8) (.slice D8 fi.b.length d8)
  have O2 := Q2.put6 (b := w.heap.size + 1) sz (.bool fr.s) (.slice A7 fr.a.length c7) (.slice D7 fr.b.length d7) (.bool fi.s) (.slice A8 fi.a.length c8) (.slice D8 fi.b.length d8)
  have O3 := Q3.put6 (b := w.heap.size + 1) sz (.bool fr.s) (.slice A7 fr.a.length c7) (.slice D7 fr.b.length d7) (.bool fi.s) (.slice A8 fi.a.length c8) (.slice D8 fi.b.length d8)
  have O4 := Q4.put6 (b := w.heap.size + 1) sz (.bool fr.s) (.slice A7 fr.a.length c7) (.slice D7 fr.b.length d7) (.bool fi.s) (.slice A8 fi.a.length c8) (.slice D8 fi.b.length d8)
  have r0' := s6.cell 0
  have r1' := s6.cell 1
  have r2' := s6.cell 2
  have r3' := s6.cell 3
  have r4' := s6.cell 4
  have r5' := s6.cell 5
  refine bodyPost_ret (v := .tuple #[.agg #[.bool fr.s, .slice A7 fr.a.length c7, .slice D7 fr.b.length d7, .bool fi.s, .slice A8 fi.a.length c8, .slice D8 fi.b.length d8], .int .i64 fk]) (by simp [results, r0', r1', r2', r3', r4', r5', go_sem]) rfl ?_
  have hle := Nat.le_of_lt (Nat.lt_of_succ_lt sz)
  exact ⟨A7, c7, D7, d7, A8, c8, D8, d8, rfl, O1.base_le hle, O2.base_le hle, O3.base_le hle, O4.base_le hle, B6⟩

theorem rfloorn_any {V : Value} {r i : Rw} {w : World} (hV : VN w w.heap.size V r i) :
    Calls Try.prog 19 #[V] w (RetNE w (qfloorA r i)) := by
  unfold qfloorA
  rw [chkN1_eq]
  by_cases h : nB r i = true ∧ i.a.length = 0
  · rw [if_pos h.1, if_pos h.2, if_pos rfl]
    obtain ⟨x, y, rfl, rfl, h1, h2⟩ := nB_rat h.1
    rw [qv_rwq, qv_rwq, qv_nil (List.eq_nil_of_length_eq_zero h.2)]
    exact rfloor_ok V x y w hV h1 h2 h.2
  · have hb := rfloor_bad V r i w hV h
    by_cases h1 : nB r i = true
    · have h2 : ¬ i.a.length = 0 := fun h2 => h ⟨h1, h2⟩
      rw [if_pos h1] at hb ⊢
      rw [if_neg h2, if_neg (by omega)]
      exact hb
    · rw [if_neg h1] at hb ⊢
      rw [if_neg (by omega)]
      exact hb
end Go.Proofs.Ytdkejndagicgjaa
