/- Walks: Floor of exact. -/
import Derived.Test.YtdkejndagicgjaaGM
namespace Go.Proofs.Ytdkejndagicgjaa
open Go.RowKit

def qfloorA (r i : Rw) : Rw × Rw × Int := if chkN1 true r i = 0 then fitQ ((flr (qv r) : Int) : Rat) (qv i) else (rw0, rw0, chkN1 true r i)
theorem chkN1_zero {r i : Rw} (h : chkN1 true r i = 0) : nB r i = true ∧ i.a = [] := by
  unfold chkN1 at h
  split at h
  · next hn =>
    split at h
    · cases h
    · next hq => exact ⟨hn, List.eq_nil_of_length_eq_zero (by have := not_and.1 hq rfl; omega)⟩
  · cases h


set_option maxRecDepth 100000 in
set_option maxHeartbeats 4000000 in
theorem efloorn_bad (V : Value) (r i : Rw) (w : World) (hV : VN w w.heap.size V r i) (hb : ¬ chkN1 true r i = 0) :
    Calls Try.prog 18 #[V] w (RetNE w (rw0, rw0, chkN1 true r i)) := by
  obtain ⟨s1, a1, b1⟩ := r
  obtain ⟨s2, a2, b2⟩ := i
  obtain ⟨A1, c1, D1, d1, A2, c2, D2, d2, rfl, p1, p2, p3, p4⟩ := hV
  dsimp only at p1 p2 p3 p4 ⊢
  have k0 := S2.new w [.bool s1, .slice A1 a1.length c1, .slice D1 b1.length d1, .bool s2, .slice A2 a2.length c2, .slice D2 b2.length d2] [.bool false, .slice none 0 0, .slice none 0 0, .bool false, .slice none 0 0, .slice none 0 0] 26 26 6
  have C0 := k0.2.2
  have z3 : ((w.alloc (.cells #[.bool s1, .slice A1 a1.length c1, .slice D1 b1.length d1, .bool s2, .slice A2 a2.length c2, .slice D2 b2.length d2] 26)).alloc (.cells #[.bool false, .slice none 0 0, .slice none 0 0, .bool false, .slice none 0 0, .slice none 0 0] 26)).heap.size = w.heap.size + 2 := by simp
  have Bs := bal ((w.alloc (.cells #[.bool s1, .slice A1 a1.length c1, .slice D1 b1.length d1, .bool s2, .slice A2 a2.length c2, .slice D2 b2.length d2] 26)).alloc (.cells #[.bool false, .slice none 0 0, .slice none 0 0, .bool false, .slice none 0 0, .slice none 0 0] 26)) (.cells #[.bool s1, .slice A1 a1.length c1, .slice D1 b1.length d1, .bool s2, .slice A2 a2.length c2, .slice D2 b2.length d2] 26)
  have sg := SB.new ((w.alloc (.cells #[.bool s1, .slice A1 a1.length c1, .slice D1 b1.length d1, .bool s2, .slice A2 a2.length c2, .slice D2 b2.length d2] 26)).alloc (.cells #[.bool false, .slice none 0 0, .slice none 0 0, .bool false, .slice none 0 0, .slice none 0 0] 26)) [.bool s1, .slice A1 a1.length c1, .slice D1 b1.length d1, .bool s2, .slice A2 a2.length c2, .slice D2 b2.length d2] 26
  rw [z3] at sg
  have C1 := bt C0 Bs
  have k1 := k0.nx Bs
  have hck := check1x_any true (w.heap.size + 2) _ _ _ _ _ _ _ _ _ _ _ _ _ _ _ sg (st p1 C1) (st p2 C1) (st p3 C1) (st p4 C1)
  generalize chkN1 true ⟨s1, a1, b1⟩ ⟨s2, a2, b2⟩ = k at *
  have hb2 : (k == 0) = false := beq_eq_false_iff_ne.2 hb
  clear sg p1 p2 p3 p4
  go_enter Try.func18, Try.ntmps18
  go_wp2_with fail
  refine hck.mono ?_; rintro e w3 ⟨rfl, B3⟩
  clear hck
  have k3 := k1.nx B3
  have hRC := k3.2.1
  go_wp2_with (refine wp_st6 rfl (.tmp 2) (.tmp 10) rfl _ rfl _ _ _ _ _ _ rfl hRC rfl rfl rfl rfl rfl rfl ?_)
  have s6 := hRC.put6 (.bool false) (.slice none 0 0) (.slice none 0 0) (.bool false) (.slice none 0 0) (.slice none 0 0)
  have B6 := wr6_below (b := w.heap.size + 1) k3.2.2 (by omega) (.bool false) (.slice none 0 0) (.slice none 0 0) (.bool false) (.slice none 0 0) (.slice none 0 0)
  have r0' := s6.cell 0
  have r1' := s6.cell 1
  have r2' := s6.cell 2
  have r3' := s6.cell 3
  have r4' := s6.cell 4
  have r5' := s6.cell 5
  refine bodyPost_ret (v := .tuple #[.agg #[.bool false, .slice none 0 0, .slice none 0 0, .bool false, .slice none 0 0, .slice none 0 0], .int .i64 k]) (by simp [results, r0', r1', r2', r3', r4', r5', go_sem]) rfl ?_
  exact retNE_nil k B6


set_option maxRecDepth 100000 in
set_option maxHeartbeats 16000000 in
theorem efloorn_ok (V : Value) (x y : Rat) (w : World) (hV : RN w w.heap.size V x y) (bx : qw x ≤ 512) (hz : chkN1 true (rwq x) (rwq y) = 0) :
    Calls Try.prog 18 #[V] w (RetNE w (fitQ ((flr x : Int) : Rat) y)) := by
  obtain ⟨A1, c1, D1, d1, A2, c2, D2, d2, rfl, p1, p2, p3, p4⟩ := hV
  simp only [rwq] at p1 p2 p3 p4 hz ⊢
  have hx : RQ w w.heap.size (.agg #[.bool (qn x), .slice A1 (digs (qt x)).length c1, .slice D1 (digs (qd x)).length d1]) x := ⟨A1, c1, D1, d1, rfl, p1, p2⟩
  have hy : RQ w w.heap.size (.agg #[.bool (qn y), .slice A2 (digs (qt y)).length c2, .slice D2 (digs (qd y)).length d2]) y := ⟨A2, c2, D2, d2, rfl, p3, p4⟩
  have k0 := S2.new w [.bool (qn x), .slice A1 (digs (qt x)).length c1, .slice D1 (digs (qd x)).length d1, .bool (qn y), .slice A2 (digs (qt y)).length c2, .slice D2 (digs (qd y)).length d2] [.bool false, .slice none 0 0, .slice none 0 0, .bool false, .slice none 0 0, .slice none 0 0] 26 26 6
  have C0 := k0.2.2
  have z3 : ((w.alloc (.cells #[.bool (qn x), .slice A1 (digs (qt x)).length c1, .slice D1 (digs (qd x)).length d1, .bool (qn y), .slice A2 (digs (qt y)).length c2, .slice D2 (digs (qd y)).length d2] 26)).alloc (.cells #[.bool false, .slice none 0 0, .slice none 0 0, .bool false, .slice none 0 0, .slice none 0 0] 26)).heap.size = w.heap.size + 2 := by simp
  have Bs := bal ((w.alloc (.cells #[.bool (qn x), .slice A1 (digs (qt x)).length c1, .slice D1 (digs (qd x)).length d1, .bool (qn y), .slice A2 (digs (qt y)).length c2, .slice D2 (digs (qd y)).length d2] 26)).alloc (.cells #[.bool false, .slice none 0 0, .slice none 0 0, .bool false, .slice none 0 0, .slice none 0 0] 26)) (.cells #[.bool (qn x), .slice A1 (digs (qt x)).length c1, .slice D1 (digs (qd x)).length d1, .bool (qn y), .slice A2 (digs (qt y)).length c2, .slice D2 (digs (qd y)).length d2] 26)
  have sg := SB.new ((w.alloc (.cells #[.bool (qn x), .slice A1 (digs (qt x)).length c1, .slice D1 (digs (qd x)).length d1, .bool (qn y), .slice A2 (digs (qt y)).length c2, .slice D2 (digs (qd y)).length d2] 26)).alloc (.cells #[.bool false, .slice none 0 0, .slice none 0 0, .bool false, .slice none 0 0, .slice none 0 0] 26)) [.bool (qn x), .slice A1 (digs (qt x)).length c1, .slice D1 (digs (qd x)).length d1, .bool (qn y), .slice A2 (digs (qt y)).length c2, .slice D2 (digs (qd y)).length d2] 26
  rw [z3] at sg
  have C1 := bt C0 Bs
  have k1 := k0.nx Bs
  have hck := check1x_any true (w.heap.size + 2) _ _ _ _ _ _ _ _ _ _ _ _ _ _ _ sg (st p1 C1) (st p2 C1) (st p3 C1) (st p4 C1)
  rw [hz] at hck
  have hL := fun V w' h => efloor_any V x w' h (by omega)
  obtain ⟨q, hq⟩ : ∃ q : Rat, Hid (((flr x : Int) : Rat) = q) := ⟨_, rfl⟩
  rw [hq.out] at hL ⊢
  have hF := fun V U w' h1 h2 => efit_any V U q y w' h1 h2
  generalize fitQ q y = ft at *
  obtain ⟨fr, fi, fk⟩ := ft
  clear sg hz bx p1 p2 p3 p4 hq
  go_enter Try.func18, Try.ntmps18
  go_wp2_with fail
  refine hck.mono ?_; rintro e w3 ⟨rfl, B3⟩
  clear hck
  have k3 := k1.nx B3
  go_wp2_with fail
  have k3d := k3.dr
  have k3s := And.intro (k3d.1.cell 0) (And.intro (k3d.1.cell 1) (And.intro (k3d.1.cell 2) (And.intro (k3d.1.cell 3) (And.intro (k3d.1.cell 4) (And.intro (k3d.1.cell 5) (And.intro (k3d.2.1.cell 0) (And.intro (k3d.2.1.frozen 0) (And.intro (k3d.2.1.cell 1) (And.intro (k3d.2.1.frozen 1) (And.intro (k3d.2.1.cell 2) (And.intro (k3d.2.1.frozen 2) (And.intro (k3d.2.1.cell 3) (And.intro (k3d.2.1.frozen 3) (And.intro (k3d.2.1.cell 4) (And.intro (k3d.2.1.frozen 4) (And.intro (k3d.2.1.cell 5) (And.intro (k3d.2.1.frozen 5) (k3d))))))))))))))))))
  go_region_held3 (fun w' => w'.cell? ⟨w.heap.size, 0, none⟩ = some (.bool (qn x)) ∧ w'.cell? ⟨w.heap.size, 1, none⟩ = some (.slice A1 (digs (qt x)).length c1) ∧ w'.cell? ⟨w.heap.size, 2, none⟩ = some (.slice D1 (digs (qd x)).length d1) ∧ w'.cell? ⟨w.heap.size, 3, none⟩ = some (.bool (qn y)) ∧ w'.cell? ⟨w.heap.size, 4, none⟩ = some (.slice A2 (digs (qt y)).length c2) ∧ w'.cell? ⟨w.heap.size, 5, none⟩ = some (.slice D2 (digs (qd y)).length d2) ∧ w'.cell? ⟨w.heap.size + 1, 0, none⟩ = some (cv w' (w.heap.size + 1) 0) ∧ w'.frozen? ⟨w.heap.size + 1, 0, none⟩ = false ∧ w'.cell? ⟨w.heap.size + 1, 1, none⟩ = some (cv w' (w.heap.size + 1) 1) ∧ w'.frozen? ⟨w.heap.size + 1, 1, none⟩ = false ∧ w'.cell? ⟨w.heap.size + 1, 2, none⟩ = some (cv w' (w.heap.size + 1) 2) ∧ w'.frozen? ⟨w.heap.size + 1, 2, none⟩ = false ∧ w'.cell? ⟨w.heap.size + 1, 3, none⟩ = some (cv w' (w.heap.size + 1) 3) ∧ w'.frozen? ⟨w.heap.size + 1, 3, none⟩ = false ∧ w'.cell? ⟨w.heap.size + 1, 4, none⟩ = some (cv w' (w.heap.size + 1) 4) ∧ w'.frozen? ⟨w.heap.size + 1, 4, none⟩ = false ∧ w'.cell? ⟨w.heap.size + 1, 5, none⟩ = some (cv w' (w.heap.size + 1) 5) ∧ w'.frozen? ⟨w.heap.size + 1, 5, none⟩ = false ∧ S2 w w.heap.size [.bool (qn x), .slice A1 (digs (qt x)).length c1, .slice D1 (digs (qd x)).length d1, .bool (qn y), .slice A2 (digs (qt y)).length c2, .slice D2 (digs (qd y)).length d2] 6 w')
    (first
      | with_reducible exact k3s
      | (have s1 := (by assumption : _ ∧ _ ∧ _ ∧ _ ∧ _ ∧ _ ∧ _ ∧ _ ∧ _ ∧ _ ∧ _ ∧ _ ∧ _ ∧ _ ∧ _ ∧ _ ∧ _ ∧ _ ∧ S2 w w.heap.size [.bool (qn x), .slice A1 (digs (qt x)).length c1, .slice D1 (digs (qd x)).length d1, .bool (qn y), .slice A2 (digs (qt y)).length c2, .slice D2 (digs (qd y)).length d2] 6 _).2.2.2.2.2.2.2.2.2.2.2.2.2.2.2.2.2.2.nx BX; have q0_ := s1.1.cell 0; have q1_ := s1.1.cell 1; have q2_ := s1.1.cell 2; have q3_ := s1.1.cell 3; have q4_ := s1.1.cell 4; have q5_ := s1.1.cell 5; have q6_ := s1.2.1.cell 0; have q7_ := s1.2.1.frozen 0; have q8_ := s1.2.1.cell 1; have q9_ := s1.2.1.frozen 1; have q10_ := s1.2.1.cell 2; have q11_ := s1.2.1.frozen 2; have q12_ := s1.2.1.cell 3; have q13_ := s1.2.1.frozen 3; have q14_ := s1.2.1.cell 4; have q15_ := s1.2.1.frozen 4; have q16_ := s1.2.1.cell 5; have q17_ := s1.2.1.frozen 5; with_reducible exact ⟨q0_, q1_, q2_, q3_, q4_, q5_, q6_, q7_, q8_, q9_, q10_, q11_, q12_, q13_, q14_, q15_, q16_, q17_, s1⟩)
      | (have s1 := (by assumption : _ ∧ _ ∧ _ ∧ _ ∧ _ ∧ _ ∧ _ ∧ _ ∧ _ ∧ _ ∧ _ ∧ _ ∧ _ ∧ _ ∧ _ ∧ _ ∧ _ ∧ _ ∧ S2 w w.heap.size [.bool (qn x), .slice A1 (digs (qt x)).length c1, .slice D1 (digs (qd x)).length d1, .bool (qn y), .slice A2 (digs (qt y)).length c2, .slice D2 (digs (qd y)).length d2] 6 _).2.2.2.2.2.2.2.2.2.2.2.2.2.2.2.2.2.2.put6 (.bool fr.s) (.slice A7 fr.a.length c7) (.slice D7 fr.b.length d7) (.bool fi.s) (.slice A8 fi.a.length c8) (.slice D8 fi.b.length d8); have q0_ := s1.1.cell 0; have q1_ := s1.1.cell 1; have q2_ := s1.1.cell 2; have q3_ := s1.1.cell 3; have q4_ := s1.1.cell 4; have q5_ := s1.1.cell 5; have q6_ := s1.2.1.cell 0; have q7_ := s1.2.1.frozen 0; have q8_ := s1.2.1.cell 1; have q9_ := s1.2.1.frozen 1; have q10_ := s1.2.1.cell 2; have q11_ := s1.2.1.frozen 2; have q12_ := s1.2.1.cell 3; have q13_ := s1.2.1.frozen 3; have q14_ := s1.2.1.cell 4; have q15_ := s1.2.1.frozen 4; have q16_ := s1.2.1.cell 5; have q17_ := s1.2.1.frozen 5; with_reducible exact ⟨q0_, q1_, q2_, q3_, q4_, q5_, q6_, q7_, q8_, q9_, q10_, q11_, q12_, q13_, q14_, q15_, q16_, q17_, s1⟩))
    (first
      | (go_at_call 54; have hh := (by assumption : _ ∧ _ ∧ _ ∧ _ ∧ _ ∧ _ ∧ _ ∧ _ ∧ _ ∧ _ ∧ _ ∧ _ ∧ _ ∧ _ ∧ _ ∧ _ ∧ _ ∧ _ ∧ S2 w w.heap.size [.bool (qn x), .slice A1 (digs (qt x)).length c1, .slice D1 (digs (qd x)).length d1, .bool (qn y), .slice A2 (digs (qt y)).length c2, .slice D2 (digs (qd y)).length d2] 6 _).2.2.2.2.2.2.2.2.2.2.2.2.2.2.2.2.2.2; refine (hL _ _ (hx.st hh.2.2)).mono ?_; rintro e w14 ⟨A14, c14, D14, d14, rfl, O14, P14, BX⟩; have B14 := BX)
      | (go_at_call 46; have hh := (by assumption : _ ∧ _ ∧ _ ∧ _ ∧ _ ∧ _ ∧ _ ∧ _ ∧ _ ∧ _ ∧ _ ∧ _ ∧ _ ∧ _ ∧ _ ∧ _ ∧ _ ∧ _ ∧ S2 w w.heap.size [.bool (qn x), .slice A1 (digs (qt x)).length c1, .slice D1 (digs (qd x)).length d1, .bool (qn y), .slice A2 (digs (qt y)).length c2, .slice D2 (digs (qd y)).length d2] 6 _).2.2.2.2.2.2.2.2.2.2.2.2.2.2.2.2.2.2; refine (hF _ _ _ ⟨A14, c14, D14, d14, rfl, O14.rw, P14.rw⟩ (hy.st hh.2.2)).mono ?_; rintro e w16 ⟨A7, c7, D7, d7, A8, c8, D8, d8, rfl, Q1, Q2, Q3, Q4, BX⟩; dsimp only at Q1 Q2 Q3 Q4; have B16 := BX; have kk := hh.nx BX; have sz := hh.2.1.2))
  have s6 := kk.2.1.put6 (.bool fr.s) (.slice A7 fr.a.length c7) (.slice D7 fr.b.length d7) (.bool fi.s) (.slice A8 fi.a.length c8) (.slice D8 fi.b.length d8)
  have B6 := wr6_below (b := w.heap.size + 1) kk.2.2 (by omega) (.bool fr.s) (.slice A7 fr.a.length c7) (.slice D7 fr.b.length d7) (.bool fi.s) (.slice A8 fi.a.length c8) (.slice D8 fi.b.length d8)
  have O1 := Q1.put6 (b := w.heap.size + 1) sz (.bool fr.s) (.slice A7 fr.a.length c7) (.slice D7 fr.b.length d7) (.bool fi.s) (.slice A8 fi.a.length c8) (.slice D8 fi.b.length d8)
  have O2 := Q2.put6 (b := w.heap.size + 1) sz (.bool fr.s) (.slice A7 fr.a.length c7) (.slice D7 fr.b.length d7) (.bool fi.s) (.slice A8 fi.a.length c8) (.slice D8 fi.b.length d8)
  have O3 := Q3.put6 (b := w.heap.size + 1) sz (.bool fr.s) (.slice A7 fr.a.length c7) (.slice D7 fr.b.length d7) (.bool fi.s) (.slice A8 fi.a.length c8) (.slice D8 fi.b.length d8)
  have O4 := Q4.put6 (b := w.heap.size + 1) sz (.bool fr.s) (.slice A7 fr.a.length c7) (.slice D7 fr.b.length d7) (.bool fi.s) (.slice A8 fi.a.length c8) (.slice D8 fi.b.length d8)
  have r0' := s6.cell 0
  have r1' := s6.cell 1
  have r2' := s6.cell 2
  have r3' := s6.cell 3
  have r4' := s6.cell 4
  have r5' := s6.cell 5
  unfold wr6 wr3 at s6 B6 O1 O2 O3 O4 r0' r1' r2' r3' r4' r5'
  go_wp2_with fail
  refine bodyPost_ret (v := .tuple #[.agg #[.bool fr.s, .slice A7 fr.a.length c7, .slice D7 fr.b.length d7, .bool fi.s, .slice A8 fi.a.length c8, .slice D8 fi.b.length d8], .int .i64 fk]) (by simp [results, r0', r1', r2', r3', r4', r5', go_sem]) rfl ?_
  have hle := Nat.le_of_lt (Nat.lt_of_succ_lt sz)
  exact ⟨A7, c7, D7, d7, A8, c8, D8, d8, rfl, O1.base_le hle, O2.base_le hle, O3.base_le hle, O4.base_le hle, B6⟩

theorem efloorn_any {V : Value} {r i : Rw} {w : World} (hV : VN w w.heap.size V r i) :
    Calls Try.prog 18 #[V] w (RetNE w (qfloorA r i)) := by
  unfold qfloorA
  by_cases h : chkN1 true r i = 0
  · rw [if_pos h]
    obtain ⟨x, y, rfl, rfl, h1, h2⟩ := nB_rat (chkN1_zero h).1
    rw [qv_rwq, qv_rwq]
    exact efloorn_ok V x y w hV h1 h
  · rw [if_neg h]
    exact efloorn_bad V r i w hV h
end Go.Proofs.Ytdkejndagicgjaa
