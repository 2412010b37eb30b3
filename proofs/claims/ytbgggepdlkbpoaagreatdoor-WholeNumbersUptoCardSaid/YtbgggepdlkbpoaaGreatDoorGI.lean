/- Merged texts: ExO, ExI, ExD, ExE, ExG, ExC, ExR, EzX, AnyZ, AnyE, AnyF. -/
import Derived.Test.YtbgggepdlkbpoaaGreatDoorGH
import Derived.Test.YtbgggepdlkbpoaaGreatDoorGF
import Derived.StillTail
namespace Go.Proofs.YtbgggepdlkbpoaaGreatDoor
open Go.RowKit

theorem nB_qq {p q : Rat} (h1 : qw p ≤ 512) (h2 : qw q ≤ 512) : nB ⟨qn p, digs (qt p), digs (qd p)⟩ ⟨qn q, digs (qt q), digs (qd q)⟩ = true := by
  unfold nB
  dsimp only
  rw [rsB_of p h1, rsB_of q h2]; rfl


set_option maxHeartbeats 4000000 in
theorem eadd_bad (V U : Value) (r i r' i' : Rw) (w : World) (hV : VN w w.heap.size V r i) (hU : VN w w.heap.size U r' i') (hb : ¬ (nB r i = true ∧ nB r' i' = true)) :
    Calls Tryz.prog 11 #[V, U] w (RetNE w (rw0, rw0, 2)) := by
  obtain ⟨s1, a1, b1⟩ := r
  obtain ⟨s2, a2, b2⟩ := i
  obtain ⟨t1, g1, h1⟩ := r'
  obtain ⟨t2, g2, h2⟩ := i'
  obtain ⟨A1, c1, D1, d1, A2, c2, D2, d2, rfl, p1, p2, p3, p4⟩ := hV
  obtain ⟨E1, e1, F1, f1, E2, e2, F2, f2, rfl, p5, p6, p7, p8⟩ := hU
  dsimp only at p1 p2 p3 p4 p5 p6 p7 p8 ⊢
  have k0 := S3.new w [.bool s1, .slice A1 a1.length c1, .slice D1 b1.length d1, .bool s2, .slice A2 a2.length c2, .slice D2 b2.length d2] [.bool t1, .slice E1 g1.length e1, .slice F1 h1.length f1, .bool t2, .slice E2 g2.length e2, .slice F2 h2.length f2] [.bool false, .slice none 0 0, .slice none 0 0, .bool false, .slice none 0 0, .slice none 0 0] 26 26 26 6
  have C0 := k0.2.2.2
  have z3 : (((w.alloc (.cells #[.bool s1, .slice A1 a1.length c1, .slice D1 b1.length d1, .bool s2, .slice A2 a2.length c2, .slice D2 b2.length d2] 26)).alloc (.cells #[.bool t1, .slice E1 g1.length e1, .slice F1 h1.length f1, .bool t2, .slice E2 g2.length e2, .slice F2 h2.length f2] 26)).alloc (.cells #[.bool false, .slice none 0 0, .slice none 0 0, .bool false, .slice none 0 0, .slice none 0 0] 26)).heap.size = w.heap.size + 3 := by simp
  have Bs := bal (((w.alloc (.cells #[.bool s1, .slice A1 a1.length c1, .slice D1 b1.length d1, .bool s2, .slice A2 a2.length c2, .slice D2 b2.length d2] 26)).alloc (.cells #[.bool t1, .slice E1 g1.length e1, .slice F1 h1.length f1, .bool t2, .slice E2 g2.length e2, .slice F2 h2.length f2] 26)).alloc (.cells #[.bool false, .slice none 0 0, .slice none 0 0, .bool false, .slice none 0 0, .slice none 0 0] 26)) (.cells #[.bool s1, .slice A1 a1.length c1, .slice D1 b1.length d1, .bool s2, .slice A2 a2.length c2, .slice D2 b2.length d2, .bool t1, .slice E1 g1.length e1, .slice F1 h1.length f1, .bool t2, .slice E2 g2.length e2, .slice F2 h2.length f2] 26)
  have sg := SB.new (((w.alloc (.cells #[.bool s1, .slice A1 a1.length c1, .slice D1 b1.length d1, .bool s2, .slice A2 a2.length c2, .slice D2 b2.length d2] 26)).alloc (.cells #[.bool t1, .slice E1 g1.length e1, .slice F1 h1.length f1, .bool t2, .slice E2 g2.length e2, .slice F2 h2.length f2] 26)).alloc (.cells #[.bool false, .slice none 0 0, .slice none 0 0, .bool false, .slice none 0 0, .slice none 0 0] 26)) [.bool s1, .slice A1 a1.length c1, .slice D1 b1.length d1, .bool s2, .slice A2 a2.length c2, .slice D2 b2.length d2, .bool t1, .slice E1 g1.length e1, .slice F1 h1.length f1, .bool t2, .slice E2 g2.length e2, .slice F2 h2.length f2] 26
  rw [z3] at sg
  have C1 := bt C0 Bs
  have k1 := k0.nx Bs
  have hck := check2x_any false (w.heap.size + 3) _ _ _ _ _ _ _ _ _ _ _ _ _ _ _ _ _ _ _ _ _ _ _ _ _ _ _ _ _ sg (st p1 C1) (st p2 C1) (st p3 C1) (st p4 C1) (st p5 C1) (st p6 C1) (st p7 C1) (st p8 C1)
  have hc2 : chkN2 false ⟨s1, a1, b1⟩ ⟨s2, a2, b2⟩ ⟨t1, g1, h1⟩ ⟨t2, g2, h2⟩ = 2 := by unfold chkN2; rw [if_neg hb]
  rw [hc2] at hck
  clear hb hc2 sg
  go_enter Tryz.func11, Tryz.ntmps11
  go_wp2_with fail
  refine hck.mono ?_; rintro e w3 ⟨rfl, B3⟩
  have k3 := k1.nx B3
  have hRC := k3.2.2.1
  go_wp2_with (refine wp_st6 rfl (.tmp 4) (.tmp 13) rfl _ rfl _ _ _ _ _ _ rfl hRC rfl rfl rfl rfl rfl rfl ?_)
  have s6 := hRC.put6 (.bool false) (.slice none 0 0) (.slice none 0 0) (.bool false) (.slice none 0 0) (.slice none 0 0)
  have B6 := wr6_below (b := w.heap.size + 2) k3.2.2.2 (by omega) (.bool false) (.slice none 0 0) (.slice none 0 0) (.bool false) (.slice none 0 0) (.slice none 0 0)
  have r0' := s6.cell 0
  have r1' := s6.cell 1
  have r2' := s6.cell 2
  have r3' := s6.cell 3
  have r4' := s6.cell 4
  have r5' := s6.cell 5
  refine bodyPost_ret (v := .tuple #[.agg #[.bool false, .slice none 0 0, .slice none 0 0, .bool false, .slice none 0 0, .slice none 0 0], .int .i64 2]) (by simp [results, r0', r1', r2', r3', r4', r5', go_sem]) rfl ?_
  exact retNE_nil 2 B6


set_option maxRecDepth 100000 in
set_option maxHeartbeats 16000000 in
theorem eadd_ok (V U : Value) (x y u v : Rat) (w : World) (hV : RN w w.heap.size V x y) (hU : RN w w.heap.size U u v) (bx : qw x ≤ 512) (bY : qw y ≤ 512) (bu : qw u ≤ 512) (bv : qw v ≤ 512) :
    Calls Tryz.prog 11 #[V, U] w (RetNE w (fitQ (x + u) (y + v))) := by
  obtain ⟨A1, c1, D1, d1, A2, c2, D2, d2, rfl, p1, p2, p3, p4⟩ := hV
  obtain ⟨E1, e1, F1, f1, E2, e2, F2, f2, rfl, p5, p6, p7, p8⟩ := hU
  simp only [rwq] at p1 p2 p3 p4 p5 p6 p7 p8 ⊢
  have hx : RQ w w.heap.size (.agg #[.bool (qn x), .slice A1 (digs (qt x)).length c1, .slice D1 (digs (qd x)).length d1]) x := ⟨A1, c1, D1, d1, rfl, p1, p2⟩
  have hy : RQ w w.heap.size (.agg #[.bool (qn y), .slice A2 (digs (qt y)).length c2, .slice D2 (digs (qd y)).length d2]) y := ⟨A2, c2, D2, d2, rfl, p3, p4⟩
  have hu : RQ w w.heap.size (.agg #[.bool (qn u), .slice E1 (digs (qt u)).length e1, .slice F1 (digs (qd u)).length f1]) u := ⟨E1, e1, F1, f1, rfl, p5, p6⟩
  have hv : RQ w w.heap.size (.agg #[.bool (qn v), .slice E2 (digs (qt v)).length e2, .slice F2 (digs (qd v)).length f2]) v := ⟨E2, e2, F2, f2, rfl, p7, p8⟩
  have k0 := S3.new w [.bool (qn x), .slice A1 (digs (qt x)).length c1, .slice D1 (digs (qd x)).length d1, .bool (qn y), .slice A2 (digs (qt y)).length c2, .slice D2 (digs (qd y)).length d2] [.bool (qn u), .slice E1 (digs (qt u)).length e1, .slice F1 (digs (qd u)).length f1, .bool (qn v), .slice E2 (digs (qt v)).length e2, .slice F2 (digs (qd v)).length f2] [.bool false, .slice none 0 0, .slice none 0 0, .bool false, .slice none 0 0, .slice none 0 0] 26 26 26 6
  have C0 := k0.2.2.2
  have z3 : (((w.alloc (.cells #[.bool (qn x), .slice A1 (digs (qt x)).length c1, .slice D1 (digs (qd x)).length d1, .bool (qn y), .slice A2 (digs (qt y)).length c2, .slice D2 (digs (qd y)).length d2] 26)).alloc (.cells #[.bool (qn u), .slice E1 (digs (qt u)).length e1, .slice F1 (digs (qd u)).length f1, .bool (qn v), .slice E2 (digs (qt v)).length e2, .slice F2 (digs (qd v)).length f2] 26)).alloc (.cells #[.bool false, .slice none 0 0, .slice none 0 0, .bool false, .slice none 0 0, .slice none 0 0] 26)).heap.size = w.heap.size + 3 := by simp
  have Bs := bal (((w.alloc (.cells #[.bool (qn x), .slice A1 (digs (qt x)).length c1, .slice D1 (digs (qd x)).length d1, .bool (qn y), .slice A2 (digs (qt y)).length c2, .slice D2 (digs (qd y)).length d2] 26)).alloc (.cells #[.bool (qn u), .slice E1 (digs (qt u)).length e1, .slice F1 (digs (qd u)).length f1, .bool (qn v), .slice E2 (digs (qt v)).length e2, .slice F2 (digs (qd v)).length f2] 26)).alloc (.cells #[.bool false, .slice none 0 0, .slice none 0 0, .bool false, .slice none 0 0, .slice none 0 0] 26)) (.cells #[.bool (qn x), .slice A1 (digs (qt x)).length c1, .slice D1 (digs (qd x)).length d1, .bool (qn y), .slice A2 (digs (qt y)).length c2, .slice D2 (digs (qd y)).length d2, .bool (qn u), .slice E1 (digs (qt u)).length e1, .slice F1 (digs (qd u)).length f1, .bool (qn v), .slice E2 (digs (qt v)).length e2, .slice F2 (digs (qd v)).length f2] 26)
  have sg := SB.new (((w.alloc (.cells #[.bool (qn x), .slice A1 (digs (qt x)).length c1, .slice D1 (digs (qd x)).length d1, .bool (qn y), .slice A2 (digs (qt y)).length c2, .slice D2 (digs (qd y)).length d2] 26)).alloc (.cells #[.bool (qn u), .slice E1 (digs (qt u)).length e1, .slice F1 (digs (qd u)).length f1, .bool (qn v), .slice E2 (digs (qt v)).length e2, .slice F2 (digs (qd v)).length f2] 26)).alloc (.cells #[.bool false, .slice none 0 0, .slice none 0 0, .bool false, .slice none 0 0, .slice none 0 0] 26)) [.bool (qn x), .slice A1 (digs (qt x)).length c1, .slice D1 (digs (qd x)).length d1, .bool (qn y), .slice A2 (digs (qt y)).length c2, .slice D2 (digs (qd y)).length d2, .bool (qn u), .slice E1 (digs (qt u)).length e1, .slice F1 (digs (qd u)).length f1, .bool (qn v), .slice E2 (digs (qt v)).length e2, .slice F2 (digs (qd v)).length f2] 26
  rw [z3] at sg
  have C1 := bt C0 Bs
  have k1 := k0.nx Bs
  have hck := check2x_any false (w.heap.size + 3) _ _ _ _ _ _ _ _ _ _ _ _ _ _ _ _ _ _ _ _ _ _ _ _ _ _ _ _ _ sg (st p1 C1) (st p2 C1) (st p3 C1) (st p4 C1) (st p5 C1) (st p6 C1) (st p7 C1) (st p8 C1)
  have hc2 : chkN2 false ⟨qn x, digs (qt x), digs (qd x)⟩ ⟨qn y, digs (qt y), digs (qd y)⟩ ⟨qn u, digs (qt u), digs (qd u)⟩ ⟨qn v, digs (qt v), digs (qd v)⟩ = 0 := by unfold chkN2; rw [if_pos ⟨nB_qq bx bY, nB_qq bu bv⟩, if_neg (by simp)]
  rw [hc2] at hck
  have hF := fun V U w' h1 h2 => efit_any V U (x + u) (y + v) w' h1 h2
  generalize fitQ (x + u) (y + v) = ft at *
  obtain ⟨fr, fi, fk⟩ := ft
  clear hc2 sg
  have nu := qw_neg u
  have nv := qw_neg v
  go_enter Tryz.func11, Tryz.ntmps11
  go_wp2_with fail
  refine hck.mono ?_; rintro e w3 ⟨rfl, B3⟩
  have k3 := k1.nx B3
  go_wp2_with fail
  have k3d := k3.dr
  have k3s := And.intro (k3d.1.cell 0) (And.intro (k3d.1.cell 1) (And.intro (k3d.1.cell 2) (And.intro (k3d.1.cell 3) (And.intro (k3d.1.cell 4) (And.intro (k3d.1.cell 5) (And.intro (k3d.2.1.cell 0) (And.intro (k3d.2.1.cell 1) (And.intro (k3d.2.1.cell 2) (And.intro (k3d.2.1.cell 3) (And.intro (k3d.2.1.cell 4) (And.intro (k3d.2.1.cell 5) (And.intro (k3d.2.2.1.cell 0) (And.intro (k3d.2.2.1.frozen 0) (And.intro (k3d.2.2.1.cell 1) (And.intro (k3d.2.2.1.frozen 1) (And.intro (k3d.2.2.1.cell 2) (And.intro (k3d.2.2.1.frozen 2) (And.intro (k3d.2.2.1.cell 3) (And.intro (k3d.2.2.1.frozen 3) (And.intro (k3d.2.2.1.cell 4) (And.intro (k3d.2.2.1.frozen 4) (And.intro (k3d.2.2.1.cell 5) (And.intro (k3d.2.2.1.frozen 5) (k3d))))))))))))))))))))))))
  go_region_held3 (fun w' => w'.cell? ⟨w.heap.size, 0, none⟩ = some (.bool (qn x)) ∧ w'.cell? ⟨w.heap.size, 1, none⟩ = some (.slice A1 (digs (qt x)).length c1) ∧ w'.cell? ⟨w.heap.size, 2, none⟩ = some (.slice D1 (digs (qd x)).length d1) ∧ w'.cell? ⟨w.heap.size, 3, none⟩ = some (.bool (qn y)) ∧ w'.cell? ⟨w.heap.size, 4, none⟩ = some (.slice A2 (digs (qt y)).length c2) ∧ w'.cell? ⟨w.heap.size, 5, none⟩ = some (.slice D2 (digs (qd y)).length d2) ∧ w'.cell? ⟨w.heap.size + 1, 0, none⟩ = some (.bool (qn u)) ∧ w'.cell? ⟨w.heap.size + 1, 1, none⟩ = some (.slice E1 (digs (qt u)).length e1) ∧ w'.cell? ⟨w.heap.size + 1, 2, none⟩ = some (.slice F1 (digs (qd u)).length f1) ∧ w'.cell? ⟨w.heap.size + 1, 3, none⟩ = some (.bool (qn v)) ∧ w'.cell? ⟨w.heap.size + 1, 4, none⟩ = some (.slice E2 (digs (qt v)).length e2) ∧ w'.cell? ⟨w.heap.size + 1, 5, none⟩ = some (.slice F2 (digs (qd v)).length f2) ∧ w'.cell? ⟨w.heap.size + 2, 0, none⟩ = some (cv w' (w.heap.size + 2) 0) ∧ w'.frozen? ⟨w.heap.size + 2, 0, none⟩ = false ∧ w'.cell? ⟨w.heap.size + 2, 1, none⟩ = some (cv w' (w.heap.size + 2) 1) ∧ w'.frozen? ⟨w.heap.size + 2, 1, none⟩ = false ∧ w'.cell? ⟨w.heap.size + 2, 2, none⟩ = some (cv w' (w.heap.size + 2) 2) ∧ w'.frozen? ⟨w.heap.size + 2, 2, none⟩ = false ∧ w'.cell? ⟨w.heap.size + 2, 3, none⟩ = some (cv w' (w.heap.size + 2) 3) ∧ w'.frozen? ⟨w.heap.size + 2, 3, none⟩ = false ∧ w'.cell? ⟨w.heap.size + 2, 4, none⟩ = some (cv w' (w.heap.size + 2) 4) ∧ w'.frozen? ⟨w.heap.size + 2, 4, none⟩ = false ∧ w'.cell? ⟨w.heap.size + 2, 5, none⟩ = some (cv w' (w.heap.size + 2) 5) ∧ w'.frozen? ⟨w.heap.size + 2, 5, none⟩ = false ∧ S3 w w.heap.size [.bool (qn x), .slice A1 (digs (qt x)).length c1, .slice D1 (digs (qd x)).length d1, .bool (qn y), .slice A2 (digs (qt y)).length c2, .slice D2 (digs (qd y)).length d2] [.bool (qn u), .slice E1 (digs (qt u)).length e1, .slice F1 (digs (qd u)).length f1, .bool (qn v), .slice E2 (digs (qt v)).length e2, .slice F2 (digs (qd v)).length f2] 6 w')
    (first
      | with_reducible exact k3s
      | (have s1 := (by assumption : _ ∧ _ ∧ _ ∧ _ ∧ _ ∧ _ ∧ _ ∧ _ ∧ _ ∧ _ ∧ _ ∧ _ ∧ _ ∧ _ ∧ _ ∧ _ ∧ _ ∧ _ ∧ _ ∧ _ ∧ _ ∧ _ ∧ _ ∧ _ ∧ S3 w w.heap.size [.bool (qn x), .slice A1 (digs (qt x)).length c1, .slice D1 (digs (qd x)).length d1, .bool (qn y), .slice A2 (digs (qt y)).length c2, .slice D2 (digs (qd y)).length d2] [.bool (qn u), .slice E1 (digs (qt u)).length e1, .slice F1 (digs (qd u)).length f1, .bool (qn v), .slice E2 (digs (qt v)).length e2, .slice F2 (digs (qd v)).length f2] 6 _).2.2.2.2.2.2.2.2.2.2.2.2.2.2.2.2.2.2.2.2.2.2.2.2.nx BX; have q0_ := s1.1.cell 0; have q1_ := s1.1.cell 1; have q2_ := s1.1.cell 2; have q3_ := s1.1.cell 3; have q4_ := s1.1.cell 4; have q5_ := s1.1.cell 5; have q6_ := s1.2.1.cell 0; have q7_ := s1.2.1.cell 1; have q8_ := s1.2.1.cell 2; have q9_ := s1.2.1.cell 3; have q10_ := s1.2.1.cell 4; have q11_ := s1.2.1.cell 5; have q12_ := s1.2.2.1.cell 0; have q13_ := s1.2.2.1.frozen 0; have q14_ := s1.2.2.1.cell 1; have q15_ := s1.2.2.1.frozen 1; have q16_ := s1.2.2.1.cell 2; have q17_ := s1.2.2.1.frozen 2; have q18_ := s1.2.2.1.cell 3; have q19_ := s1.2.2.1.frozen 3; have q20_ := s1.2.2.1.cell 4; have q21_ := s1.2.2.1.frozen 4; have q22_ := s1.2.2.1.cell 5; have q23_ := s1.2.2.1.frozen 5; with_reducible exact ⟨q0_, q1_, q2_, q3_, q4_, q5_, q6_, q7_, q8_, q9_, q10_, q11_, q12_, q13_, q14_, q15_, q16_, q17_, q18_, q19_, q20_, q21_, q22_, q23_, s1⟩)
      | (have s1 := (by assumption : _ ∧ _ ∧ _ ∧ _ ∧ _ ∧ _ ∧ _ ∧ _ ∧ _ ∧ _ ∧ _ ∧ _ ∧ _ ∧ _ ∧ _ ∧ _ ∧ _ ∧ _ ∧ _ ∧ _ ∧ _ ∧ _ ∧ _ ∧ _ ∧ S3 w w.heap.size [.bool (qn x), .slice A1 (digs (qt x)).length c1, .slice D1 (digs (qd x)).length d1, .bool (qn y), .slice A2 (digs (qt y)).length c2, .slice D2 (digs (qd y)).length d2] [.bool (qn u), .slice E1 (digs (qt u)).length e1, .slice F1 (digs (qd u)).length f1, .bool (qn v), .slice E2 (digs (qt v)).length e2, .slice F2 (digs (qd v)).length f2] 6 _).2.2.2.2.2.2.2.2.2.2.2.2.2.2.2.2.2.2.2.2.2.2.2.2.put6 (.bool fr.s) (.slice A7 fr.a.length c7) (.slice D7 fr.b.length d7) (.bool fi.s) (.slice A8 fi.a.length c8) (.slice D8 fi.b.length d8); have q0_ := s1.1.cell 0; have q1_ := s1.1.cell 1; have q2_ := s1.1.cell 2; have q3_ := s1.1.cell 3; have q4_ := s1.1.cell 4; have q5_ := s1.1.cell 5; have q6_ := s1.2.1.cell 0; have q7_ := s1.2.1.cell 1; have q8_ := s1.2.1.cell 2; have q9_ := s1.2.1.cell 3; have q10_ := s1.2.1.cell 4; have q11_ := s1.2.1.cell 5; have q12_ := s1.2.2.1.cell 0; have q13_ := s1.2.2.1.frozen 0; have q14_ := s1.2.2.1.cell 1; have q15_ := s1.2.2.1.frozen 1; have q16_ := s1.2.2.1.cell 2; have q17_ := s1.2.2.1.frozen 2; have q18_ := s1.2.2.1.cell 3; have q19_ := s1.2.2.1.frozen 3; have q20_ := s1.2.2.1.cell 4; have q21_ := s1.2.2.1.frozen 4; have q22_ := s1.2.2.1.cell 5; have q23_ := s1.2.2.1.frozen 5; with_reducible exact ⟨q0_, q1_, q2_, q3_, q4_, q5_, q6_, q7_, q8_, q9_, q10_, q11_, q12_, q13_, q14_, q15_, q16_, q17_, q18_, q19_, q20_, q21_, q22_, q23_, s1⟩))
    (first
      | (go_at_call_of 34 (Value.agg #[.bool (qn x), .slice A1 (digs (qt x)).length c1, .slice D1 (digs (qd x)).length d1]); have hh := (by assumption : _ ∧ _ ∧ _ ∧ _ ∧ _ ∧ _ ∧ _ ∧ _ ∧ _ ∧ _ ∧ _ ∧ _ ∧ _ ∧ _ ∧ _ ∧ _ ∧ _ ∧ _ ∧ _ ∧ _ ∧ _ ∧ _ ∧ _ ∧ _ ∧ S3 w w.heap.size [.bool (qn x), .slice A1 (digs (qt x)).length c1, .slice D1 (digs (qd x)).length d1, .bool (qn y), .slice A2 (digs (qt y)).length c2, .slice D2 (digs (qd y)).length d2] [.bool (qn u), .slice E1 (digs (qt u)).length e1, .slice F1 (digs (qd u)).length f1, .bool (qn v), .slice E2 (digs (qt v)).length e2, .slice F2 (digs (qd v)).length f2] 6 _).2.2.2.2.2.2.2.2.2.2.2.2.2.2.2.2.2.2.2.2.2.2.2.2; refine (sum_any _ _ x u _ (hx.st hh.2.2.2) (hu.st hh.2.2.2) (by omega)).mono ?_; rintro e w14 ⟨A14, c14, D14, d14, rfl, O14, P14, BX⟩; have B14 := BX)
      | (go_at_call_of 34 (Value.agg #[.bool (qn y), .slice A2 (digs (qt y)).length c2, .slice D2 (digs (qd y)).length d2]); have hh := (by assumption : _ ∧ _ ∧ _ ∧ _ ∧ _ ∧ _ ∧ _ ∧ _ ∧ _ ∧ _ ∧ _ ∧ _ ∧ _ ∧ _ ∧ _ ∧ _ ∧ _ ∧ _ ∧ _ ∧ _ ∧ _ ∧ _ ∧ _ ∧ _ ∧ S3 w w.heap.size [.bool (qn x), .slice A1 (digs (qt x)).length c1, .slice D1 (digs (qd x)).length d1, .bool (qn y), .slice A2 (digs (qt y)).length c2, .slice D2 (digs (qd y)).length d2] [.bool (qn u), .slice E1 (digs (qt u)).length e1, .slice F1 (digs (qd u)).length f1, .bool (qn v), .slice E2 (digs (qt v)).length e2, .slice F2 (digs (qd v)).length f2] 6 _).2.2.2.2.2.2.2.2.2.2.2.2.2.2.2.2.2.2.2.2.2.2.2.2; refine (sum_any _ _ y v _ (hy.st hh.2.2.2) (hv.st hh.2.2.2) (by omega)).mono ?_; rintro e w15 ⟨A15, c15, D15, d15, rfl, O15, P15, BX⟩; have B15 := BX)
      | (go_at_call 33; have hh := (by assumption : _ ∧ _ ∧ _ ∧ _ ∧ _ ∧ _ ∧ _ ∧ _ ∧ _ ∧ _ ∧ _ ∧ _ ∧ _ ∧ _ ∧ _ ∧ _ ∧ _ ∧ _ ∧ _ ∧ _ ∧ _ ∧ _ ∧ _ ∧ _ ∧ S3 w w.heap.size [.bool (qn x), .slice A1 (digs (qt x)).length c1, .slice D1 (digs (qd x)).length d1, .bool (qn y), .slice A2 (digs (qt y)).length c2, .slice D2 (digs (qd y)).length d2] [.bool (qn u), .slice E1 (digs (qt u)).length e1, .slice F1 (digs (qd u)).length f1, .bool (qn v), .slice E2 (digs (qt v)).length e2, .slice F2 (digs (qd v)).length f2] 6 _).2.2.2.2.2.2.2.2.2.2.2.2.2.2.2.2.2.2.2.2.2.2.2.2; refine (hF _ _ _ ⟨A14, c14, D14, d14, rfl, st O14.rw B15, st P14.rw B15⟩ ⟨A15, c15, D15, d15, rfl, O15.rw, P15.rw⟩).mono ?_; rintro e w16 ⟨A7, c7, D7, d7, A8, c8, D8, d8, rfl, Q1, Q2, Q3, Q4, BX⟩; dsimp only at Q1 Q2 Q3 Q4; have B16 := BX; have kk := hh.nx BX; have sz := hh.2.2.1.2))
  have s6 := kk.2.2.1.put6 (.bool fr.s) (.slice A7 fr.a.length c7) (.slice D7 fr.b.length d7) (.bool fi.s) (.slice A8 fi.a.length c8) (.slice D8 fi.b.length d8)
  have B6 := wr6_below (b := w.heap.size + 2) kk.2.2.2 (by omega) (.bool fr.s) (.slice A7 fr.a.length c7) (.slice D7 fr.b.length d7) (.bool fi.s) (.slice A8 fi.a.length c8) (.slice D8 fi.b.length d8)
  have O1 := Q1.put6 (b := w.heap.size + 2) sz (.bool fr.s) (.slice A7 fr.a.length c7) (.slice D7 fr.b.length d7) (.bool fi.s) (.slice A8 fi.a.length c8) (.slice D8 fi.b.length d8)
  have O2 := Q2.put6 (b := w.heap.size + 2) sz (.bool fr.s) (.slice A7 fr.a.length c7) (.slice D7 fr.b.length d7) (.bool fi.s) (.slice A8 fi.a.length c8) (.slice D8 fi.b.length d8)
  have O3 := Q3.put6 (b := w.heap.size + 2) sz (.bool fr.s) (.slice A7 fr.a.length c7) (.slice D7 fr.b.length d7) (.bool fi.s) (.slice A8 fi.a.length c8) (.slice D8 fi.b.length d8)
  have O4 := Q4.put6 (b := w.heap.size + 2) sz (.bool fr.s) (.slice A7 fr.a.length c7) (.slice D7 fr.b.length d7) (.bool fi.s) (.slice A8 fi.a.length c8) (.slice D8 fi.b.length d8)
  have r0' := s6.cell 0
  have r1' := s6.cell 1
  have r2' := s6.cell 2
  have r3' := s6.cell 3
  have r4' := s6.cell 4
  have r5' := s6.cell 5
  unfold wr6 wr3 at s6 B6 O1 O2 O3 O4 r0' r1' r2' r3' r4' r5'
  go_wp2_with fail
  refine bodyPost_ret (v := .tuple #[.agg #[.bool fr.s, .slice A7 fr.a.length c7, .slice D7 fr.b.length d7, .bool fi.s, .slice A8 fi.a.length c8, .slice D8 fi.b.length d8], .int .i64 fk]) (by simp [results, r0', r1', r2', r3', r4', r5', go_sem]) rfl ?_
  have hle := Nat.le_of_lt (Nat.lt_of_succ_lt (Nat.lt_of_succ_lt sz))
  exact ⟨A7, c7, D7, d7, A8, c8, D8, d8, rfl, O1.base_le hle, O2.base_le hle, O3.base_le hle, O4.base_le hle, B6⟩


end Go.Proofs.YtbgggepdlkbpoaaGreatDoor
namespace Go.Proofs.YtbgggepdlkbpoaaGreatDoor
open Go.RowKit

/-- a struct made within a region, put there: what is kept -/
theorem S2.wr {w w1 : World} {b n g : Nat} {l1 : List Value} (h : S2 w b l1 n w1) (hg : b + 1 < g) (x y z : Value) : S2 w b l1 n (Go.Proofs.YtbgggepdlkbpoaaGreatDoor.wr3 w1 g x y z) :=
  ⟨h.1.wr3 (by omega) x y z, (h.2.1.sb.wr3 (by omega) x y z).rc (by simp), wr3_below h.2.2 (by omega) x y z⟩
theorem S2.re {w w1 : World} {b n : Nat} {l1 : List Value} {o o' : Obj} (h : S2 w b l1 n (w1.alloc o)) (hg : b + 1 < w1.heap.size) : S2 w b l1 n (w1.alloc o') := by
  have e : ∀ (q : Obj) (k : Nat), k < w1.heap.size → (w1.alloc q).heap[k]? = w1.heap[k]? := fun q k hk => (bal w1 q).block k hk
  have hc : ∀ (p : Addr), p.block < w1.heap.size → (w1.alloc o').cell? p = (w1.alloc o).cell? p := fun p hp => ((bal w1 o').cell hp).trans ((bal w1 o).cell hp).symm
  have hf : ∀ (p : Addr), p.block < w1.heap.size → (w1.alloc o').frozen? p = (w1.alloc o).frozen? p := fun p hp => ((bal w1 o').frozen hp).trans ((bal w1 o).frozen hp).symm
  have hs : ∀ (k : Nat) (vs : List Value), k < w1.heap.size → SB (w1.alloc o) k vs → SB (w1.alloc o') k vs := fun k vs hk h =>
    ⟨fun i v hv => ⟨(hc ⟨k, i, none⟩ hk).trans (h.1 i v hv).1, (hf ⟨k, i, none⟩ hk).trans (h.1 i v hv).2⟩, by simp; omega⟩
  refine ⟨hs _ _ (by omega) h.1, (hs _ _ hg h.2.1.sb).rc (by simp), ?_⟩
  have h3 := h.2.2
  exact ⟨h3.os, h3.tape, h3.output, by have := h3.size; simpa using this, fun k hk => by
    rw [e o' k (by omega), ← e o k (by omega)]; exact h3.block k hk⟩
/-- a slice that lies apart from block r -/
def AV (A : Option Addr) (r : Nat) : Prop := ∀ b o, A = some ⟨b, o, none⟩ → b ≠ r
theorem av {w : World} {base r : Nat} {A : Option Addr} {c : Nat} {l : List Nat} (h : OW w base A c l) (hr : r < base) : AV A r := fun b o e => by
  subst e
  rcases h.form with ⟨e, _⟩ | ⟨g, e, hb, _⟩
  · cases e
  · simp only [Option.some.injEq, Addr.mk.injEq, and_true] at e
    omega
theorem sgt {w : World} {g : Nat} {l : List Value} (h : SB w g l) {x y z : Value} : g < (Go.Proofs.YtbgggepdlkbpoaaGreatDoor.wr3 w g x y z).heap.size := by simpa [World.setCell] using h.2
theorem rwg {w : World} {base B : Nat} {A : Option Addr} {c : Nat} {l : List Nat} {g : Nat} {x y z : Value} (h : OW (Go.Proofs.YtbgggepdlkbpoaaGreatDoor.wr3 w g x y z) base A c l) (hB : B = w.heap.size := by simp [World.setCell]) : RW (Go.Proofs.YtbgggepdlkbpoaaGreatDoor.wr3 w g x y z) B A c l :=
  h.rw.more (by rw [hB]; simp [World.setCell])
theorem RW.apart {w : World} {B r : Nat} {A : Option Addr} {c : Nat} {l : List Nat} (h : RW w B A c l) (ha : AV A r) {p : Addr} (hp : p.block = r) (v : Value) : RW (w.setCell p v) B A c l :=
  ⟨⟨h.1.1, h.1.2.1, fun hn => by
    obtain ⟨b, o, e, hb, hc⟩ := h.1.2.2 hn
    refine ⟨b, o, e, hb, fun k x hk => (World.cell?_setCell_other w _ _ v ?_).trans (hc k x hk)⟩
    intro e2
    rw [e2] at hp
    exact ha b o e hp⟩, h.2⟩
theorem RW.apart6 {w : World} {B r : Nat} {A : Option Addr} {c : Nat} {l : List Nat} (h : RW w B A c l) (ha : AV A r) (x y z x' y' z' : Value) : RW (Go.Proofs.YtbgggepdlkbpoaaGreatDoor.wr6 w r x y z x' y' z') B A c l :=
  (((((h.apart ha (p := ⟨r, 0, none⟩) rfl x).apart ha (p := ⟨r, 1, none⟩) rfl y).apart ha (p := ⟨r, 2, none⟩) rfl z).apart ha (p := ⟨r, 3, none⟩) rfl x').apart ha (p := ⟨r, 4, none⟩) rfl y').apart ha (p := ⟨r, 5, none⟩) rfl z'
/-- what the second region keeps -/
def SI (w : World) (b : Nat) (l : List Value) (g : Nat) (l3 : List Value) (A : Option Addr) (c : Nat) (la : List Nat) (D : Option Addr) (d : Nat) (ld : List Nat) (w' : World) : Prop :=
  S2 w b l 6 w' ∧ SB w' g l3 ∧ (RW w' w'.heap.size A c la ∧ RW w' w'.heap.size D d ld) ∧ AV A (b + 1) ∧ AV D (b + 1) ∧ b + 1 < g
section
variable {w w1 w2 : World} {b g : Nat} {l l3 : List Value} {A : Option Addr} {c : Nat} {la : List Nat} {D : Option Addr} {d : Nat} {ld : List Nat}
theorem SI.nx (h : SI w b l g l3 A c la D d ld w1) (hb : Below w1.heap.size w1 w2) : SI w b l g l3 A c la D d ld w2 :=
  ⟨h.1.nx hb, h.2.1.nx hb, ⟨st h.2.2.1.1 hb, st h.2.2.1.2 hb⟩, h.2.2.2⟩
theorem SI.dr (h : SI w b l g l3 A c la D d ld w1) : SI w b l g l3 A c la D d ld w1.drew := h.nx (Below.drew (Below.refl _ _))
theorem SI.put6 (h : SI w b l g l3 A c la D d ld w1) (x y z x' y' z' : Value) : SI w b l g l3 A c la D d ld (Go.Proofs.YtbgggepdlkbpoaaGreatDoor.wr6 w1 (b + 1) x y z x' y' z') := by
  have hsz : (Go.Proofs.YtbgggepdlkbpoaaGreatDoor.wr6 w1 (b + 1) x y z x' y' z').heap.size = w1.heap.size := by simp [World.setCell]
  refine ⟨h.1.put6 x y z x' y' z', h.2.1.wr6 (by have := h.2.2.2.2.2; omega) x y z x' y' z', ⟨?_, ?_⟩, h.2.2.2⟩
  · rw [hsz]; exact h.2.2.1.1.apart6 h.2.2.2.1 x y z x' y' z'
  · rw [hsz]; exact h.2.2.1.2.apart6 h.2.2.2.2.1 x y z x' y' z'
end
/-- the square of a number's size -/
theorem sq_nonneg' (x : Rat) : 0 ≤ x * x := by
  rcases Rat.le_total (a := 0) (b := x) with h | h
  · exact Rat.mul_nonneg h h
  · have h1 : 0 ≤ -x := by
      have := Rat.add_le_add_left (c := -x) |>.2 h
      rwa [Rat.neg_add_cancel, Rat.add_zero] at this
    have h2 := Rat.mul_nonneg h1 h1
    rwa [Rat.neg_mul, Rat.mul_neg, Rat.neg_neg] at h2
theorem norm_pos' {x y : Rat} (h : ¬ (x = 0 ∧ y = 0)) : qn (x * x + y * y) = false ∧ qt (x * x + y * y) ≠ 0 := by
  have h1 := sq_nonneg' x
  have h2 := sq_nonneg' y
  have h3 := Rat.add_nonneg h1 h2
  constructor
  · cases hq : qn (x * x + y * y) with
    | false => rfl
    | true => exact absurd (qn_iff.1 hq) (Rat.not_lt.2 h3)
  · intro h0
    have h4 := qt_zero.1 h0
    have h5 : x * x ≤ 0 := by
      have := Rat.add_le_add_left (c := x * x) |>.2 h2
      rwa [Rat.add_zero, h4] at this
    have h6 : x * x = 0 := Rat.le_antisymm h5 h1
    rw [h6, Rat.zero_add] at h4
    rcases Rat.mul_eq_zero.1 h6 with e | e <;> rcases Rat.mul_eq_zero.1 h4 with f | f <;> exact h ⟨e, f⟩
theorem rq_inv {w : World} {B : Nat} {A : Option Addr} {c : Nat} {D : Option Addr} {d : Nat} {q : Rat} (h1 : qn q = false) (h2 : qt q ≠ 0) (r1 : RW w B A c (digs (qt q))) (r2 : RW w B D d (digs (qd q))) :
    RQ w B (.agg #[.bool false, .slice D (digs (qd q)).length d, .slice A (digs (qt q)).length c]) q⁻¹ := by
  obtain ⟨e1, e2, e3⟩ := q_inv_t h1 h2
  refine ⟨D, d, A, c, ?_, ?_, ?_⟩
  · rw [e1, e2, e3]
  · rw [e1]; exact r2
  · rw [e2]; exact r1
theorem qw_inv {q : Rat} (h1 : qn q = false) (h2 : qt q ≠ 0) : qw q⁻¹ = qw q := by
  obtain ⟨e1, e2, _⟩ := q_inv_t h1 h2
  unfold qw; rw [e1, e2, Nat.max_comm]


end Go.Proofs.YtbgggepdlkbpoaaGreatDoor
namespace Go.Proofs.YtbgggepdlkbpoaaGreatDoor
open Go.RowKit

/-- a number made within a region, put there: what is kept -/
theorem S3.wr {w w1 : World} {b n g : Nat} {l1 l2 : List Value} (h : S3 w b l1 l2 n w1) (hg : b + 2 < g) (x y z x' y' z' : Value) : S3 w b l1 l2 n (Go.Proofs.YtbgggepdlkbpoaaGreatDoor.wr6 w1 g x y z x' y' z') :=
  ⟨h.1.wr6 (by omega) x y z x' y' z', h.2.1.wr6 (by omega) x y z x' y' z', (h.2.2.1.sb.wr6 (by omega) x y z x' y' z').rc (by simp), wr6_below h.2.2.2 (by omega) x y z x' y' z'⟩
theorem S3.re {w w1 : World} {b n : Nat} {l1 l2 : List Value} {o o' : Obj} (h : S3 w b l1 l2 n (w1.alloc o)) (hg : b + 2 < w1.heap.size) : S3 w b l1 l2 n (w1.alloc o') := by
  have e : ∀ (q : Obj) (k : Nat), k < w1.heap.size → (w1.alloc q).heap[k]? = w1.heap[k]? := fun q k hk => (bal w1 q).block k hk
  have hc : ∀ (p : Addr), p.block < w1.heap.size → (w1.alloc o').cell? p = (w1.alloc o).cell? p := fun p hp => ((bal w1 o').cell hp).trans ((bal w1 o).cell hp).symm
  have hf : ∀ (p : Addr), p.block < w1.heap.size → (w1.alloc o').frozen? p = (w1.alloc o).frozen? p := fun p hp => ((bal w1 o').frozen hp).trans ((bal w1 o).frozen hp).symm
  have hs : ∀ (k : Nat) (vs : List Value), k < w1.heap.size → SB (w1.alloc o) k vs → SB (w1.alloc o') k vs := fun k vs hk h =>
    ⟨fun i v hv => ⟨(hc ⟨k, i, none⟩ hk).trans (h.1 i v hv).1, (hf ⟨k, i, none⟩ hk).trans (h.1 i v hv).2⟩, by simp; omega⟩
  refine ⟨hs _ _ (by omega) h.1, hs _ _ (by omega) h.2.1, (hs _ _ hg h.2.2.1.sb).rc (by simp), ?_⟩
  have h3 := h.2.2.2
  exact ⟨h3.os, h3.tape, h3.output, by have := h3.size; simpa using this, fun k hk => by
    rw [e o' k (by omega), ← e o k (by omega)]; exact h3.block k hk⟩
theorem SB.put6 {w : World} {b : Nat} {a0 a1 a2 a3 a4 a5 : Value} (h : SB w b [a0, a1, a2, a3, a4, a5]) (x y z x' y' z' : Value) : SB (Go.Proofs.YtbgggepdlkbpoaaGreatDoor.wr6 w b x y z x' y' z') b [x, y, z, x', y', z'] :=
  (((((h.set 0 x).set 1 y).set 2 z).set 3 x').set 4 y').set 5 z'
theorem sgt6 {w : World} {g : Nat} {l : List Value} (h : SB w g l) {x y z x' y' z' : Value} : g < (Go.Proofs.YtbgggepdlkbpoaaGreatDoor.wr6 w g x y z x' y' z').heap.size := by simpa [World.setCell] using h.2
theorem RN.st {w w' : World} {V : Value} {x y : Rat} (h : RN w w.heap.size V x y) (hb : Below w.heap.size w w') : RN w' w'.heap.size V x y := VN.st h hb
theorem gtz {w : World} {n g : Nat} {l : List Value} (_ : SB w g l) (h : n + 2 < g) : n + 2 < g := h
/-- a number is 0 -/
def zeroB (r i : Rw) : Bool := decide (r.a.length = 0) && decide (i.a.length = 0)
theorem zeroB_q {x y : Rat} : zeroB (rwq x) (rwq y) = decide (x = 0 ∧ y = 0) := by
  have h : ∀ q : Rat, decide ((digs (qt q)).length = 0) = decide (q = 0) := fun q => decide_eq_decide.2 ⟨fun h => qt_zero.1 (digs_len0.1 h), fun h => digs_len0.2 (qt_zero.2 h)⟩
  unfold zeroB rwq
  dsimp only
  rw [h, h, Bool.decide_and]
theorem nB_qq0 {p q : Rat} (h1 : qw p ≤ 512) (h2 : qw q ≤ 512) : nB (rwq p) (rwq q) = true := nB_qq h1 h2


end Go.Proofs.YtbgggepdlkbpoaaGreatDoor
namespace Go.Proofs.YtbgggepdlkbpoaaGreatDoor
open Go.RowKit


end Go.Proofs.YtbgggepdlkbpoaaGreatDoor
namespace Go.Proofs.YtbgggepdlkbpoaaGreatDoor
open Go.RowKit

/-- the rational number that a raw fraction is -/
def qv (r : Rw) : Rat := ratN r.s (val r.a) (val r.b)
theorem qv_rwq (q : Rat) : qv (rwq q) = q := by unfold qv rwq; dsimp only; rw [val_digs, val_digs, q_self]
theorem rw_rat {r : Rw} (h : rsB r.s r.a r.b = true) : ∃ q, r = rwq q ∧ qw q ≤ 512 := by
  obtain ⟨s, a, b⟩ := r
  obtain ⟨q, rfl, rfl, rfl, hq⟩ := rsB_rat h
  exact ⟨q, rfl, hq⟩
theorem nB_rat {r i : Rw} (h : nB r i = true) : ∃ x y, r = rwq x ∧ i = rwq y ∧ qw x ≤ 512 ∧ qw y ≤ 512 := by
  unfold nB at h
  rw [Bool.and_eq_true] at h
  obtain ⟨x, e1, h1⟩ := rw_rat h.1
  obtain ⟨y, e2, h2⟩ := rw_rat h.2
  exact ⟨x, y, e1, e2, h1, h2⟩
theorem nB_rwq {x y : Rat} (h1 : qw x ≤ 512) (h2 : qw y ≤ 512) : nB (rwq x) (rwq y) = true := nB_qq h1 h2
theorem rwq_inj {p q : Rat} (h : rwq p = rwq q) : p = q := by rw [← qv_rwq p, h, qv_rwq]
theorem VN.rn {w : World} {B : Nat} {V : Value} {x y : Rat} (h : VN w B V (rwq x) (rwq y)) : RN w B V x y := h

def qaddA (r i r' i' : Rw) : Rw × Rw × Int := if nB r i = true ∧ nB r' i' = true then fitQ (qv r + qv r') (qv i + qv i') else (rw0, rw0, 2)
def qsubA (r i r' i' : Rw) : Rw × Rw × Int := if nB r i = true ∧ nB r' i' = true then fitQ (qv r + -qv r') (qv i + -qv i') else (rw0, rw0, 2)
def qmulA (r i r' i' : Rw) : Rw × Rw × Int := if nB r i = true ∧ nB r' i' = true then fitQ (qv r * qv r' + -(qv i * qv i')) (qv r * qv i' + qv i * qv r') else (rw0, rw0, 2)
/-- what a number is divided by: multiplied with its inverse -/
def divQ (x y u v : Rat) : Rw × Rw × Int := fitQ (x * (u * (u * u + v * v)⁻¹) + -(y * (-v * (u * u + v * v)⁻¹))) (x * (-v * (u * u + v * v)⁻¹) + y * (u * (u * u + v * v)⁻¹))
def qdivA (r i r' i' : Rw) : Rw × Rw × Int := if nB r i = true ∧ nB r' i' = true then (if qv r' = 0 ∧ qv i' = 0 then (rw0, rw0, 3) else divQ (qv r) (qv i) (qv r') (qv i')) else (rw0, rw0, 2)

variable {V U : Value} {r i r' i' : Rw} {w : World}
theorem eadd_any (hV : VN w w.heap.size V r i) (hU : VN w w.heap.size U r' i') : Calls Tryz.prog 11 #[V, U] w (RetNE w (qaddA r i r' i')) := by
  unfold qaddA
  by_cases h : nB r i = true ∧ nB r' i' = true
  · rw [if_pos h]
    obtain ⟨x, y, rfl, rfl, h1, h2⟩ := nB_rat h.1
    obtain ⟨u, v, rfl, rfl, h3, h4⟩ := nB_rat h.2
    rw [qv_rwq, qv_rwq, qv_rwq, qv_rwq]
    exact eadd_ok V U x y u v w hV hU h1 h2 h3 h4
  · rw [if_neg h]
    exact eadd_bad V U r i r' i' w hV hU h
end Go.Proofs.YtbgggepdlkbpoaaGreatDoor
namespace Go.Proofs.YtbgggepdlkbpoaaGreatDoor
open Go.RowKit

/-- what a region keeps: two structs -/
def T2 (w : World) (b : Nat) (l1 l2 : List Value) (w' : World) : Prop := SB w' b l1 ∧ SB w' (b + 1) l2 ∧ Below b w w'
theorem gt1 {w : World} {n g : Nat} {l : List Value} (_ : SB w g l) (h : n + 1 < g) : n + 1 < g := h
section
variable {w w1 w2 : World} {b g : Nat} {l1 l2 : List Value}
theorem T2.nx (h : T2 w b l1 l2 w1) (hb : Below w1.heap.size w1 w2) : T2 w b l1 l2 w2 :=
  ⟨h.1.nx hb, h.2.1.nx hb, h.2.2.trans (hb.mono (by have := h.1.2; omega))⟩
theorem T2.dr (h : T2 w b l1 l2 w1) : T2 w b l1 l2 w1.drew := ⟨h.1, h.2.1, bdN h.2.2 1⟩
theorem T2.wr (h : T2 w b l1 l2 w1) (hg : b + 1 < g) (x y z : Value) : T2 w b l1 l2 (Go.Proofs.YtbgggepdlkbpoaaGreatDoor.wr3 w1 g x y z) :=
  ⟨h.1.wr3 (by omega) x y z, h.2.1.wr3 (by omega) x y z, wr3_below h.2.2 (by omega) x y z⟩
theorem T2.re {o o' : Obj} (h : T2 w b l1 l2 (w1.alloc o)) (hg : b + 1 < w1.heap.size) : T2 w b l1 l2 (w1.alloc o') := by
  have e : ∀ (q : Obj) (k : Nat), k < w1.heap.size → (w1.alloc q).heap[k]? = w1.heap[k]? := fun q k hk => (bal w1 q).block k hk
  have hc : ∀ (p : Addr), p.block < w1.heap.size → (w1.alloc o').cell? p = (w1.alloc o).cell? p := fun p hp => ((bal w1 o').cell hp).trans ((bal w1 o).cell hp).symm
  have hf : ∀ (p : Addr), p.block < w1.heap.size → (w1.alloc o').frozen? p = (w1.alloc o).frozen? p := fun p hp => ((bal w1 o').frozen hp).trans ((bal w1 o).frozen hp).symm
  have hs : ∀ (k : Nat) (vs : List Value), k < w1.heap.size → SB (w1.alloc o) k vs → SB (w1.alloc o') k vs := fun k vs hk h =>
    ⟨fun i v hv => ⟨(hc ⟨k, i, none⟩ hk).trans (h.1 i v hv).1, (hf ⟨k, i, none⟩ hk).trans (h.1 i v hv).2⟩, by simp; omega⟩
  refine ⟨hs _ _ (by omega) h.1, hs _ _ hg h.2.1, ?_⟩
  have h3 := h.2.2
  exact ⟨h3.os, h3.tape, h3.output, by have := h3.size; simpa using this, fun k hk => by
    rw [e o' k (by omega), ← e o k (by omega)]; exact h3.block k hk⟩
theorem T2.new (w : World) (l1 l2 : List Value) (t1 t2 : TypeId) : T2 w w.heap.size l1 l2 ((w.alloc (.cells l1.toArray t1)).alloc (.cells l2.toArray t2)) := by
  have s1 := SB.new w l1 t1
  have s2 := SB.new (w.alloc (.cells l1.toArray t1)) l2 t2
  rw [show (w.alloc (.cells l1.toArray t1)).heap.size = w.heap.size + 1 by simp] at s2
  have B1 := bal w (.cells l1.toArray t1)
  have B2 := bal (w.alloc (.cells l1.toArray t1)) (.cells l2.toArray t2)
  exact ⟨s1.nx B2, s2, bt B1 B2⟩
end


def qcmpA (r i r' i' : Rw) : Int × Int := if chkN2 true r i r' i' = 0 then (cmpQ (qv r) (qv r'), 0) else (0, chkN2 true r i r' i')
theorem chkN2_zero {r i r' i' : Rw} (h : chkN2 true r i r' i' = 0) : nB r i = true ∧ nB r' i' = true ∧ i.a = [] ∧ i'.a = [] := by
  unfold chkN2 at h
  split at h
  · next hn =>
    split at h
    · cases h
    · next hq =>
      refine ⟨hn.1, hn.2, ?_, ?_⟩ <;> apply List.eq_nil_of_length_eq_zero <;> (have := not_and.1 hq rfl; omega)
  · cases h
end Go.Proofs.YtbgggepdlkbpoaaGreatDoor
namespace Go.Proofs.YtbgggepdlkbpoaaGreatDoor
open Go.RowKit


def largeB (r i : Rw) : Bool := decide (512 < r.a.length) || (decide (512 < r.b.length) || (decide (512 < i.a.length) || decide (512 < i.b.length)))
end Go.Proofs.YtbgggepdlkbpoaaGreatDoor
namespace Go.Proofs.YtbgggepdlkbpoaaGreatDoor
open Go.RowKit

section
variable {P : Program} {ops : Array Oper} {Q : Exit → Act → World → Prop} {md : Region.Mode} {S : World → Prop} {n : Nat}
/-- in whatever order; S holds behind every operation but number n -/
def AnyU (P : Program) (md : Region.Mode) (ops : Array Oper) (Q : Exit → Act → World → Prop) (S : World → Prop) (n : Nat) : Nat → Array Bool → Act → World → Prop
  | 0 => fun l a w => Region.ready md ops l = [] ∧ Q .normal a w
  | f + 1 => fun l a w => (Region.ready md ops l = [] → Q .normal a w) ∧
      ∀ i ∈ Region.ready md ops l, wpOp P ops Q i (fun a' w' => (i = n ∨ S w') ∧ AnyU P md ops Q S n f (l.setIfInBounds i true) a' w') a w
theorem AnyU.any (f : Nat) : ∀ (l : Array Bool) (a : Act) (w : World), AnyU P md ops Q S n f l a w → wpAny P md ops Q f l a w := by
  induction f with
  | zero => exact fun l a w h => h
  | succ f ih => exact fun l a w h => ⟨h.1, fun i hi => wpOp_mono (fun a' w' g => ih _ a' w' g.2) (h.2 i hi)⟩
/-- who comes up ahead of i leaves i alone -/
def Alone (md : Region.Mode) (ops : Array Oper) (l : Array Bool) (i : Nat) (oi : Oper) : Prop :=
  ∀ j oj, ops[j]? = some oj → j ≠ i → l.getD j true = false → (∀ e ∈ oj.after, Region.binds md e = true → e.on ≠ i) → oi.apart ops oj = true
theorem Alone.set {l : Array Bool} {i j : Nat} {oi : Oper} (h : Alone md ops l i oi) (hj : l.getD j true = false) : Alone md ops (l.setIfInBounds j true) i oi := by
  intro k ok hk hki hu hno
  refine h k ok hk hki ?_ hno
  by_cases e : j = k
  · rw [← e]; exact hj
  · rwa [getD_set_ne true e] at hu
theorem unlisted {l : Array Bool} {i : Nat} (h : l.getD i true = false) : l.getD i false = false := by
  cases hx : l[i]? with
  | none => simp [Array.getD_eq_getD_getElem?, hx]
  | some b => simp [Array.getD_eq_getD_getElem?, hx] at h ⊢; exact h
theorem AnyU.take_aux {i : Nat} {oi : Oper} {v : Value} (hi : ops[i]? = some oi) (hsel : ∀ (j : Nat) (o : Oper) cs b, ops[j]? = some o → o.op ≠ .select cs b)
    (hQ : ∀ c a w, Q (.panic c) (a.put oi.dst v) w → Q (.panic c) a w) (hn : Region.waitsFor md ops n i = true) (f : Nat) :
    ∀ (l : Array Bool) (a : Act) (w : World), Alone md ops l i oi → i ∈ Region.ready md ops l → YieldsIf P ops S oi v a → S w →
      AnyU P md ops Q S n f (l.setIfInBounds i true) (a.put oi.dst v) w → AnyU P md ops Q S n (f + 1) l a w := by
  have last : ∀ l : Array Bool, i ∈ Region.ready md ops l → n ∉ Region.ready md ops l := by
    intro l h1 h2
    obtain ⟨on, hon, e, he, hb, heq⟩ := Region.waitsFor_spec hn
    obtain ⟨_, o2, ho2, hall⟩ := mem_ready.1 h2
    obtain rfl : o2 = on := Option.some.inj (ho2.symm.trans hon)
    have h3 := hall e he hb
    rw [heq, unlisted (mem_ready.1 h1).1] at h3
    cases h3
  induction f with
  | zero =>
    intro l a w _ hr hy hS H
    refine ⟨fun h => (by rw [h] at hr; cases hr), fun j hj => ?_⟩
    by_cases e : j = i
    · subst e
      exact hy.wpOp hi hS ⟨.inr hS, H⟩
    · have hj2 := ready_mono hj e
      rw [H.1] at hj2
      cases hj2
  | succ f ih =>
    intro l a w hA hr hy hS H
    refine ⟨fun h => (by rw [h] at hr; cases hr), fun j hj => ?_⟩
    by_cases e : j = i
    · subst e
      exact hy.wpOp hi hS ⟨.inr hS, H⟩
    obtain ⟨hju, oj, hoj, hall⟩ := mem_ready.1 hj
    have hno : ∀ e ∈ oj.after, Region.binds md e = true → e.on ≠ i := by
      intro e he hb heq
      have h3 := hall e he hb
      rw [heq, unlisted (mem_ready.1 hr).1] at h3
      cases h3
    have hjn : j ≠ n := fun h => last l hr (h ▸ hj)
    have step := wpOp_putIf hoj (hA j oj hoj e hju hno) (fun cs b => hsel i oi cs b hi) (fun cs b => hsel j oj cs b hoj) hQ hy (H.2 j (ready_mono hj e))
    refine wpOp_mono (fun a' w' g => ?_) step
    have hS' : S w' := g.2.1.resolve_left hjn
    refine ⟨.inr hS', ih _ a' w' (hA.set hju) (ready_mono hr (Ne.symm e)) g.1 hS' ?_⟩
    rw [Array.setIfInBounds_comm _ _ e]
    exact g.2.2
theorem AnyU.take {i : Nat} {oi : Oper} {v : Value} {f : Nat} {l : Array Bool} {a : Act} {w : World} (hi : ops[i]? = some oi) (hs : Region.noSelect ops = true) (hf : Region.free md ops l i = true) (hr : (Region.ready md ops l).contains i = true)
    (hn : Region.waitsFor md ops n i = true) (hQ : ∀ c a w, Q (.panic c) (a.put oi.dst v) w → Q (.panic c) a w) (hy : YieldsIf P ops S oi v a) (hS : S w)
    (h : AnyU P md ops Q S n f (l.setIfInBounds i true) (a.put oi.dst v) w) : AnyU P md ops Q S n (f + 1) l a w :=
  AnyU.take_aux hi (Region.noSelect_spec hs) hQ hn f l a w (fun j oj h1 h2 h3 h4 => Region.free_spec hi hf j oj h1 h2 h3 h4) (by simpa using hr) hy hS h
/-- one operation alone may come up -/
theorem AnyU.one (i : Nat) {o : Oper} {f : Nat} {l : Array Bool} {a : Act} {w : World} (hr : Region.ready md ops l = [i]) (ho : ops[i]? = some o)
    (h : ∀ K : Act → World → Prop, Shut (∀ a w, (i = n ∨ S w) → ((i = n ∨ S w) → AnyU P md ops Q S n f (l.setIfInBounds i true) a w) → K a w) → if Region.wanted o (yielded ops a.tmps) = true then Oper.wp P o a w K Q else K (a.put o.dst undef) w) :
    AnyU P md ops Q S n (f + 1) l a w := by
  refine ⟨fun h0 => (by rw [h0] at hr; cases hr), fun j hj => ?_⟩
  rw [hr] at hj
  obtain rfl := List.mem_singleton.1 hj
  exact wpOp_step ho (fun K hK => h K (fun a w hS hW => hK a w ⟨hS, hW hS⟩))
theorem AnyU.region {id : Nat} {a : Act} {w : World} (n : Nat) (S : World → Prop) (hm : P.follows .mixedOrders = true) (hS : S w.drew) (h : S w.drew → AnyU P .any ops Q S n ops.size (Array.replicate ops.size false) a w.drew) : (Code.region id ops true).wp P Q a w :=
  wp_region_any hm (AnyU.any _ _ _ _ (h hS))
/-- what is said of a panic does not hang on the slots -/
def QuietP (Q : Exit → Act → World → Prop) : Prop := ∀ c a a' w, a'.defers = a.defers → Q (.panic c) a' w → Q (.panic c) a w
theorem quiet_then {K : Act → World → Prop} (h : QuietP Q) : QuietP (Exit.then K Q) := fun c a a' w e g => h c a a' w e g
theorem quiet_block {id : Nat} (h : QuietP Q) : QuietP (Exit.inBlock id Q) := fun c a a' w e g => h c a a' w e g
theorem quiet_body {fn : Func} {R : Ending → World → Prop} : QuietP (bodyPost P fn R) := fun _ _ _ _ e g => ⟨e ▸ g.1, g.2⟩
theorem put_defers (a : Act) (d : Option Tmp) (v : Value) : (a.put d v).defers = a.defers := by cases d <;> rfl
theorem AnyU.next {i : Nat} {oi : Oper} {d : Tmp} {v : Value} {f : Nat} {l : Array Bool} {ts : Array Value} {ds : List Deferred} {w : World} (hq : QuietP Q) (hs : Region.noSelect ops = true) (hS : S w) (hi : ops[i]? = some oi) (hd : oi.dst = some d)
    (hk : (Region.free md ops l i && ((Region.ready md ops l).contains i && Region.waitsFor md ops n i)) = true) (hy : YieldsIf P ops S oi v ⟨ts, ds⟩)
    (h : AnyU P md ops Q S n f (l.setIfInBounds i true) ⟨ts.setIfInBounds d v, ds⟩ w) : AnyU P md ops Q S n (f + 1) l ⟨ts, ds⟩ w := by
  simp only [Bool.and_eq_true] at hk
  refine AnyU.take hi hs hk.1 hk.2.1 hk.2.2 (fun c a w h => hq c a _ w (put_defers _ _ _) h) hy hS ?_
  rw [hd]
  exact h
theorem AnyU.regionQ {id : Nat} {a : Act} {w : World} (n N : Nat) (S : World → Prop) (hN : ops.size = N) (hm : P.follows .mixedOrders = true) (hs : Region.noSelect ops = true) (hq : QuietP Q) (hS : S w.drew)
    (h : ∀ Q' : Exit → Act → World → Prop, Shut (∀ a w, Q .normal a w → Q' .normal a w) → QuietP Q' → Region.noSelect ops = true → S w.drew → AnyU P .any ops Q' S n N (Array.replicate N false) a w.drew) : (Code.region id ops true).wp P Q a w :=
  have h0 : ∀ a w, Q .normal a w → Q .normal a w := fun _ _ h => h
  by subst hN; exact wp_region_any hm (AnyU.any _ _ _ _ (h Q h0 hq hs hS))
theorem AnyU.done {f : Nat} {l : Array Bool} {a : Act} {w : World} (hr : Region.ready md ops l = []) (h : Q .normal a w) : AnyU P md ops Q S n f l a w := by
  cases f with
  | zero => exact ⟨hr, h⟩
  | succ f => exact ⟨fun _ => h, fun i hi => by rw [hr] at hi; cases hi⟩
end
theorem S2.far3 {w w1 : World} {b g n : Nat} {l1 : List Value} (h : S2 w b l1 n w1) (hg : b + 1 < g) (x y z : Value) : S2 w b l1 n (wr3 w1 g x y z) :=
  ⟨h.1.wr3 (by omega) x y z, (h.2.1.sb.wr3 (by omega) x y z).rc (by simp), wr3_below h.2.2 (by omega) x y z⟩
theorem OW.far3 {w : World} {base g : Nat} {A : Option Addr} {c : Nat} {l : List Nat} (h : OW w base A c l) (hn : ∀ b, A = some ⟨b, 0, none⟩ → b ≠ g) (x y z : Value) : OW (wr3 w g x y z) base A c l :=
  ((h.far (p := ⟨g, 0, none⟩) hn x).far (p := ⟨g, 1, none⟩) hn y).far (p := ⟨g, 2, none⟩) hn z
theorem SB.put36 {w : World} {g : Nat} {a b c d e f : Value} (h : SB w g [a, b, c, d, e, f]) (x y z : Value) : SB (Go.Proofs.YtbgggepdlkbpoaaGreatDoor.wr3 w g x y z) g [x, y, z, d, e, f] := ((h.set 0 x).set 1 y).set 2 z
end Go.Proofs.YtbgggepdlkbpoaaGreatDoor
namespace Go.Proofs.YtbgggepdlkbpoaaGreatDoor
open Go.RowKit

/-- a late operation has come up -/
def Gone (n : Nat → Bool) (l : Array Bool) : Prop := ∃ j, n j = true ∧ l.getD j false = true
theorem Gone.set {n : Nat → Bool} {l : Array Bool} (h : Gone n l) (i : Nat) : Gone n (l.setIfInBounds i true) := by
  obtain ⟨j, h1, h2⟩ := h
  exact ⟨j, h1, getD_set_true h2⟩
theorem Gone.unset {n : Nat → Bool} {l : Array Bool} {i : Nat} (hi : n i = false) (h : Gone n (l.setIfInBounds i true)) : Gone n l := by
  obtain ⟨j, h1, h2⟩ := h
  refine ⟨j, h1, ?_⟩
  by_cases e : i = j
  · rw [e, h1] at hi; cases hi
  · rwa [getD_set_ne false e] at h2
def notGone (n : Nat → Bool) (l : Array Bool) : Bool := (List.range l.size).all fun j => !(n j && l.getD j false)
theorem notGone.spec {n : Nat → Bool} {l : Array Bool} (h : notGone n l = true) : ¬ Gone n l := by
  rintro ⟨j, h1, h2⟩
  have hj : j < l.size := by
    rcases Nat.lt_or_ge j l.size with h3 | h3
    · exact h3
    · simp [Array.getD_eq_getD_getElem?, Array.getElem?_eq_none h3] at h2
  have := List.all_eq_true.1 h j (List.mem_range.2 hj)
  rw [h1, h2] at this
  cases this
section
variable {P : Program} {ops : Array Oper} {Q : Exit → Act → World → Prop} {md : Region.Mode} {S : World → Prop} {n : Nat → Bool}
/-- in whatever order; S holds till a late operation has come up -/
def AnyW (P : Program) (md : Region.Mode) (ops : Array Oper) (Q : Exit → Act → World → Prop) (S : World → Prop) (n : Nat → Bool) : Nat → Array Bool → Act → World → Prop
  | 0 => fun l a w => Region.ready md ops l = [] ∧ Q .normal a w
  | f + 1 => fun l a w => (Region.ready md ops l = [] → Q .normal a w) ∧
      ∀ i ∈ Region.ready md ops l, wpOp P ops Q i (fun a' w' => (Gone n (l.setIfInBounds i true) ∨ S w') ∧ AnyW P md ops Q S n f (l.setIfInBounds i true) a' w') a w
theorem AnyW.any (f : Nat) : ∀ (l : Array Bool) (a : Act) (w : World), AnyW P md ops Q S n f l a w → wpAny P md ops Q f l a w := by
  induction f with
  | zero => exact fun l a w h => h
  | succ f ih => exact fun l a w h => ⟨h.1, fun i hi => wpOp_mono (fun a' w' g => ih _ a' w' g.2) (h.2 i hi)⟩
/-- all late ones wait for i -/
def lateW (md : Region.Mode) (ops : Array Oper) (n : Nat → Bool) (i : Nat) : Bool := (List.range ops.size).all fun j => !n j || Region.waitsFor md ops j i
theorem AnyW.take_aux {i : Nat} {oi : Oper} {v : Value} (hi : ops[i]? = some oi) (hsel : ∀ (j : Nat) (o : Oper) cs b, ops[j]? = some o → o.op ≠ .select cs b)
    (hQ : ∀ c a w, Q (.panic c) (a.put oi.dst v) w → Q (.panic c) a w) (hn : lateW md ops n i = true) (hni : n i = false) (f : Nat) :
    ∀ (l : Array Bool) (a : Act) (w : World), Alone md ops l i oi → i ∈ Region.ready md ops l → ¬ Gone n l → YieldsIf P ops S oi v a → S w →
      AnyW P md ops Q S n f (l.setIfInBounds i true) (a.put oi.dst v) w → AnyW P md ops Q S n (f + 1) l a w := by
  have last : ∀ (l : Array Bool) (j : Nat), i ∈ Region.ready md ops l → n j = true → j ∉ Region.ready md ops l := by
    intro l j h1 hnj h2
    obtain ⟨_, o2, ho2, hall⟩ := mem_ready.1 h2
    have hjs : j < ops.size := (Array.getElem?_eq_some_iff.1 ho2).1
    have hw : Region.waitsFor md ops j i = true := by
      have := List.all_eq_true.1 hn j (List.mem_range.2 hjs)
      rw [Bool.or_eq_true] at this
      exact this.resolve_left (by rw [hnj]; decide)
    obtain ⟨on, hon, e, he, hb, heq⟩ := Region.waitsFor_spec hw
    obtain rfl : o2 = on := Option.some.inj (ho2.symm.trans hon)
    have h3 := hall e he hb
    rw [heq, unlisted (mem_ready.1 h1).1] at h3
    cases h3
  induction f with
  | zero =>
    intro l a w _ hr _ hy hS H
    refine ⟨fun h => (by rw [h] at hr; cases hr), fun j hj => ?_⟩
    by_cases e : j = i
    · subst e
      exact hy.wpOp hi hS ⟨.inr hS, H⟩
    · have hj2 := ready_mono hj e
      rw [H.1] at hj2
      cases hj2
  | succ f ih =>
    intro l a w hA hr hG hy hS H
    refine ⟨fun h => (by rw [h] at hr; cases hr), fun j hj => ?_⟩
    by_cases e : j = i
    · subst e
      exact hy.wpOp hi hS ⟨.inr hS, H⟩
    obtain ⟨hju, oj, hoj, hall⟩ := mem_ready.1 hj
    have hno : ∀ e ∈ oj.after, Region.binds md e = true → e.on ≠ i := by
      intro e he hb heq
      have h3 := hall e he hb
      rw [heq, unlisted (mem_ready.1 hr).1] at h3
      cases h3
    have hjn : n j = false := by
      cases h : n j with
      | false => rfl
      | true => exact absurd hj (last l j hr h)
    have hGj : ¬ Gone n (l.setIfInBounds j true) := fun h => hG (h.unset hjn)
    have step := wpOp_putIf hoj (hA j oj hoj e hju hno) (fun cs b => hsel i oi cs b hi) (fun cs b => hsel j oj cs b hoj) hQ hy (H.2 j (ready_mono hj e))
    refine wpOp_mono (fun a' w' g => ?_) step
    have hS' : S w' := g.2.1.resolve_left (fun h => hG (Gone.unset hni (h.unset hjn)))
    refine ⟨.inr hS', ih _ a' w' (hA.set hju) (ready_mono hr (Ne.symm e)) hGj g.1 hS' ?_⟩
    rw [Array.setIfInBounds_comm _ _ e]
    exact g.2.2
/-- one that reads no memory -/
theorem AnyW.take_free {i : Nat} {oi : Oper} {v : Value} (hi : ops[i]? = some oi) (hsel : ∀ (j : Nat) (o : Oper) cs b, ops[j]? = some o → o.op ≠ .select cs b)
    (hQ : ∀ c a w, Q (.panic c) (a.put oi.dst v) w → Q (.panic c) a w) (hni : n i = false) (f : Nat) :
    ∀ (l : Array Bool) (a : Act) (w : World), Alone md ops l i oi → i ∈ Region.ready md ops l → YieldsIf P ops (fun _ => True) oi v a → (Gone n l ∨ S w) →
      AnyW P md ops Q S n f (l.setIfInBounds i true) (a.put oi.dst v) w → AnyW P md ops Q S n (f + 1) l a w := by
  induction f with
  | zero =>
    intro l a w _ hr hy hS H
    refine ⟨fun h => (by rw [h] at hr; cases hr), fun j hj => ?_⟩
    by_cases e : j = i
    · subst e
      exact hy.wpOp hi trivial ⟨hS.imp (fun h => h.set j) id, H⟩
    · have hj2 := ready_mono hj e
      rw [H.1] at hj2
      cases hj2
  | succ f ih =>
    intro l a w hA hr hy hS H
    refine ⟨fun h => (by rw [h] at hr; cases hr), fun j hj => ?_⟩
    by_cases e : j = i
    · subst e
      exact hy.wpOp hi trivial ⟨hS.imp (fun h => h.set j) id, H⟩
    obtain ⟨hju, oj, hoj, hall⟩ := mem_ready.1 hj
    have hno : ∀ e ∈ oj.after, Region.binds md e = true → e.on ≠ i := by
      intro e he hb heq
      have h3 := hall e he hb
      rw [heq, unlisted (mem_ready.1 hr).1] at h3
      cases h3
    have step := wpOp_putIf hoj (hA j oj hoj e hju hno) (fun cs b => hsel i oi cs b hi) (fun cs b => hsel j oj cs b hoj) hQ hy (H.2 j (ready_mono hj e))
    refine wpOp_mono (fun a' w' g => ?_) step
    have hS' : Gone n (l.setIfInBounds j true) ∨ S w' := g.2.1.imp (fun h => by
      rw [Array.setIfInBounds_comm _ _ (Ne.symm e)] at h
      exact h.unset hni) id
    refine ⟨hS', ih _ a' w' (hA.set hju) (ready_mono hr (Ne.symm e)) g.1 hS' ?_⟩
    rw [Array.setIfInBounds_comm _ _ e]
    exact g.2.2
/-- one operation alone may come up -/
theorem AnyW.one (i : Nat) {o : Oper} {f : Nat} {l : Array Bool} {a : Act} {w : World} (hr : Region.ready md ops l = [i]) (ho : ops[i]? = some o)
    (h : ∀ K : Act → World → Prop, Shut (∀ a w, (Gone n (l.setIfInBounds i true) ∨ S w) → ((Gone n (l.setIfInBounds i true) ∨ S w) → AnyW P md ops Q S n f (l.setIfInBounds i true) a w) → K a w) → if Region.wanted o (yielded ops a.tmps) = true then Oper.wp P o a w K Q else K (a.put o.dst undef) w) :
    AnyW P md ops Q S n (f + 1) l a w := by
  refine ⟨fun h0 => (by rw [h0] at hr; cases hr), fun j hj => ?_⟩
  rw [hr] at hj
  obtain rfl := List.mem_singleton.1 hj
  exact wpOp_step ho (fun K hK => h K (fun a w hS hW => hK a w ⟨hS, hW hS⟩))
theorem AnyW.next {i : Nat} {oi : Oper} {d : Tmp} {v : Value} {f : Nat} {l : Array Bool} {ts : Array Value} {ds : List Deferred} {w : World} (hq : QuietP Q) (hs : Region.noSelect ops = true) (hS : S w) (hi : ops[i]? = some oi) (hd : oi.dst = some d)
    (hk : (Region.free md ops l i && ((Region.ready md ops l).contains i && (lateW md ops n i && (!n i && notGone n l)))) = true) (hy : YieldsIf P ops S oi v ⟨ts, ds⟩)
    (h : AnyW P md ops Q S n f (l.setIfInBounds i true) ⟨ts.setIfInBounds d v, ds⟩ w) : AnyW P md ops Q S n (f + 1) l ⟨ts, ds⟩ w := by
  simp only [Bool.and_eq_true, Bool.not_eq_true'] at hk
  refine AnyW.take_aux hi (Region.noSelect_spec hs) (fun c a w h => hq c a _ w (put_defers _ _ _) h) hk.2.2.1 hk.2.2.2.1 f l _ w (fun j oj h1 h2 h3 h4 => Region.free_spec hi hk.1 j oj h1 h2 h3 h4) (by simpa using hk.2.1) (notGone.spec hk.2.2.2.2) hy hS ?_
  rw [hd]
  exact h
theorem AnyW.nextT {i : Nat} {oi : Oper} {d : Tmp} {v : Value} {f : Nat} {l : Array Bool} {ts : Array Value} {ds : List Deferred} {w : World} (hq : QuietP Q) (hs : Region.noSelect ops = true) (hS : Gone n l ∨ S w) (hi : ops[i]? = some oi) (hd : oi.dst = some d)
    (hk : (Region.free md ops l i && ((Region.ready md ops l).contains i && !n i)) = true) (hy : YieldsIf P ops (fun _ => True) oi v ⟨ts, ds⟩)
    (h : AnyW P md ops Q S n f (l.setIfInBounds i true) ⟨ts.setIfInBounds d v, ds⟩ w) : AnyW P md ops Q S n (f + 1) l ⟨ts, ds⟩ w := by
  simp only [Bool.and_eq_true, Bool.not_eq_true'] at hk
  refine AnyW.take_free hi (Region.noSelect_spec hs) (fun c a w h => hq c a _ w (put_defers _ _ _) h) hk.2.2 f l _ w (fun j oj h1 h2 h3 h4 => Region.free_spec hi hk.1 j oj h1 h2 h3 h4) (by simpa using hk.2.1) hy hS ?_
  rw [hd]
  exact h
theorem AnyW.regionQ {id : Nat} {a : Act} {w : World} (n : Nat → Bool) (N : Nat) (S : World → Prop) (hN : ops.size = N) (hm : P.follows .mixedOrders = true) (hs : Region.noSelect ops = true) (hq : QuietP Q) (hS : S w.drew)
    (h : ∀ Q' : Exit → Act → World → Prop, Shut (∀ a w, Q .normal a w → Q' .normal a w) → QuietP Q' → Region.noSelect ops = true → S w.drew → AnyW P .any ops Q' S n N (Array.replicate N false) a w.drew) : (Code.region id ops true).wp P Q a w :=
  have h0 : ∀ a w, Q .normal a w → Q .normal a w := fun _ _ h => h
  by subst hN; exact wp_region_any hm (AnyW.any _ _ _ _ (h Q h0 hq hs hS))
theorem AnyW.done {f : Nat} {l : Array Bool} {a : Act} {w : World} (hr : Region.ready md ops l = []) (h : Q .normal a w) : AnyW P md ops Q S n f l a w := by
  cases f with
  | zero => exact ⟨hr, h⟩
  | succ f => exact ⟨fun _ => h, fun i hi => by rw [hr] at hi; cases hi⟩
def USomeW (P : Program) (md : Region.Mode) (ops : Array Oper) (Q : Exit → Act → World → Prop) (S : World → Prop) (n : Nat → Bool) (f : Nat) (l : Array Bool) (a : Act) (w : World) (i : Nat) : Prop :=
  wpOp P ops Q i (fun a' w' => (Gone n (l.setIfInBounds i true) ∨ S w') ∧ AnyW P md ops Q S n f (l.setIfInBounds i true) a' w') a w
theorem USomeW.mk {f : Nat} {l : Array Bool} {a : Act} {w : World} {i : Nat} {o : Oper} (ho : ops[i]? = some o)
    (h : ∀ K : Act → World → Prop, Shut (∀ a w, (Gone n (l.setIfInBounds i true) ∨ S w) → ((Gone n (l.setIfInBounds i true) ∨ S w) → AnyW P md ops Q S n f (l.setIfInBounds i true) a w) → K a w) → if Region.wanted o (yielded ops a.tmps) = true then Oper.wp P o a w K Q else K (a.put o.dst undef) w) : USomeW P md ops Q S n f l a w i :=
  wpOp_step ho (fun K hK => h K (fun a w hS hW => hK a w ⟨hS, hW hS⟩))
theorem AnyW.two {f : Nat} {l : Array Bool} {a : Act} {w : World} {i j : Nat} (hr : Region.ready md ops l = [i, j]) (h1 : USomeW P md ops Q S n f l a w i) (h2 : USomeW P md ops Q S n f l a w j) : AnyW P md ops Q S n (f + 1) l a w :=
  ⟨fun h0 => (by rw [h0] at hr; cases hr), fun k hk => by
    rw [hr] at hk
    simp only [List.mem_cons, List.not_mem_nil, or_false] at hk
    rcases hk with rfl | rfl
    · exact h1
    · exact h2⟩
end
end Go.Proofs.YtbgggepdlkbpoaaGreatDoor
namespace Go.Proofs.YtbgggepdlkbpoaaGreatDoor
end Go.Proofs.YtbgggepdlkbpoaaGreatDoor
namespace Go.Proofs.YtbgggepdlkbpoaaGreatDoor
end Go.Proofs.YtbgggepdlkbpoaaGreatDoor
