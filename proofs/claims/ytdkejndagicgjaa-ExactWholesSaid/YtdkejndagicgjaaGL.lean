/- Merged texts: ExJ. -/
import Derived.Test.YtdkejndagicgjaaGH
import Derived.Test.YtdkejndagicgjaaGE
namespace Go.Proofs.Ytdkejndagicgjaa
open Go.RowKit


set_option maxRecDepth 100000 in
set_option maxHeartbeats 16000000 in
theorem rinverse_any (V : Value) (x y : Rat) (w : World) (hV : RN w w.heap.size V x y) (hne : ¬ (x = 0 ∧ y = 0)) (bx : qw x ≤ 600) (bY : qw y ≤ 600) :
    Calls Try.prog 52 #[V] w (RetN w (rwq (x * (x * x + y * y)⁻¹)) (rwq (-y * (x * x + y * y)⁻¹))) := by
  obtain ⟨A1, c1, D1, d1, A2, c2, D2, d2, rfl, r1, r2, r3, r4⟩ := hV
  simp only [rwq] at r1 r2 r3 r4 ⊢
  have hx : RQ w w.heap.size (.agg #[.bool (qn x), .slice A1 (digs (qt x)).length c1, .slice D1 (digs (qd x)).length d1]) x := ⟨A1, c1, D1, d1, rfl, r1, r2⟩
  have hy : RQ w w.heap.size (.agg #[.bool (qn y), .slice A2 (digs (qt y)).length c2, .slice D2 (digs (qd y)).length d2]) y := ⟨A2, c2, D2, d2, rfl, r3, r4⟩
  have k0 := S2.new w [.bool (qn x), .slice A1 (digs (qt x)).length c1, .slice D1 (digs (qd x)).length d1, .bool (qn y), .slice A2 (digs (qt y)).length c2, .slice D2 (digs (qd y)).length d2] [.bool false, .slice none 0 0, .slice none 0 0, .bool false, .slice none 0 0, .slice none 0 0] 26 26 6
  obtain ⟨hn1, hn2⟩ := norm_pos' hne
  have HN1 := Lib.hid hn1
  have HN2 := Lib.hid hn2
  clear hn1 hn2 hne
  have m1 := qw_mul x x
  have m2 := qw_mul y y
  have m3 := qw_add (x * x) (y * y)
  have hb : qw (x * x) + qw (y * y) ≤ 14000 := by omega
  have hb3 : qw x + qw (x * x + y * y)⁻¹ ≤ 14000 := by rw [qw_inv HN1.out HN2.out]; omega
  have hb4 : qw (-y) + qw (x * x + y * y)⁻¹ ≤ 14000 := by rw [qw_inv HN1.out HN2.out, qw_neg]; omega
  have conjS : ∀ w', S2 w w.heap.size [.bool (qn x), .slice A1 (digs (qt x)).length c1, .slice D1 (digs (qd x)).length d1, .bool (qn y), .slice A2 (digs (qt y)).length c2, .slice D2 (digs (qd y)).length d2] 6 w' → w'.cell? ⟨w.heap.size, 0, none⟩ = some (.bool (qn x)) ∧ w'.cell? ⟨w.heap.size, 1, none⟩ = some (.slice A1 (digs (qt x)).length c1) ∧ w'.cell? ⟨w.heap.size, 2, none⟩ = some (.slice D1 (digs (qd x)).length d1) ∧ w'.cell? ⟨w.heap.size, 3, none⟩ = some (.bool (qn y)) ∧ w'.cell? ⟨w.heap.size, 4, none⟩ = some (.slice A2 (digs (qt y)).length c2) ∧ w'.cell? ⟨w.heap.size, 5, none⟩ = some (.slice D2 (digs (qd y)).length d2) ∧ S2 w w.heap.size [.bool (qn x), .slice A1 (digs (qt x)).length c1, .slice D1 (digs (qd x)).length d1, .bool (qn y), .slice A2 (digs (qt y)).length c2, .slice D2 (digs (qd y)).length d2] 6 w' := fun w' h => ⟨h.1.cell 0, h.1.cell 1, h.1.cell 2, h.1.cell 3, h.1.cell 4, h.1.cell 5, h⟩
  go_enter Try.func52, Try.ntmps52
  obtain ⟨W0, hW0⟩ : ∃ W0, W0 = (w.alloc (.cells #[.bool (qn x), .slice A1 (digs (qt x)).length c1, .slice D1 (digs (qd x)).length d1, .bool (qn y), .slice A2 (digs (qt y)).length c2, .slice D2 (digs (qd y)).length d2] 26)).alloc (.cells #[.bool false, .slice none 0 0, .slice none 0 0, .bool false, .slice none 0 0, .slice none 0 0] 26) := ⟨_, rfl⟩
  go_wp2_with fail
  rw [← hW0] at k0 ⊢
  clear hW0
  have z00 := k0.2.1.2
  go_upto_region 1 with fail
  go_cut [3] (fun s3 wx => ∃ (g : Nat) (A : Option Addr) (c : Nat) (D : Option Addr) (d : Nat), s3 = .pointer (some ⟨g, 0, none⟩) ∧ SB wx g [.bool (qn (x * x + y * y)), .slice A (digs (qt (x * x + y * y))).length c, .slice D (digs (qd (x * x + y * y))).length d] ∧ S2 w w.heap.size [.bool (qn x), .slice A1 (digs (qt x)).length c1, .slice D1 (digs (qd x)).length d1, .bool (qn y), .slice A2 (digs (qt y)).length c2, .slice D2 (digs (qd y)).length d2] 6 wx ∧ w.heap.size + 1 < g ∧ g < wx.heap.size ∧ RW wx wx.heap.size A c (digs (qt (x * x + y * y))) ∧ RW wx wx.heap.size D d (digs (qd (x * x + y * y))) ∧ AV A (w.heap.size + 1) ∧ AV D (w.heap.size + 1))
  case first =>
    have k0d := k0.dr
    have k0s := And.intro (k0d.1.cell 0) (And.intro (k0d.1.cell 1) (And.intro (k0d.1.cell 2) (And.intro (k0d.1.cell 3) (And.intro (k0d.1.cell 4) (And.intro (k0d.1.cell 5) (k0d))))))
    go_region_held3 (fun w' => w'.cell? ⟨w.heap.size, 0, none⟩ = some (.bool (qn x)) ∧ w'.cell? ⟨w.heap.size, 1, none⟩ = some (.slice A1 (digs (qt x)).length c1) ∧ w'.cell? ⟨w.heap.size, 2, none⟩ = some (.slice D1 (digs (qd x)).length d1) ∧ w'.cell? ⟨w.heap.size, 3, none⟩ = some (.bool (qn y)) ∧ w'.cell? ⟨w.heap.size, 4, none⟩ = some (.slice A2 (digs (qt y)).length c2) ∧ w'.cell? ⟨w.heap.size, 5, none⟩ = some (.slice D2 (digs (qd y)).length d2) ∧ S2 w w.heap.size [.bool (qn x), .slice A1 (digs (qt x)).length c1, .slice D1 (digs (qd x)).length d1, .bool (qn y), .slice A2 (digs (qt y)).length c2, .slice D2 (digs (qd y)).length d2] 6 w')
      (first
        | with_reducible exact k0s
        | (have s1 := (by with_reducible assumption : _ ∧ _ ∧ _ ∧ _ ∧ _ ∧ _ ∧ S2 w w.heap.size [.bool (qn x), .slice A1 (digs (qt x)).length c1, .slice D1 (digs (qd x)).length d1, .bool (qn y), .slice A2 (digs (qt y)).length c2, .slice D2 (digs (qd y)).length d2] 6 _).2.2.2.2.2.2.nx BX; have q0_ := s1.1.cell 0; have q1_ := s1.1.cell 1; have q2_ := s1.1.cell 2; have q3_ := s1.1.cell 3; have q4_ := s1.1.cell 4; have q5_ := s1.1.cell 5; with_reducible exact ⟨q0_, q1_, q2_, q3_, q4_, q5_, s1⟩)
        | exact conjS _ ((by assumption : _ ∧ _ ∧ _ ∧ _ ∧ _ ∧ _ ∧ S2 w w.heap.size [.bool (qn x), .slice A1 (digs (qt x)).length c1, .slice D1 (digs (qd x)).length d1, .bool (qn y), .slice A2 (digs (qt y)).length c2, .slice D2 (digs (qd y)).length d2] 6 _).2.2.2.2.2.2.nx (bal _ _))
        | (refine conjS _ (S2.re (by assumption : _ ∧ _ ∧ _ ∧ _ ∧ _ ∧ _ ∧ S2 w w.heap.size [.bool (qn x), .slice A1 (digs (qt x)).length c1, .slice D1 (digs (qd x)).length d1, .bool (qn y), .slice A2 (digs (qt y)).length c2, .slice D2 (digs (qd y)).length d2] 6 _).2.2.2.2.2.2 ?_); assumption)
        | (refine conjS _ (S2.wr (by assumption : _ ∧ _ ∧ _ ∧ _ ∧ _ ∧ _ ∧ S2 w w.heap.size [.bool (qn x), .slice A1 (digs (qt x)).length c1, .slice D1 (digs (qd x)).length d1, .bool (qn y), .slice A2 (digs (qt y)).length c2, .slice D2 (digs (qd y)).length d2] 6 _).2.2.2.2.2.2 ?_ _ _ _); assumption))
      (first
        | (go_at_call_of 62 (Value.agg #[.bool (qn x), .slice A1 (digs (qt x)).length c1, .slice D1 (digs (qd x)).length d1]); have hh := (by with_reducible assumption : _ ∧ _ ∧ _ ∧ _ ∧ _ ∧ _ ∧ S2 w w.heap.size [.bool (qn x), .slice A1 (digs (qt x)).length c1, .slice D1 (digs (qd x)).length d1, .bool (qn y), .slice A2 (digs (qt y)).length c2, .slice D2 (digs (qd y)).length d2] 6 _).2.2.2.2.2.2; refine (rproduct_any _ _ x x _ (hx.st hh.2.2) (hx.st hh.2.2) (by omega)).mono ?_; rintro e w14 ⟨A14, c14, D14, d14, rfl, O14, P14, BX⟩; have B14 := BX; have z14 := (hh.nx BX).2.1.2; (first | (have sg := sg.nx BX; have g0 := sg.cell 0; have g1 := sg.cell 1; have g2 := sg.cell 2; have h0 := sg.frozen 0; have h1 := sg.frozen 1; have h2 := sg.frozen 2) | (have sg := (SB.new _ [.bool false, .slice none 0 0, .slice none 0 0] 24).nx BX; have g0 := sg.cell 0; have g1 := sg.cell 1; have g2 := sg.cell 2; have h0 := sg.frozen 0; have h1 := sg.frozen 1; have h2 := sg.frozen 2) | (have sg := ((SB.new _ [.bool false, .slice none 0 0, .slice none 0 0] 24).nx (Below.drew (Below.refl _ _))).nx BX; have g0 := sg.cell 0; have g1 := sg.cell 1; have g2 := sg.cell 2; have h0 := sg.frozen 0; have h1 := sg.frozen 1; have h2 := sg.frozen 2) | skip))
        | (go_at_call_of 62 (Value.agg #[.bool (qn y), .slice A2 (digs (qt y)).length c2, .slice D2 (digs (qd y)).length d2]); have hh := (by with_reducible assumption : _ ∧ _ ∧ _ ∧ _ ∧ _ ∧ _ ∧ S2 w w.heap.size [.bool (qn x), .slice A1 (digs (qt x)).length c1, .slice D1 (digs (qd x)).length d1, .bool (qn y), .slice A2 (digs (qt y)).length c2, .slice D2 (digs (qd y)).length d2] 6 _).2.2.2.2.2.2; refine (rproduct_any _ _ y y _ (hy.st hh.2.2) (hy.st hh.2.2) (by omega)).mono ?_; rintro e w15 ⟨A15, c15, D15, d15, rfl, O15, P15, BX⟩; have B15 := BX; have z15 := (hh.nx BX).2.1.2; (first | (have sg := sg.nx BX; have g0 := sg.cell 0; have g1 := sg.cell 1; have g2 := sg.cell 2; have h0 := sg.frozen 0; have h1 := sg.frozen 1; have h2 := sg.frozen 2) | (have sg := (SB.new _ [.bool false, .slice none 0 0, .slice none 0 0] 24).nx BX; have g0 := sg.cell 0; have g1 := sg.cell 1; have g2 := sg.cell 2; have h0 := sg.frozen 0; have h1 := sg.frozen 1; have h2 := sg.frozen 2) | (have sg := ((SB.new _ [.bool false, .slice none 0 0, .slice none 0 0] 24).nx (Below.drew (Below.refl _ _))).nx BX; have g0 := sg.cell 0; have g1 := sg.cell 1; have g2 := sg.cell 2; have h0 := sg.frozen 0; have h1 := sg.frozen 1; have h2 := sg.frozen 2) | skip))
        | ((first | have gl := sg.2 | skip); go_at_call 63; have hh := (by with_reducible assumption : _ ∧ _ ∧ _ ∧ _ ∧ _ ∧ _ ∧ S2 w w.heap.size [.bool (qn x), .slice A1 (digs (qt x)).length c1, .slice D1 (digs (qd x)).length d1, .bool (qn y), .slice A2 (digs (qt y)).length c2, .slice D2 (digs (qd y)).length d2] 6 _).2.2.2.2.2.2; refine (rsum_any _ _ (x * x) (y * y) _ (by first | (exact ⟨A14, c14, D14, d14, rfl, st O14.rw B15, st P14.rw B15⟩) | (exact ⟨A14, c14, D14, d14, rfl, st (st O14.rw (bal _ _)) B15, st (st P14.rw (bal _ _)) B15⟩) | (exact ⟨A14, c14, D14, d14, rfl, st (st O14.rw B15) (bal _ _), st (st P14.rw B15) (bal _ _)⟩)) (by first | (exact ⟨A15, c15, D15, d15, rfl, O15.rw, P15.rw⟩) | (exact ⟨A15, c15, D15, d15, rfl, st O15.rw (bal _ _), st P15.rw (bal _ _)⟩)) hb).mono ?_; rintro e w16 ⟨A16, c16, D16, d16, rfl, O16, P16, BX⟩; have B16 := BX; have z16 := (hh.nx BX).2.1.2; have kk := hh.nx BX; (first | (have sg := sg.nx BX; have g0 := sg.cell 0; have g1 := sg.cell 1; have g2 := sg.cell 2; have h0 := sg.frozen 0; have h1 := sg.frozen 1; have h2 := sg.frozen 2) | (have sg := (SB.new _ [.bool false, .slice none 0 0, .slice none 0 0] 24).nx BX; have g0 := sg.cell 0; have g1 := sg.cell 1; have g2 := sg.cell 2; have h0 := sg.frozen 0; have h1 := sg.frozen 1; have h2 := sg.frozen 2) | (have sg := ((SB.new _ [.bool false, .slice none 0 0, .slice none 0 0] 24).nx (Below.drew (Below.refl _ _))).nx BX; have g0 := sg.cell 0; have g1 := sg.cell 1; have g2 := sg.cell 2; have h0 := sg.frozen 0; have h1 := sg.frozen 1; have h2 := sg.frozen 2) | skip)))
    all_goals
      go_wp2_with fail
      go_meet
      first
        | (refine ⟨_, A16, c16, D16, d16, rfl, SB.new w16 _ _, kk.nx (bal _ _), ?_, ?_, ?_, ?_, av O16 ?_, av P16 ?_⟩
           · exact z16
           · simp
           · exact st O16.rw (bal _ _)
           · exact st P16.rw (bal _ _)
           · first | assumption | (simp; omega)
           · first | assumption | (simp; omega))
        | (refine ⟨_, A16, c16, D16, d16, rfl, SB.put3 sg _ _ _, S2.wr kk ?_ _ _ _, ?_, sgt sg, ?_, ?_, av O16 ?_, av P16 ?_⟩
           · assumption
           · assumption
           · exact (OW.put3 O16 gl _ _ _).rw
           · exact (OW.put3 P16 gl _ _ _).rw
           · first | assumption | (simp; omega)
           · first | assumption | (simp; omega))
        | (refine ⟨_, A16, c16, D16, d16, rfl, SB.put3 sg _ _ _, S2.wr kk ?_ _ _ _, ?_, sgt sg, ?_, ?_, av O16 ?_, av P16 ?_⟩
           · assumption
           · assumption
           · exact (OW.put3 O16 (by simp) _ _ _).rw
           · exact (OW.put3 P16 (by simp) _ _ _).rw
           · first | assumption | (simp; omega)
           · first | assumption | (simp; omega))
  case rest =>
    obtain ⟨g0, A, c, D, d, rfl, sg, k1, hg1, hg2, rA, rD, avA, avD⟩ := hcut
    have g0' := sg.cell 1
    have g1' := sg.cell 2
    have hgc : w.heap.size + 1 < wc.heap.size := by omega
    have k3 : SI w w.heap.size [.bool (qn x), .slice A1 (digs (qt x)).length c1, .slice D1 (digs (qd x)).length d1, .bool (qn y), .slice A2 (digs (qt y)).length c2, .slice D2 (digs (qd y)).length d2] wc.heap.size [.bool false, .slice D (digs (qd (x * x + y * y))).length d, .slice A (digs (qt (x * x + y * y))).length c] A c (digs (qt (x * x + y * y))) D d (digs (qd (x * x + y * y))) (wc.alloc (.cells #[.bool false, .slice D (digs (qd (x * x + y * y))).length d, .slice A (digs (qt (x * x + y * y))).length c] 24)) := ⟨k1.nx (bal _ _), SB.new wc [.bool false, .slice D (digs (qd (x * x + y * y))).length d, .slice A (digs (qt (x * x + y * y))).length c] 24, ⟨st rA (bal _ _), st rD (bal _ _)⟩, avA, avD, hgc⟩
    obtain ⟨W3, hW3⟩ : ∃ W3, W3 = wc.alloc (.cells #[.bool false, .slice D (digs (qd (x * x + y * y))).length d, .slice A (digs (qt (x * x + y * y))).length c] 24) := ⟨_, rfl⟩
    rw [← hW3] at k3
    go_wp2_with fail
    rw [← hW3]
    clear hW3 g0' g1' sg k1 rA rD
    generalize wc.heap.size = g at *
    have k3d := k3.dr
    have k3s := And.intro (k3d.1.1.cell 0) (And.intro (k3d.1.1.cell 1) (And.intro (k3d.1.1.cell 2) (And.intro (k3d.1.1.cell 3) (And.intro (k3d.1.1.cell 4) (And.intro (k3d.1.1.cell 5) (And.intro (k3d.2.1.cell 0) (And.intro (k3d.2.1.cell 1) (And.intro (k3d.2.1.cell 2) (And.intro (k3d.1.2.1.cell 0) (And.intro (k3d.1.2.1.frozen 0) (And.intro (k3d.1.2.1.cell 1) (And.intro (k3d.1.2.1.frozen 1) (And.intro (k3d.1.2.1.cell 2) (And.intro (k3d.1.2.1.frozen 2) (And.intro (k3d.1.2.1.cell 3) (And.intro (k3d.1.2.1.frozen 3) (And.intro (k3d.1.2.1.cell 4) (And.intro (k3d.1.2.1.frozen 4) (And.intro (k3d.1.2.1.cell 5) (And.intro (k3d.1.2.1.frozen 5) (k3d)))))))))))))))))))))
    go_region_held3 (fun w' => w'.cell? ⟨w.heap.size, 0, none⟩ = some (.bool (qn x)) ∧ w'.cell? ⟨w.heap.size, 1, none⟩ = some (.slice A1 (digs (qt x)).length c1) ∧ w'.cell? ⟨w.heap.size, 2, none⟩ = some (.slice D1 (digs (qd x)).length d1) ∧ w'.cell? ⟨w.heap.size, 3, none⟩ = some (.bool (qn y)) ∧ w'.cell? ⟨w.heap.size, 4, none⟩ = some (.slice A2 (digs (qt y)).length c2) ∧ w'.cell? ⟨w.heap.size, 5, none⟩ = some (.slice D2 (digs (qd y)).length d2) ∧ w'.cell? ⟨g, 0, none⟩ = some (.bool false) ∧ w'.cell? ⟨g, 1, none⟩ = some (.slice D (digs (qd (x * x + y * y))).length d) ∧ w'.cell? ⟨g, 2, none⟩ = some (.slice A (digs (qt (x * x + y * y))).length c) ∧ w'.cell? ⟨w.heap.size + 1, 0, none⟩ = some (cv w' (w.heap.size + 1) 0) ∧ w'.frozen? ⟨w.heap.size + 1, 0, none⟩ = false ∧ w'.cell? ⟨w.heap.size + 1, 1, none⟩ = some (cv w' (w.heap.size + 1) 1) ∧ w'.frozen? ⟨w.heap.size + 1, 1, none⟩ = false ∧ w'.cell? ⟨w.heap.size + 1, 2, none⟩ = some (cv w' (w.heap.size + 1) 2) ∧ w'.frozen? ⟨w.heap.size + 1, 2, none⟩ = false ∧ w'.cell? ⟨w.heap.size + 1, 3, none⟩ = some (cv w' (w.heap.size + 1) 3) ∧ w'.frozen? ⟨w.heap.size + 1, 3, none⟩ = false ∧ w'.cell? ⟨w.heap.size + 1, 4, none⟩ = some (cv w' (w.heap.size + 1) 4) ∧ w'.frozen? ⟨w.heap.size + 1, 4, none⟩ = false ∧ w'.cell? ⟨w.heap.size + 1, 5, none⟩ = some (cv w' (w.heap.size + 1) 5) ∧ w'.frozen? ⟨w.heap.size + 1, 5, none⟩ = false ∧ SI w w.heap.size [.bool (qn x), .slice A1 (digs (qt x)).length c1, .slice D1 (digs (qd x)).length d1, .bool (qn y), .slice A2 (digs (qt y)).length c2, .slice D2 (digs (qd y)).length d2] g [.bool false, .slice D (digs (qd (x * x + y * y))).length d, .slice A (digs (qt (x * x + y * y))).length c] A c (digs (qt (x * x + y * y))) D d (digs (qd (x * x + y * y))) w')
      (first
        | with_reducible exact k3s
        | (have s1 := (by with_reducible assumption : _ ∧ _ ∧ _ ∧ _ ∧ _ ∧ _ ∧ _ ∧ _ ∧ _ ∧ _ ∧ _ ∧ _ ∧ _ ∧ _ ∧ _ ∧ _ ∧ _ ∧ _ ∧ _ ∧ _ ∧ _ ∧ SI w w.heap.size [.bool (qn x), .slice A1 (digs (qt x)).length c1, .slice D1 (digs (qd x)).length d1, .bool (qn y), .slice A2 (digs (qt y)).length c2, .slice D2 (digs (qd y)).length d2] g [.bool false, .slice D (digs (qd (x * x + y * y))).length d, .slice A (digs (qt (x * x + y * y))).length c] A c (digs (qt (x * x + y * y))) D d (digs (qd (x * x + y * y))) _).2.2.2.2.2.2.2.2.2.2.2.2.2.2.2.2.2.2.2.2.2.nx BX; have q0_ := s1.1.1.cell 0; have q1_ := s1.1.1.cell 1; have q2_ := s1.1.1.cell 2; have q3_ := s1.1.1.cell 3; have q4_ := s1.1.1.cell 4; have q5_ := s1.1.1.cell 5; have q6_ := s1.2.1.cell 0; have q7_ := s1.2.1.cell 1; have q8_ := s1.2.1.cell 2; have q9_ := s1.1.2.1.cell 0; have q10_ := s1.1.2.1.frozen 0; have q11_ := s1.1.2.1.cell 1; have q12_ := s1.1.2.1.frozen 1; have q13_ := s1.1.2.1.cell 2; have q14_ := s1.1.2.1.frozen 2; have q15_ := s1.1.2.1.cell 3; have q16_ := s1.1.2.1.frozen 3; have q17_ := s1.1.2.1.cell 4; have q18_ := s1.1.2.1.frozen 4; have q19_ := s1.1.2.1.cell 5; have q20_ := s1.1.2.1.frozen 5; with_reducible exact ⟨q0_, q1_, q2_, q3_, q4_, q5_, q6_, q7_, q8_, q9_, q10_, q11_, q12_, q13_, q14_, q15_, q16_, q17_, q18_, q19_, q20_, s1⟩)
        | (have s1 := (by with_reducible assumption : _ ∧ _ ∧ _ ∧ _ ∧ _ ∧ _ ∧ _ ∧ _ ∧ _ ∧ _ ∧ _ ∧ _ ∧ _ ∧ _ ∧ _ ∧ _ ∧ _ ∧ _ ∧ _ ∧ _ ∧ _ ∧ SI w w.heap.size [.bool (qn x), .slice A1 (digs (qt x)).length c1, .slice D1 (digs (qd x)).length d1, .bool (qn y), .slice A2 (digs (qt y)).length c2, .slice D2 (digs (qd y)).length d2] g [.bool false, .slice D (digs (qd (x * x + y * y))).length d, .slice A (digs (qt (x * x + y * y))).length c] A c (digs (qt (x * x + y * y))) D d (digs (qd (x * x + y * y))) _).2.2.2.2.2.2.2.2.2.2.2.2.2.2.2.2.2.2.2.2.2.put6 (.bool (qn (x * (x * x + y * y)⁻¹))) (.slice A21 (digs (qt (x * (x * x + y * y)⁻¹))).length c21) (.slice D21 (digs (qd (x * (x * x + y * y)⁻¹))).length d21) (.bool (qn (-y * (x * x + y * y)⁻¹))) (.slice A23 (digs (qt (-y * (x * x + y * y)⁻¹))).length c23) (.slice D23 (digs (qd (-y * (x * x + y * y)⁻¹))).length d23); have q0_ := s1.1.1.cell 0; have q1_ := s1.1.1.cell 1; have q2_ := s1.1.1.cell 2; have q3_ := s1.1.1.cell 3; have q4_ := s1.1.1.cell 4; have q5_ := s1.1.1.cell 5; have q6_ := s1.2.1.cell 0; have q7_ := s1.2.1.cell 1; have q8_ := s1.2.1.cell 2; have q9_ := s1.1.2.1.cell 0; have q10_ := s1.1.2.1.frozen 0; have q11_ := s1.1.2.1.cell 1; have q12_ := s1.1.2.1.frozen 1; have q13_ := s1.1.2.1.cell 2; have q14_ := s1.1.2.1.frozen 2; have q15_ := s1.1.2.1.cell 3; have q16_ := s1.1.2.1.frozen 3; have q17_ := s1.1.2.1.cell 4; have q18_ := s1.1.2.1.frozen 4; have q19_ := s1.1.2.1.cell 5; have q20_ := s1.1.2.1.frozen 5; with_reducible exact ⟨q0_, q1_, q2_, q3_, q4_, q5_, q6_, q7_, q8_, q9_, q10_, q11_, q12_, q13_, q14_, q15_, q16_, q17_, q18_, q19_, q20_, s1⟩))
      (first
        | (go_at_call_of 62 (Value.agg #[.bool (qn x), .slice A1 (digs (qt x)).length c1, .slice D1 (digs (qd x)).length d1]); have hh := (by with_reducible assumption : _ ∧ _ ∧ _ ∧ _ ∧ _ ∧ _ ∧ _ ∧ _ ∧ _ ∧ _ ∧ _ ∧ _ ∧ _ ∧ _ ∧ _ ∧ _ ∧ _ ∧ _ ∧ _ ∧ _ ∧ _ ∧ SI w w.heap.size [.bool (qn x), .slice A1 (digs (qt x)).length c1, .slice D1 (digs (qd x)).length d1, .bool (qn y), .slice A2 (digs (qt y)).length c2, .slice D2 (digs (qd y)).length d2] g [.bool false, .slice D (digs (qd (x * x + y * y))).length d, .slice A (digs (qt (x * x + y * y))).length c] A c (digs (qt (x * x + y * y))) D d (digs (qd (x * x + y * y))) _).2.2.2.2.2.2.2.2.2.2.2.2.2.2.2.2.2.2.2.2.2; refine (rproduct_any _ _ x (x * x + y * y)⁻¹ _ (hx.st hh.1.2.2) (rq_inv HN1.out HN2.out hh.2.2.1.1 hh.2.2.1.2) hb3).mono ?_; rintro e w21 ⟨A21, c21, D21, d21, rfl, O21, P21, BX⟩; have B21 := BX)
        | (go_at_call 64; have hh := (by with_reducible assumption : _ ∧ _ ∧ _ ∧ _ ∧ _ ∧ _ ∧ _ ∧ _ ∧ _ ∧ _ ∧ _ ∧ _ ∧ _ ∧ _ ∧ _ ∧ _ ∧ _ ∧ _ ∧ _ ∧ _ ∧ _ ∧ SI w w.heap.size [.bool (qn x), .slice A1 (digs (qt x)).length c1, .slice D1 (digs (qd x)).length d1, .bool (qn y), .slice A2 (digs (qt y)).length c2, .slice D2 (digs (qd y)).length d2] g [.bool false, .slice D (digs (qd (x * x + y * y))).length d, .slice A (digs (qt (x * x + y * y))).length c] A c (digs (qt (x * x + y * y))) D d (digs (qd (x * x + y * y))) _).2.2.2.2.2.2.2.2.2.2.2.2.2.2.2.2.2.2.2.2.2; refine (rminus_any y A2 D2 c2 d2 _).mono ?_; rintro e w22 ⟨rfl, BX⟩; have B22 := BX)
        | (go_at_call_of 62 (Value.agg #[.bool (qn (-y)), .slice A2 (digs (qt (-y))).length c2, .slice D2 (digs (qd (-y))).length d2]); have hh := (by with_reducible assumption : _ ∧ _ ∧ _ ∧ _ ∧ _ ∧ _ ∧ _ ∧ _ ∧ _ ∧ _ ∧ _ ∧ _ ∧ _ ∧ _ ∧ _ ∧ _ ∧ _ ∧ _ ∧ _ ∧ _ ∧ _ ∧ SI w w.heap.size [.bool (qn x), .slice A1 (digs (qt x)).length c1, .slice D1 (digs (qd x)).length d1, .bool (qn y), .slice A2 (digs (qt y)).length c2, .slice D2 (digs (qd y)).length d2] g [.bool false, .slice D (digs (qd (x * x + y * y))).length d, .slice A (digs (qt (x * x + y * y))).length c] A c (digs (qt (x * x + y * y))) D d (digs (qd (x * x + y * y))) _).2.2.2.2.2.2.2.2.2.2.2.2.2.2.2.2.2.2.2.2.2; refine (rproduct_any _ _ (-y) (x * x + y * y)⁻¹ _ ⟨A2, c2, D2, d2, rfl, by rw [q_neg_t]; exact st r3 hh.1.2.2, by rw [q_neg_d]; exact st r4 hh.1.2.2⟩ (rq_inv HN1.out HN2.out hh.2.2.1.1 hh.2.2.1.2) hb4).mono ?_; rintro e w23 ⟨A23, c23, D23, d23, rfl, O23, P23, BX⟩; have B23 := BX; have kk := hh.nx BX; have sz := hh.1.2.1.2))
    have s6 := kk.1.2.1.put6 (.bool (qn (x * (x * x + y * y)⁻¹))) (.slice A21 (digs (qt (x * (x * x + y * y)⁻¹))).length c21) (.slice D21 (digs (qd (x * (x * x + y * y)⁻¹))).length d21) (.bool (qn (-y * (x * x + y * y)⁻¹))) (.slice A23 (digs (qt (-y * (x * x + y * y)⁻¹))).length c23) (.slice D23 (digs (qd (-y * (x * x + y * y)⁻¹))).length d23)
    have B6 := wr6_below (b := w.heap.size + 1) kk.1.2.2 (by omega) (.bool (qn (x * (x * x + y * y)⁻¹))) (.slice A21 (digs (qt (x * (x * x + y * y)⁻¹))).length c21) (.slice D21 (digs (qd (x * (x * x + y * y)⁻¹))).length d21) (.bool (qn (-y * (x * x + y * y)⁻¹))) (.slice A23 (digs (qt (-y * (x * x + y * y)⁻¹))).length c23) (.slice D23 (digs (qd (-y * (x * x + y * y)⁻¹))).length d23)
    have hz1 := k3d.1.2.1.2
    have BE := bt B22 B23
    have Oa := (O21.below BE (Nat.le_refl _)).put6 (b := w.heap.size + 1) hz1 (.bool (qn (x * (x * x + y * y)⁻¹))) (.slice A21 (digs (qt (x * (x * x + y * y)⁻¹))).length c21) (.slice D21 (digs (qd (x * (x * x + y * y)⁻¹))).length d21) (.bool (qn (-y * (x * x + y * y)⁻¹))) (.slice A23 (digs (qt (-y * (x * x + y * y)⁻¹))).length c23) (.slice D23 (digs (qd (-y * (x * x + y * y)⁻¹))).length d23)
    have Ob := (P21.below BE (Nat.le_refl _)).put6 (b := w.heap.size + 1) hz1 (.bool (qn (x * (x * x + y * y)⁻¹))) (.slice A21 (digs (qt (x * (x * x + y * y)⁻¹))).length c21) (.slice D21 (digs (qd (x * (x * x + y * y)⁻¹))).length d21) (.bool (qn (-y * (x * x + y * y)⁻¹))) (.slice A23 (digs (qt (-y * (x * x + y * y)⁻¹))).length c23) (.slice D23 (digs (qd (-y * (x * x + y * y)⁻¹))).length d23)
    have Oc := O23.put6 (b := w.heap.size + 1) sz (.bool (qn (x * (x * x + y * y)⁻¹))) (.slice A21 (digs (qt (x * (x * x + y * y)⁻¹))).length c21) (.slice D21 (digs (qd (x * (x * x + y * y)⁻¹))).length d21) (.bool (qn (-y * (x * x + y * y)⁻¹))) (.slice A23 (digs (qt (-y * (x * x + y * y)⁻¹))).length c23) (.slice D23 (digs (qd (-y * (x * x + y * y)⁻¹))).length d23)
    have Od := P23.put6 (b := w.heap.size + 1) sz (.bool (qn (x * (x * x + y * y)⁻¹))) (.slice A21 (digs (qt (x * (x * x + y * y)⁻¹))).length c21) (.slice D21 (digs (qd (x * (x * x + y * y)⁻¹))).length d21) (.bool (qn (-y * (x * x + y * y)⁻¹))) (.slice A23 (digs (qt (-y * (x * x + y * y)⁻¹))).length c23) (.slice D23 (digs (qd (-y * (x * x + y * y)⁻¹))).length d23)
    have r0' := s6.cell 0
    have r1' := s6.cell 1
    have r2' := s6.cell 2
    have r3' := s6.cell 3
    have r4' := s6.cell 4
    have r5' := s6.cell 5
    unfold wr6 wr3 at s6 B6 Oa Ob Oc Od r0' r1' r2' r3' r4' r5'
    go_wp2_with fail
    refine bodyPost_ret (v := .agg #[.bool (qn (x * (x * x + y * y)⁻¹)), .slice A21 (digs (qt (x * (x * x + y * y)⁻¹))).length c21, .slice D21 (digs (qd (x * (x * x + y * y)⁻¹))).length d21, .bool (qn (-y * (x * x + y * y)⁻¹)), .slice A23 (digs (qt (-y * (x * x + y * y)⁻¹))).length c23, .slice D23 (digs (qd (-y * (x * x + y * y)⁻¹))).length d23]) (by simp [results, r0', r1', r2', r3', r4', r5', go_sem]) rfl ?_
    have hle1 := Nat.le_of_lt (Nat.lt_of_succ_lt hz1)
    have hle2 := Nat.le_of_lt (Nat.lt_of_succ_lt sz)
    exact ⟨A21, c21, D21, d21, A23, c23, D23, d23, rfl, Oa.base_le hle1, Ob.base_le hle1, Oc.base_le hle2, Od.base_le hle2, B6⟩

end Go.Proofs.Ytdkejndagicgjaa
