/- The walk of ExactOrder. -/
import Derived.Test.YtdkejndagicgjaaGN
import Derived.Test.YtdkejndagicgjaaGI
namespace Go.Proofs.Ytdkejndagicgjaa
open Go.RowKit

/-- what a drawn region keeps: two blocks -/
def U2 (w0 : World) (g1 : Nat) (l1 : List Value) (g2 : Nat) (l2 : List Value) (w' : World) : Prop := SB w' g1 l1 ∧ SB w' g2 l2 ∧ Below w0.heap.size w0 w'
theorem U2.nx {w0 w1 w2 : World} {g1 g2 : Nat} {l1 l2 : List Value} (h : U2 w0 g1 l1 g2 l2 w1) (hb : Below w1.heap.size w1 w2) : U2 w0 g1 l1 g2 l2 w2 := ⟨h.1.nx hb, h.2.1.nx hb, bt h.2.2 hb⟩
theorem U2.dr {w0 w1 : World} {g1 g2 : Nat} {l1 l2 : List Value} (h : U2 w0 g1 l1 g2 l2 w1) : U2 w0 g1 l1 g2 l2 w1.drew := h.nx (Below.drew (Below.refl _ _))
/-- one block and a variable's cells -/
def U3 (w0 : World) (g1 : Nat) (l1 : List Value) (g2 : Nat) (w' : World) : Prop := SB w' g1 l1 ∧ RC w' g2 6 ∧ Below g2 w0 w' ∧ g1 < g2
theorem U3.nx {w0 w1 w2 : World} {g1 g2 : Nat} {l1 : List Value} (h : U3 w0 g1 l1 g2 w1) (hb : Below w1.heap.size w1 w2) : U3 w0 g1 l1 g2 w2 := ⟨h.1.nx hb, h.2.1.nx hb, h.2.2.1.trans (hb.mono (Nat.le_of_lt h.2.1.2)), h.2.2.2⟩
theorem U3.dr {w0 w1 : World} {g1 g2 : Nat} {l1 : List Value} (h : U3 w0 g1 l1 g2 w1) : U3 w0 g1 l1 g2 w1.drew := h.nx (Below.drew (Below.refl _ _))
theorem U3.put6 {w0 w1 : World} {g1 g2 : Nat} {l1 : List Value} (h : U3 w0 g1 l1 g2 w1) (x y z x' y' z' : Value) : U3 w0 g1 l1 g2 (Go.Proofs.Ytdkejndagicgjaa.wr6 w1 g2 x y z x' y' z') :=
  ⟨h.1.wr6 (by have := h.2.2.2; omega) x y z x' y' z', (h.2.1.put6 x y z x' y' z').rc, wr6_below h.2.2.1 (Nat.le_refl _) x y z x' y' z', h.2.2.2⟩
theorem new3b (w : World) (l1 l2 l3 : List Value) (t1 t2 t3 : TypeId) : let W := ((w.alloc (.cells l1.toArray t1)).alloc (.cells l2.toArray t2)).alloc (.cells l3.toArray t3)
    SB W w.heap.size l1 ∧ SB W (w.heap.size + 1) l2 ∧ SB W (w.heap.size + 2) l3 ∧ Below w.heap.size w W := by
  intro W
  have h := S3.new w l1 l2 l3 t1 t2 t3 l3.length
  have s3 := SB.new ((w.alloc (.cells l1.toArray t1)).alloc (.cells l2.toArray t2)) l3 t3
  have z2 : ((w.alloc (.cells l1.toArray t1)).alloc (.cells l2.toArray t2)).heap.size = w.heap.size + 2 := by simp
  rw [z2] at s3
  exact ⟨h.1, h.2.1, s3, h.2.2.2⟩


set_option maxRecDepth 100000 in
set_option maxHeartbeats 16000000 in
theorem order_ok (V U T : Value) (ra ia rb ib rc ic : Rw) (w : World) (hV : VN w w.heap.size V ra ia) (hU : VN w w.heap.size U rb ib) (hT : VN w w.heap.size T rc ic)
    (ck ce : Int) (hc : ck = -1 ∨ ck = 0 ∨ ck = 1) (e1 : qcmpA ra ia rb ib = (ck, ce)) (e2 : qcmpA rb ib ra ia = (-ck, ce)) (xr xi : Rw) (xk : Int) (e3 : qaddA ra ia rc ic = (xr, xi, xk)) (yr yi : Rw) (yk : Int) (e4 : qaddA rb ib rc ic = (yr, yi, yk))
    (cm ci : Int) (e5 : qcmpA xr xi yr yi = (cm, ci)) (h5 : ce = 0 → xk = 0 → yk = 0 → ci = 0 → cm = ck) (qr qi sr si : Rw) (j : Int) (e6 : qdmA ra ia rb ib = (qr, qi, sr, si, j))
    (z : Rw) (hI : ∀ w, Calls Try.prog 26 #[.int .i64 0] w (RetN w z z))
    (main : (j ≠ 0 ∧ qr = rw0 ∧ qi = rw0 ∧ sr = rw0 ∧ si = rw0) ∨ (j = 0 ∧ wB qr qi = true ∧ (∀ pr pi tr ti, qmulA qr qi rb ib = (pr, pi, 0) → qaddA pr pi sr si = (tr, ti, 0) → sameB tr ti ra ia = true) ∧
      (∃ low, qcmpA sr si z z = (low, 0) ∧ 0 ≤ low) ∧ ∃ sg, qcmpA rb ib z z = (sg, 0) ∧
        (sg < 0 ∧ (∃ nr ni, qsubA z z rb ib = (nr, ni, 0) ∧ qcmpA sr si nr ni = (-1, 0)) ∨ ¬ sg < 0 ∧ qcmpA sr si rb ib = (-1, 0)))) :
    Calls Try.prog 9 #[V, U, T] w fun e w' => e = .returned (.bool true) ∧ Below w.heap.size w w' := by
  obtain ⟨A1, c1, D1, d1, A2, c2, D2, d2, rfl, p1, p2, p3, p4⟩ := hV
  obtain ⟨A3, c3, D3, d3, A4, c4, D4, d4, rfl, p5, p6, p7, p8⟩ := hU
  obtain ⟨A5, c5, D5, d5, A6, c6, D6, d6, rfl, p9, p10, p11, p12⟩ := hT
  have hn := new3b w [.bool ra.s, .slice A1 ra.a.length c1, .slice D1 ra.b.length d1, .bool ia.s, .slice A2 ia.a.length c2, .slice D2 ia.b.length d2] [.bool rb.s, .slice A3 rb.a.length c3, .slice D3 rb.b.length d3, .bool ib.s, .slice A4 ib.a.length c4, .slice D4 ib.b.length d4] [.bool rc.s, .slice A5 rc.a.length c5, .slice D5 rc.b.length d5, .bool ic.s, .slice A6 ic.a.length c6, .slice D6 ic.b.length d6] 26 26 26
  obtain ⟨S_a, S_b, S_c, C0⟩ := hn
  have H_a : VN w w.heap.size (.agg #[.bool ra.s, .slice A1 ra.a.length c1, .slice D1 ra.b.length d1, .bool ia.s, .slice A2 ia.a.length c2, .slice D2 ia.b.length d2]) ra ia := ⟨A1, c1, D1, d1, A2, c2, D2, d2, rfl, p1, p2, p3, p4⟩
  have H_a := H_a.st C0
  have H_b : VN w w.heap.size (.agg #[.bool rb.s, .slice A3 rb.a.length c3, .slice D3 rb.b.length d3, .bool ib.s, .slice A4 ib.a.length c4, .slice D4 ib.b.length d4]) rb ib := ⟨A3, c3, D3, d3, A4, c4, D4, d4, rfl, p5, p6, p7, p8⟩
  have H_b := H_b.st C0
  have H_c : VN w w.heap.size (.agg #[.bool rc.s, .slice A5 rc.a.length c5, .slice D5 rc.b.length d5, .bool ic.s, .slice A6 ic.a.length c6, .slice D6 ic.b.length d6]) rc ic := ⟨A5, c5, D5, d5, A6, c6, D6, d6, rfl, p9, p10, p11, p12⟩
  have H_c := H_c.st C0
  clear p1 p2 p3 p4 p5 p6 p7 p8 p9 p10 p11 p12
  have o1 := fun V U w' h1 h2 => ecmp_any (V := V) (U := U) (r := ra) (i := ia) (r' := rb) (i' := ib) (w := w') h1 h2
  rw [e1] at o1
  dsimp only at o1
  have o2 := fun V U w' h1 h2 => ecmp_any (V := V) (U := U) (r := rb) (i := ib) (r' := ra) (i' := ia) (w := w') h1 h2
  rw [e2] at o2
  dsimp only at o2
  have o3 := fun V U w' h1 h2 => eadd_any (V := V) (U := U) (r := ra) (i := ia) (r' := rc) (i' := ic) (w := w') h1 h2
  rw [e3] at o3
  have o4 := fun V U w' h1 h2 => eadd_any (V := V) (U := U) (r := rb) (i := ib) (r' := rc) (i' := ic) (w := w') h1 h2
  rw [e4] at o4
  have o5 := fun V U w' h1 h2 => ecmp_any (V := V) (U := U) (r := xr) (i := xi) (r' := yr) (i' := yi) (w := w') h1 h2
  rw [e5] at o5
  dsimp only at o5
  have o6 := fun V U w' h1 h2 => edm_any (V := V) (U := U) (r := ra) (i := ia) (r' := rb) (i' := ib) (w := w') h1 h2
  rw [e6] at o6
  clear e1 e2 e3 e4 e5 e6
  have w1 : IntKind.i64.wrap (-(-ck)) = ck := by rcases hc with rfl | rfl | rfl <;> rfl
  have w2 : IntKind.i64.wrap ck = ck := by rcases hc with rfl | rfl | rfl <;> rfl
  clear hc
  obtain ⟨W0, hW0⟩ : ∃ W0, W0 = ((w.alloc (.cells #[.bool ra.s, .slice A1 ra.a.length c1, .slice D1 ra.b.length d1, .bool ia.s, .slice A2 ia.a.length c2, .slice D2 ia.b.length d2] 26)).alloc (.cells #[.bool rb.s, .slice A3 rb.a.length c3, .slice D3 rb.b.length d3, .bool ib.s, .slice A4 ib.a.length c4, .slice D4 ib.b.length d4] 26)).alloc (.cells #[.bool rc.s, .slice A5 rc.a.length c5, .slice D5 rc.b.length d5, .bool ic.s, .slice A6 ic.a.length c6, .slice D6 ic.b.length d6] 26) := ⟨_, rfl⟩
  go_enter Try.func9, Try.ntmps9
  have i0 := S_a.cell 0
  have i1 := S_a.cell 1
  have i2 := S_a.cell 2
  have i3 := S_a.cell 3
  have i4 := S_a.cell 4
  have i5 := S_a.cell 5
  have j0 := S_b.cell 0
  have j1 := S_b.cell 1
  have j2 := S_b.cell 2
  have j3 := S_b.cell 3
  have j4 := S_b.cell 4
  have j5 := S_b.cell 5
  go_wp2_with fail
  clear i0 i1 i2 i3 i4 i5 j0 j1 j2 j3 j4 j5
  rw [← hW0] at S_a S_b S_c C0 H_a H_b H_c ⊢
  clear hW0
  refine (o1 _ _ _ H_a H_b).mono ?_; rintro e w3 ⟨rfl, B3⟩
  have S_a := S_a.nx B3
  have H_a := H_a.st B3
  have S_b := S_b.nx B3
  have H_b := H_b.st B3
  have S_c := S_c.nx B3
  have H_c := H_c.st B3
  have C0 := bt C0 B3
  have i0 := S_b.cell 0
  have i1 := S_b.cell 1
  have i2 := S_b.cell 2
  have i3 := S_b.cell 3
  have i4 := S_b.cell 4
  have i5 := S_b.cell 5
  have j0 := S_a.cell 0
  have j1 := S_a.cell 1
  have j2 := S_a.cell 2
  have j3 := S_a.cell 3
  have j4 := S_a.cell 4
  have j5 := S_a.cell 5
  go_wp2_with fail
  refine (o2 _ _ _ H_b H_a).mono ?_; rintro e w4 ⟨rfl, B4⟩
  clear i0 i1 i2 i3 i4 i5
  clear j0 j1 j2 j3 j4 j5
  have S_a := S_a.nx B4
  have H_a := H_a.st B4
  have S_b := S_b.nx B4
  have H_b := H_b.st B4
  have S_c := S_c.nx B4
  have H_c := H_c.st B4
  have C0 := bt C0 B4
  go_wp2_with fail
  refine (xawake_any _).mono ?_; rintro e w30 ⟨rfl, B30⟩
  have S_a := S_a.nx B30
  have H_a := H_a.st B30
  have S_b := S_b.nx B30
  have H_b := H_b.st B30
  have S_c := S_c.nx B30
  have H_c := H_c.st B30
  have C0 := bt C0 B30
  have i0 := S_a.cell 0
  have i1 := S_a.cell 1
  have i2 := S_a.cell 2
  have i3 := S_a.cell 3
  have i4 := S_a.cell 4
  have i5 := S_a.cell 5
  have j0 := S_c.cell 0
  have j1 := S_c.cell 1
  have j2 := S_c.cell 2
  have j3 := S_c.cell 3
  have j4 := S_c.cell 4
  have j5 := S_c.cell 5
  go_wp2_with fail
  refine (o3 _ _ _ H_a H_c).mono ?_; rintro e w5 ⟨A5a, c5a, D5a, d5a, A5b, c5b, D5b, d5b, rfl, O5a, O5b, O5c, O5d, B5⟩
  clear i0 i1 i2 i3 i4 i5
  clear j0 j1 j2 j3 j4 j5
  try dsimp only at O5a O5b O5c O5d
  have H_x : VN w5 w5.heap.size (.agg #[.bool xr.s, .slice A5a xr.a.length c5a, .slice D5a xr.b.length d5a, .bool xi.s, .slice A5b xi.a.length c5b, .slice D5b xi.b.length d5b]) xr xi := ⟨A5a, c5a, D5a, d5a, A5b, c5b, D5b, d5b, rfl, O5a.rw, O5b.rw, O5c.rw, O5d.rw⟩
  clear O5a O5b O5c O5d
  have S_a := S_a.nx B5
  have H_a := H_a.st B5
  have S_b := S_b.nx B5
  have H_b := H_b.st B5
  have S_c := S_c.nx B5
  have H_c := H_c.st B5
  have C0 := bt C0 B5
  have L5 := bal w5 (.cells #[.bool xr.s, .slice A5a xr.a.length c5a, .slice D5a xr.b.length d5a, .bool xi.s, .slice A5b xi.a.length c5b, .slice D5b xi.b.length d5b] 26)
  have S_x := SB.new w5 [.bool xr.s, .slice A5a xr.a.length c5a, .slice D5a xr.b.length d5a, .bool xi.s, .slice A5b xi.a.length c5b, .slice D5b xi.b.length d5b] 26
  have S_a := S_a.nx L5
  have H_a := H_a.st L5
  have S_b := S_b.nx L5
  have H_b := H_b.st L5
  have S_c := S_c.nx L5
  have H_c := H_c.st L5
  have H_x := H_x.st L5
  have C0 := bt C0 L5
  have i0 := S_b.cell 0
  have i1 := S_b.cell 1
  have i2 := S_b.cell 2
  have i3 := S_b.cell 3
  have i4 := S_b.cell 4
  have i5 := S_b.cell 5
  have j0 := S_c.cell 0
  have j1 := S_c.cell 1
  have j2 := S_c.cell 2
  have j3 := S_c.cell 3
  have j4 := S_c.cell 4
  have j5 := S_c.cell 5
  go_wp2_with fail
  refine (o4 _ _ _ H_b H_c).mono ?_; rintro e w6 ⟨A6a, c6a, D6a, d6a, A6b, c6b, D6b, d6b, rfl, O6a, O6b, O6c, O6d, B6⟩
  clear i0 i1 i2 i3 i4 i5
  clear j0 j1 j2 j3 j4 j5
  try dsimp only at O6a O6b O6c O6d
  have H_y : VN w6 w6.heap.size (.agg #[.bool yr.s, .slice A6a yr.a.length c6a, .slice D6a yr.b.length d6a, .bool yi.s, .slice A6b yi.a.length c6b, .slice D6b yi.b.length d6b]) yr yi := ⟨A6a, c6a, D6a, d6a, A6b, c6b, D6b, d6b, rfl, O6a.rw, O6b.rw, O6c.rw, O6d.rw⟩
  clear O6a O6b O6c O6d
  have S_a := S_a.nx B6
  have H_a := H_a.st B6
  have S_b := S_b.nx B6
  have H_b := H_b.st B6
  have S_c := S_c.nx B6
  have H_c := H_c.st B6
  have S_x := S_x.nx B6
  have H_x := H_x.st B6
  have C0 := bt C0 B6
  have L6 := bal w6 (.cells #[.bool yr.s, .slice A6a yr.a.length c6a, .slice D6a yr.b.length d6a, .bool yi.s, .slice A6b yi.a.length c6b, .slice D6b yi.b.length d6b] 26)
  have S_y := SB.new w6 [.bool yr.s, .slice A6a yr.a.length c6a, .slice D6a yr.b.length d6a, .bool yi.s, .slice A6b yi.a.length c6b, .slice D6b yi.b.length d6b] 26
  have S_a := S_a.nx L6
  have H_a := H_a.st L6
  have S_b := S_b.nx L6
  have H_b := H_b.st L6
  have S_c := S_c.nx L6
  have H_c := H_c.st L6
  have S_x := S_x.nx L6
  have H_x := H_x.st L6
  have H_y := H_y.st L6
  have C0 := bt C0 L6
  have i0 := S_x.cell 0
  have i1 := S_x.cell 1
  have i2 := S_x.cell 2
  have i3 := S_x.cell 3
  have i4 := S_x.cell 4
  have i5 := S_x.cell 5
  have j0 := S_y.cell 0
  have j1 := S_y.cell 1
  have j2 := S_y.cell 2
  have j3 := S_y.cell 3
  have j4 := S_y.cell 4
  have j5 := S_y.cell 5
  go_wp2_with fail
  refine (o5 _ _ _ H_x H_y).mono ?_; rintro e w7 ⟨rfl, B7⟩
  clear i0 i1 i2 i3 i4 i5
  clear j0 j1 j2 j3 j4 j5
  have S_a := S_a.nx B7
  have H_a := H_a.st B7
  have S_b := S_b.nx B7
  have H_b := H_b.st B7
  have S_c := S_c.nx B7
  have H_c := H_c.st B7
  have S_x := S_x.nx B7
  have H_x := H_x.st B7
  have S_y := S_y.nx B7
  have H_y := H_y.st B7
  have C0 := bt C0 B7
  clear S_x H_x
  clear S_y H_y
  clear S_c H_c
  go_upto_region 8 with fail
  go_cut [87] (fun s87 wx => s87 = .bool false ∧ wx = w7)
  case first =>
    by_cases z0 : ce = 0
    rotate_left
    · have z0' : (ce == 0) = false := beq_eq_false_iff_ne.2 z0
      go_wp2_with fail
      go_meet
      exact ⟨rfl, rfl⟩
    subst z0
    by_cases z1 : xk = 0
    rotate_left
    · have z1' : (xk == 0) = false := beq_eq_false_iff_ne.2 z1
      go_wp2_with fail
      go_meet
      exact ⟨rfl, rfl⟩
    subst z1
    by_cases z2 : yk = 0
    rotate_left
    · have z2' : (yk == 0) = false := beq_eq_false_iff_ne.2 z2
      go_wp2_with fail
      go_meet
      exact ⟨rfl, rfl⟩
    subst z2
    by_cases z3 : ci = 0
    rotate_left
    · have z3' : (ci == 0) = false := beq_eq_false_iff_ne.2 z3
      go_wp2_with fail
      go_meet
      exact ⟨rfl, rfl⟩
    subst z3
    have hm := h5 rfl rfl rfl rfl
    subst hm
    go_wp2_with fail
    go_meet
    exact ⟨rfl, rfl⟩
  case rest =>
    obtain ⟨rfl, rfl⟩ := hcut
    clear h5 w1 w2
    rcases main with ⟨hj, y1, y2, y3, y4⟩ | ⟨rfl, hw, hs, ⟨low, e15, hlow⟩, sg, e16, hsg⟩
    · have hj' : (j == 0) = false := beq_eq_false_iff_ne.2 hj
      have yy := Lib.hid (And.intro (And.intro y1 y2) (And.intro y3 y4))
      clear hI y1 y2 y3 y4
      have i0 := S_a.cell 0
      have i1 := S_a.cell 1
      have i2 := S_a.cell 2
      have i3 := S_a.cell 3
      have i4 := S_a.cell 4
      have i5 := S_a.cell 5
      have j0 := S_b.cell 0
      have j1 := S_b.cell 1
      have j2 := S_b.cell 2
      have j3 := S_b.cell 3
      have j4 := S_b.cell 4
      have j5 := S_b.cell 5
      go_wp2_with fail
      refine (o6 _ _ _ H_a H_b).mono ?_; rintro e w8 ⟨A8a, c8a, D8a, d8a, A8b, c8b, D8b, d8b, A8c, c8c, D8c, d8c, A8d, c8d, D8d, d8d, rfl, ⟨O1, O2, O3, O4⟩, ⟨O5, O6, O7, O8⟩, B8⟩
      try dsimp only at O1 O2 O3 O4 O5 O6 O7 O8
      clear i0 i1 i2 i3 i4 i5
      clear j0 j1 j2 j3 j4 j5
      have H_q : VN w8 w8.heap.size (.agg #[.bool qr.s, .slice A8a qr.a.length c8a, .slice D8a qr.b.length d8a, .bool qi.s, .slice A8b qi.a.length c8b, .slice D8b qi.b.length d8b]) qr qi := ⟨A8a, c8a, D8a, d8a, A8b, c8b, D8b, d8b, rfl, O1.rw, O2.rw, O3.rw, O4.rw⟩
      have H_r : VN w8 w8.heap.size (.agg #[.bool sr.s, .slice A8c sr.a.length c8c, .slice D8c sr.b.length d8c, .bool si.s, .slice A8d si.a.length c8d, .slice D8d si.b.length d8d]) sr si := ⟨A8c, c8c, D8c, d8c, A8d, c8d, D8d, d8d, rfl, O5.rw, O6.rw, O7.rw, O8.rw⟩
      clear O1 O2 O3 O4 O5 O6 O7 O8
      have S_a := S_a.nx B8
      have H_a := H_a.st B8
      have S_b := S_b.nx B8
      have H_b := H_b.st B8
      have C0 := bt C0 B8
      have L2 := bt (bal w8 (.cells #[.bool false, .slice none 0 0, .slice none 0 0, .bool false, .slice none 0 0, .slice none 0 0] 26)) (bal (w8.alloc (.cells #[.bool false, .slice none 0 0, .slice none 0 0, .bool false, .slice none 0 0, .slice none 0 0] 26)) (.cells #[.bool false, .slice none 0 0, .slice none 0 0, .bool false, .slice none 0 0, .slice none 0 0] 26))
      have S1 := (SB.new w8 [.bool false, .slice none 0 0, .slice none 0 0, .bool false, .slice none 0 0, .slice none 0 0] 26).nx (bal (w8.alloc (.cells #[.bool false, .slice none 0 0, .slice none 0 0, .bool false, .slice none 0 0, .slice none 0 0] 26)) (.cells #[.bool false, .slice none 0 0, .slice none 0 0, .bool false, .slice none 0 0, .slice none 0 0] 26))
      have S2 := SB.new (w8.alloc (.cells #[.bool false, .slice none 0 0, .slice none 0 0, .bool false, .slice none 0 0, .slice none 0 0] 26)) [.bool false, .slice none 0 0, .slice none 0 0, .bool false, .slice none 0 0, .slice none 0 0] 26
      rw [show (w8.alloc (.cells #[.bool false, .slice none 0 0, .slice none 0 0, .bool false, .slice none 0 0, .slice none 0 0] 26)).heap.size = w8.heap.size + 1 by simp] at S2
      have hR1 := S1.rc (n := 6)
      have hR2 := (S2.wr6 (r := w8.heap.size) (by omega) (.bool qr.s) (.slice A8a qr.a.length c8a) (.slice D8a qr.b.length d8a) (.bool qi.s) (.slice A8b qi.a.length c8b) (.slice D8b qi.b.length d8b)).rc (n := 6)
      have S_q := (hR1.put6 (.bool qr.s) (.slice A8a qr.a.length c8a) (.slice D8a qr.b.length d8a) (.bool qi.s) (.slice A8b qi.a.length c8b) (.slice D8b qi.b.length d8b)).wr6 (r := w8.heap.size + 1) (by omega) (.bool sr.s) (.slice A8c sr.a.length c8c) (.slice D8c sr.b.length d8c) (.bool si.s) (.slice A8d si.a.length c8d) (.slice D8d si.b.length d8d)
      have S_r := hR2.put6 (.bool sr.s) (.slice A8c sr.a.length c8c) (.slice D8c sr.b.length d8c) (.bool si.s) (.slice A8d si.a.length c8d) (.slice D8d si.b.length d8d)
      have BW := wr6_below (b := w8.heap.size + 1) (wr6_below (b := w8.heap.size) L2 (Nat.le_refl _) (.bool qr.s) (.slice A8a qr.a.length c8a) (.slice D8a qr.b.length d8a) (.bool qi.s) (.slice A8b qi.a.length c8b) (.slice D8b qi.b.length d8b)) (by omega) (.bool sr.s) (.slice A8c sr.a.length c8c) (.slice D8c sr.b.length d8c) (.bool si.s) (.slice A8d si.a.length c8d) (.slice D8d si.b.length d8d)
      obtain ⟨WF, hWF⟩ : ∃ WF, WF = wr6 (wr6 ((w8.alloc (.cells #[.bool false, .slice none 0 0, .slice none 0 0, .bool false, .slice none 0 0, .slice none 0 0] 26)).alloc (.cells #[.bool false, .slice none 0 0, .slice none 0 0, .bool false, .slice none 0 0, .slice none 0 0] 26)) w8.heap.size (.bool qr.s) (.slice A8a qr.a.length c8a) (.slice D8a qr.b.length d8a) (.bool qi.s) (.slice A8b qi.a.length c8b) (.slice D8b qi.b.length d8b)) (w8.heap.size + 1) (.bool sr.s) (.slice A8c sr.a.length c8c) (.slice D8c sr.b.length d8c) (.bool si.s) (.slice A8d si.a.length c8d) (.slice D8d si.b.length d8d) := ⟨_, rfl⟩
      rw [← hWF] at S_q S_r BW
      have S_a := S_a.nx BW
      have H_a := H_a.st BW
      have S_b := S_b.nx BW
      have H_b := H_b.st BW
      have H_q := H_q.st BW
      have H_r := H_r.st BW
      have C0 := bt C0 BW
      clear S1 S2 L2 BW
      go_upto_region 12 with ((refine wp_st6 rfl (.tmp 17) (.tmp 92) rfl _ rfl _ _ _ _ _ _ rfl hR1 rfl rfl rfl rfl rfl rfl ?_; refine wp_st6 rfl (.tmp 18) (.tmp 93) rfl _ rfl _ _ _ _ _ _ rfl hR2 rfl rfl rfl rfl rfl rfl ?_; rw [← hWF]; clear hWF hR1 hR2))
      generalize w8.heap.size = g1 at S_q S_r ⊢
      have HZ : VN WF WF.heap.size (.agg #[.bool false, .slice none 0 0, .slice none 0 0, .bool false, .slice none 0 0, .slice none 0 0]) rw0 rw0 := ⟨none, 0, none, 0, none, 0, none, 0, rfl, RW.nil _ _ _ _, RW.nil _ _ _ _, RW.nil _ _ _ _, RW.nil _ _ _ _⟩
      obtain ⟨tt, ht⟩ : ∃ t, t = sameB rw0 rw0 rw0 rw0 := ⟨_, rfl⟩
      have o7 := fun V U w' h1 h2 => esame_any V U qr qi rw0 rw0 w' h1 h2
      rw [show sameB qr qi rw0 rw0 = tt by rw [yy.out.1.1, yy.out.1.2, ht]] at o7
      have o8 := fun V U w' h1 h2 => esame_any V U sr si rw0 rw0 w' h1 h2
      rw [show sameB sr si rw0 rw0 = tt by rw [yy.out.2.1, yy.out.2.2, ht]] at o8
      clear ht yy
      have k12 : U2 WF g1 [.bool qr.s, .slice A8a qr.a.length c8a, .slice D8a qr.b.length d8a, .bool qi.s, .slice A8b qi.a.length c8b, .slice D8b qi.b.length d8b] (g1 + 1) [.bool sr.s, .slice A8c sr.a.length c8c, .slice D8c sr.b.length d8c, .bool si.s, .slice A8d si.a.length c8d, .slice D8d si.b.length d8d] WF := ⟨S_q, S_r, Below.refl _ _⟩
      clear S_a S_b S_q S_r
      have k12d := k12.dr
      have k12s := And.intro (k12d.1.cell 0) (And.intro (k12d.1.cell 1) (And.intro (k12d.1.cell 2) (And.intro (k12d.1.cell 3) (And.intro (k12d.1.cell 4) (And.intro (k12d.1.cell 5) (And.intro (k12d.2.1.cell 0) (And.intro (k12d.2.1.cell 1) (And.intro (k12d.2.1.cell 2) (And.intro (k12d.2.1.cell 3) (And.intro (k12d.2.1.cell 4) (And.intro (k12d.2.1.cell 5) (k12d))))))))))))
      go_region_held3 (fun w' => w'.cell? ⟨g1, 0, none⟩ = some (.bool qr.s) ∧ w'.cell? ⟨g1, 1, none⟩ = some (.slice A8a qr.a.length c8a) ∧ w'.cell? ⟨g1, 2, none⟩ = some (.slice D8a qr.b.length d8a) ∧ w'.cell? ⟨g1, 3, none⟩ = some (.bool qi.s) ∧ w'.cell? ⟨g1, 4, none⟩ = some (.slice A8b qi.a.length c8b) ∧ w'.cell? ⟨g1, 5, none⟩ = some (.slice D8b qi.b.length d8b) ∧ w'.cell? ⟨g1 + 1, 0, none⟩ = some (.bool sr.s) ∧ w'.cell? ⟨g1 + 1, 1, none⟩ = some (.slice A8c sr.a.length c8c) ∧ w'.cell? ⟨g1 + 1, 2, none⟩ = some (.slice D8c sr.b.length d8c) ∧ w'.cell? ⟨g1 + 1, 3, none⟩ = some (.bool si.s) ∧ w'.cell? ⟨g1 + 1, 4, none⟩ = some (.slice A8d si.a.length c8d) ∧ w'.cell? ⟨g1 + 1, 5, none⟩ = some (.slice D8d si.b.length d8d) ∧ U2 WF g1 [.bool qr.s, .slice A8a qr.a.length c8a, .slice D8a qr.b.length d8a, .bool qi.s, .slice A8b qi.a.length c8b, .slice D8b qi.b.length d8b] (g1 + 1) [.bool sr.s, .slice A8c sr.a.length c8c, .slice D8c sr.b.length d8c, .bool si.s, .slice A8d si.a.length c8d, .slice D8d si.b.length d8d] w')
        (first
          | with_reducible exact k12s
          | (have s1 := (by with_reducible assumption : _ ∧ _ ∧ _ ∧ _ ∧ _ ∧ _ ∧ _ ∧ _ ∧ _ ∧ _ ∧ _ ∧ _ ∧ U2 WF g1 [.bool qr.s, .slice A8a qr.a.length c8a, .slice D8a qr.b.length d8a, .bool qi.s, .slice A8b qi.a.length c8b, .slice D8b qi.b.length d8b] (g1 + 1) [.bool sr.s, .slice A8c sr.a.length c8c, .slice D8c sr.b.length d8c, .bool si.s, .slice A8d si.a.length c8d, .slice D8d si.b.length d8d] _).2.2.2.2.2.2.2.2.2.2.2.2.nx BX; have q0_ := s1.1.cell 0; have q1_ := s1.1.cell 1; have q2_ := s1.1.cell 2; have q3_ := s1.1.cell 3; have q4_ := s1.1.cell 4; have q5_ := s1.1.cell 5; have q6_ := s1.2.1.cell 0; have q7_ := s1.2.1.cell 1; have q8_ := s1.2.1.cell 2; have q9_ := s1.2.1.cell 3; have q10_ := s1.2.1.cell 4; have q11_ := s1.2.1.cell 5; with_reducible exact ⟨q0_, q1_, q2_, q3_, q4_, q5_, q6_, q7_, q8_, q9_, q10_, q11_, s1⟩))
        (first
          | (go_at_call_of 25 (Value.agg #[.bool qr.s, .slice A8a qr.a.length c8a, .slice D8a qr.b.length d8a, .bool qi.s, .slice A8b qi.a.length c8b, .slice D8b qi.b.length d8b]); have hh := (by with_reducible assumption : _ ∧ _ ∧ _ ∧ _ ∧ _ ∧ _ ∧ _ ∧ _ ∧ _ ∧ _ ∧ _ ∧ _ ∧ U2 WF g1 [.bool qr.s, .slice A8a qr.a.length c8a, .slice D8a qr.b.length d8a, .bool qi.s, .slice A8b qi.a.length c8b, .slice D8b qi.b.length d8b] (g1 + 1) [.bool sr.s, .slice A8c sr.a.length c8c, .slice D8c sr.b.length d8c, .bool si.s, .slice A8d si.a.length c8d, .slice D8d si.b.length d8d] _).2.2.2.2.2.2.2.2.2.2.2.2; refine (o7 _ _ _ (H_q.st hh.2.2) (HZ.st hh.2.2)).mono ?_; rintro e w50 ⟨rfl, BX⟩)
          | (go_at_call_of 25 (Value.agg #[.bool sr.s, .slice A8c sr.a.length c8c, .slice D8c sr.b.length d8c, .bool si.s, .slice A8d si.a.length c8d, .slice D8d si.b.length d8d]); have hh := (by with_reducible assumption : _ ∧ _ ∧ _ ∧ _ ∧ _ ∧ _ ∧ _ ∧ _ ∧ _ ∧ _ ∧ _ ∧ _ ∧ U2 WF g1 [.bool qr.s, .slice A8a qr.a.length c8a, .slice D8a qr.b.length d8a, .bool qi.s, .slice A8b qi.a.length c8b, .slice D8b qi.b.length d8b] (g1 + 1) [.bool sr.s, .slice A8c sr.a.length c8c, .slice D8c sr.b.length d8c, .bool si.s, .slice A8d si.a.length c8d, .slice D8d si.b.length d8d] _).2.2.2.2.2.2.2.2.2.2.2.2; refine (o8 _ _ _ (H_r.st hh.2.2) (HZ.st hh.2.2)).mono ?_; rintro e w51 ⟨rfl, BX⟩; have kk := hh.nx BX))
      go_wp2_with fail
      go_ret
      exact ⟨by simp, bt C0 kk.2.2⟩
    · skip
      have i0 := S_a.cell 0
      have i1 := S_a.cell 1
      have i2 := S_a.cell 2
      have i3 := S_a.cell 3
      have i4 := S_a.cell 4
      have i5 := S_a.cell 5
      have j0 := S_b.cell 0
      have j1 := S_b.cell 1
      have j2 := S_b.cell 2
      have j3 := S_b.cell 3
      have j4 := S_b.cell 4
      have j5 := S_b.cell 5
      go_wp2_with fail
      refine (o6 _ _ _ H_a H_b).mono ?_; rintro e w8 ⟨A8a, c8a, D8a, d8a, A8b, c8b, D8b, d8b, A8c, c8c, D8c, d8c, A8d, c8d, D8d, d8d, rfl, ⟨O1, O2, O3, O4⟩, ⟨O5, O6, O7, O8⟩, B8⟩
      try dsimp only at O1 O2 O3 O4 O5 O6 O7 O8
      clear i0 i1 i2 i3 i4 i5
      clear j0 j1 j2 j3 j4 j5
      have H_q : VN w8 w8.heap.size (.agg #[.bool qr.s, .slice A8a qr.a.length c8a, .slice D8a qr.b.length d8a, .bool qi.s, .slice A8b qi.a.length c8b, .slice D8b qi.b.length d8b]) qr qi := ⟨A8a, c8a, D8a, d8a, A8b, c8b, D8b, d8b, rfl, O1.rw, O2.rw, O3.rw, O4.rw⟩
      have H_r : VN w8 w8.heap.size (.agg #[.bool sr.s, .slice A8c sr.a.length c8c, .slice D8c sr.b.length d8c, .bool si.s, .slice A8d si.a.length c8d, .slice D8d si.b.length d8d]) sr si := ⟨A8c, c8c, D8c, d8c, A8d, c8d, D8d, d8d, rfl, O5.rw, O6.rw, O7.rw, O8.rw⟩
      clear O1 O2 O3 O4 O5 O6 O7 O8
      have S_a := S_a.nx B8
      have H_a := H_a.st B8
      have S_b := S_b.nx B8
      have H_b := H_b.st B8
      have C0 := bt C0 B8
      have L2 := bt (bal w8 (.cells #[.bool false, .slice none 0 0, .slice none 0 0, .bool false, .slice none 0 0, .slice none 0 0] 26)) (bal (w8.alloc (.cells #[.bool false, .slice none 0 0, .slice none 0 0, .bool false, .slice none 0 0, .slice none 0 0] 26)) (.cells #[.bool false, .slice none 0 0, .slice none 0 0, .bool false, .slice none 0 0, .slice none 0 0] 26))
      have S1 := (SB.new w8 [.bool false, .slice none 0 0, .slice none 0 0, .bool false, .slice none 0 0, .slice none 0 0] 26).nx (bal (w8.alloc (.cells #[.bool false, .slice none 0 0, .slice none 0 0, .bool false, .slice none 0 0, .slice none 0 0] 26)) (.cells #[.bool false, .slice none 0 0, .slice none 0 0, .bool false, .slice none 0 0, .slice none 0 0] 26))
      have S2 := SB.new (w8.alloc (.cells #[.bool false, .slice none 0 0, .slice none 0 0, .bool false, .slice none 0 0, .slice none 0 0] 26)) [.bool false, .slice none 0 0, .slice none 0 0, .bool false, .slice none 0 0, .slice none 0 0] 26
      rw [show (w8.alloc (.cells #[.bool false, .slice none 0 0, .slice none 0 0, .bool false, .slice none 0 0, .slice none 0 0] 26)).heap.size = w8.heap.size + 1 by simp] at S2
      have hR1 := S1.rc (n := 6)
      have hR2 := (S2.wr6 (r := w8.heap.size) (by omega) (.bool qr.s) (.slice A8a qr.a.length c8a) (.slice D8a qr.b.length d8a) (.bool qi.s) (.slice A8b qi.a.length c8b) (.slice D8b qi.b.length d8b)).rc (n := 6)
      have S_q := (hR1.put6 (.bool qr.s) (.slice A8a qr.a.length c8a) (.slice D8a qr.b.length d8a) (.bool qi.s) (.slice A8b qi.a.length c8b) (.slice D8b qi.b.length d8b)).wr6 (r := w8.heap.size + 1) (by omega) (.bool sr.s) (.slice A8c sr.a.length c8c) (.slice D8c sr.b.length d8c) (.bool si.s) (.slice A8d si.a.length c8d) (.slice D8d si.b.length d8d)
      have S_r := hR2.put6 (.bool sr.s) (.slice A8c sr.a.length c8c) (.slice D8c sr.b.length d8c) (.bool si.s) (.slice A8d si.a.length c8d) (.slice D8d si.b.length d8d)
      have BW := wr6_below (b := w8.heap.size + 1) (wr6_below (b := w8.heap.size) L2 (Nat.le_refl _) (.bool qr.s) (.slice A8a qr.a.length c8a) (.slice D8a qr.b.length d8a) (.bool qi.s) (.slice A8b qi.a.length c8b) (.slice D8b qi.b.length d8b)) (by omega) (.bool sr.s) (.slice A8c sr.a.length c8c) (.slice D8c sr.b.length d8c) (.bool si.s) (.slice A8d si.a.length c8d) (.slice D8d si.b.length d8d)
      obtain ⟨WF, hWF⟩ : ∃ WF, WF = wr6 (wr6 ((w8.alloc (.cells #[.bool false, .slice none 0 0, .slice none 0 0, .bool false, .slice none 0 0, .slice none 0 0] 26)).alloc (.cells #[.bool false, .slice none 0 0, .slice none 0 0, .bool false, .slice none 0 0, .slice none 0 0] 26)) w8.heap.size (.bool qr.s) (.slice A8a qr.a.length c8a) (.slice D8a qr.b.length d8a) (.bool qi.s) (.slice A8b qi.a.length c8b) (.slice D8b qi.b.length d8b)) (w8.heap.size + 1) (.bool sr.s) (.slice A8c sr.a.length c8c) (.slice D8c sr.b.length d8c) (.bool si.s) (.slice A8d si.a.length c8d) (.slice D8d si.b.length d8d) := ⟨_, rfl⟩
      rw [← hWF] at S_q S_r BW
      have S_a := S_a.nx BW
      have H_a := H_a.st BW
      have S_b := S_b.nx BW
      have H_b := H_b.st BW
      have H_q := H_q.st BW
      have H_r := H_r.st BW
      have C0 := bt C0 BW
      clear S1 S2 L2 BW
      go_upto_region 13 with ((refine wp_st6 rfl (.tmp 17) (.tmp 92) rfl _ rfl _ _ _ _ _ _ rfl hR1 rfl rfl rfl rfl rfl rfl ?_; refine wp_st6 rfl (.tmp 18) (.tmp 93) rfl _ rfl _ _ _ _ _ _ rfl hR2 rfl rfl rfl rfl rfl rfl ?_; rw [← hWF]; clear hWF hR1 hR2))
      generalize w8.heap.size = g1 at S_q S_r ⊢
      rcases em : qmulA qr qi rb ib with ⟨pr, pi, pk⟩
      rcases et : qaddA pr pi sr si with ⟨tr, ti, tk⟩
      have hs' : pk = 0 → tk = 0 → sameB tr ti ra ia = true := fun h1 h2 => hs pr pi tr ti (by rw [em, h1]) (by rw [et, h2])
      clear hs
      have o13 := fun V U w' h1 h2 => emul_any (V := V) (U := U) (r := qr) (i := qi) (r' := rb) (i' := ib) (w := w') h1 h2
      rw [em] at o13
      have o14 := fun V U w' h1 h2 => eadd_any (V := V) (U := U) (r := pr) (i := pi) (r' := sr) (i' := si) (w := w') h1 h2
      rw [et] at o14
      have o15 := fun V U w' h1 h2 => ecmp_any (V := V) (U := U) (r := sr) (i := si) (r' := z) (i' := z) (w := w') h1 h2
      rw [e15] at o15
      dsimp only at o15
      have o16 := fun V U w' h1 h2 => ecmp_any (V := V) (U := U) (r := rb) (i := ib) (r' := z) (i' := z) (w := w') h1 h2
      rw [e16] at o16
      dsimp only at o16
      clear em et e15 e16
      have o17 := fun V U w' h1 h2 => esame_any V U tr ti ra ia w' h1 h2
      have o18 := fun V w' h => whole1_any V qr qi w' h
      rw [hw] at o18
      clear hw o1 o2 o3 o4 o5 o6
      have i0 := S_q.cell 0
      have i1 := S_q.cell 1
      have i2 := S_q.cell 2
      have i3 := S_q.cell 3
      have i4 := S_q.cell 4
      have i5 := S_q.cell 5
      have j0 := S_b.cell 0
      have j1 := S_b.cell 1
      have j2 := S_b.cell 2
      have j3 := S_b.cell 3
      have j4 := S_b.cell 4
      have j5 := S_b.cell 5
      go_wp2_with fail
      refine (o13 _ _ _ H_q H_b).mono ?_; rintro e w9 ⟨A9a, c9a, D9a, d9a, A9b, c9b, D9b, d9b, rfl, O9a, O9b, O9c, O9d, B9⟩
      clear i0 i1 i2 i3 i4 i5
      clear j0 j1 j2 j3 j4 j5
      try dsimp only at O9a O9b O9c O9d
      have H_p : VN w9 w9.heap.size (.agg #[.bool pr.s, .slice A9a pr.a.length c9a, .slice D9a pr.b.length d9a, .bool pi.s, .slice A9b pi.a.length c9b, .slice D9b pi.b.length d9b]) pr pi := ⟨A9a, c9a, D9a, d9a, A9b, c9b, D9b, d9b, rfl, O9a.rw, O9b.rw, O9c.rw, O9d.rw⟩
      clear O9a O9b O9c O9d
      have S_a := S_a.nx B9
      have H_a := H_a.st B9
      have S_b := S_b.nx B9
      have H_b := H_b.st B9
      have S_q := S_q.nx B9
      have H_q := H_q.st B9
      have S_r := S_r.nx B9
      have H_r := H_r.st B9
      have C0 := bt C0 B9
      have L9 := bal w9 (.cells #[.bool pr.s, .slice A9a pr.a.length c9a, .slice D9a pr.b.length d9a, .bool pi.s, .slice A9b pi.a.length c9b, .slice D9b pi.b.length d9b] 26)
      have S_p := SB.new w9 [.bool pr.s, .slice A9a pr.a.length c9a, .slice D9a pr.b.length d9a, .bool pi.s, .slice A9b pi.a.length c9b, .slice D9b pi.b.length d9b] 26
      have S_a := S_a.nx L9
      have H_a := H_a.st L9
      have S_b := S_b.nx L9
      have H_b := H_b.st L9
      have S_q := S_q.nx L9
      have H_q := H_q.st L9
      have S_r := S_r.nx L9
      have H_r := H_r.st L9
      have H_p := H_p.st L9
      have C0 := bt C0 L9
      have i0 := S_p.cell 0
      have i1 := S_p.cell 1
      have i2 := S_p.cell 2
      have i3 := S_p.cell 3
      have i4 := S_p.cell 4
      have i5 := S_p.cell 5
      have j0 := S_r.cell 0
      have j1 := S_r.cell 1
      have j2 := S_r.cell 2
      have j3 := S_r.cell 3
      have j4 := S_r.cell 4
      have j5 := S_r.cell 5
      go_wp2_with fail
      refine (o14 _ _ _ H_p H_r).mono ?_; rintro e w10 ⟨A10a, c10a, D10a, d10a, A10b, c10b, D10b, d10b, rfl, O10a, O10b, O10c, O10d, B10⟩
      clear i0 i1 i2 i3 i4 i5
      clear j0 j1 j2 j3 j4 j5
      try dsimp only at O10a O10b O10c O10d
      have H_t : VN w10 w10.heap.size (.agg #[.bool tr.s, .slice A10a tr.a.length c10a, .slice D10a tr.b.length d10a, .bool ti.s, .slice A10b ti.a.length c10b, .slice D10b ti.b.length d10b]) tr ti := ⟨A10a, c10a, D10a, d10a, A10b, c10b, D10b, d10b, rfl, O10a.rw, O10b.rw, O10c.rw, O10d.rw⟩
      clear O10a O10b O10c O10d
      have S_a := S_a.nx B10
      have H_a := H_a.st B10
      have S_b := S_b.nx B10
      have H_b := H_b.st B10
      have S_q := S_q.nx B10
      have H_q := H_q.st B10
      have S_r := S_r.nx B10
      have H_r := H_r.st B10
      have S_p := S_p.nx B10
      have H_p := H_p.st B10
      have C0 := bt C0 B10
      have L10 := bal w10 (.cells #[.bool tr.s, .slice A10a tr.a.length c10a, .slice D10a tr.b.length d10a, .bool ti.s, .slice A10b ti.a.length c10b, .slice D10b ti.b.length d10b] 26)
      have S_t := SB.new w10 [.bool tr.s, .slice A10a tr.a.length c10a, .slice D10a tr.b.length d10a, .bool ti.s, .slice A10b ti.a.length c10b, .slice D10b ti.b.length d10b] 26
      have S_a := S_a.nx L10
      have H_a := H_a.st L10
      have S_b := S_b.nx L10
      have H_b := H_b.st L10
      have S_q := S_q.nx L10
      have H_q := H_q.st L10
      have S_r := S_r.nx L10
      have H_r := H_r.st L10
      have S_p := S_p.nx L10
      have H_p := H_p.st L10
      have H_t := H_t.st L10
      have C0 := bt C0 L10
      clear S_p H_p
      go_upto_region 15 with fail
      obtain ⟨W15, hW15⟩ : ∃ W15, W15 = w10.alloc (.cells #[.bool tr.s, .slice A10a tr.a.length c10a, .slice D10a tr.b.length d10a, .bool ti.s, .slice A10b ti.a.length c10b, .slice D10b ti.b.length d10b] 26) := ⟨_, rfl⟩
      rw [← hW15] at S_a H_a S_b H_b S_q H_q S_r H_r S_t H_t C0 ⊢
      clear hW15
      have k15 : U2 W15 (g1 + 1) [.bool sr.s, .slice A8c sr.a.length c8c, .slice D8c sr.b.length d8c, .bool si.s, .slice A8d si.a.length c8d, .slice D8d si.b.length d8d] (w.heap.size + 1) [.bool rb.s, .slice A3 rb.a.length c3, .slice D3 rb.b.length d3, .bool ib.s, .slice A4 ib.a.length c4, .slice D4 ib.b.length d4] W15 := ⟨S_r, S_b, Below.refl _ _⟩
      have k15d := k15.dr
      have k15s := And.intro (k15d.1.cell 0) (And.intro (k15d.1.cell 1) (And.intro (k15d.1.cell 2) (And.intro (k15d.1.cell 3) (And.intro (k15d.1.cell 4) (And.intro (k15d.1.cell 5) (k15d))))))
      go_region_held3 (fun w' => w'.cell? ⟨g1 + 1, 0, none⟩ = some (.bool sr.s) ∧ w'.cell? ⟨g1 + 1, 1, none⟩ = some (.slice A8c sr.a.length c8c) ∧ w'.cell? ⟨g1 + 1, 2, none⟩ = some (.slice D8c sr.b.length d8c) ∧ w'.cell? ⟨g1 + 1, 3, none⟩ = some (.bool si.s) ∧ w'.cell? ⟨g1 + 1, 4, none⟩ = some (.slice A8d si.a.length c8d) ∧ w'.cell? ⟨g1 + 1, 5, none⟩ = some (.slice D8d si.b.length d8d) ∧ U2 W15 (g1 + 1) [.bool sr.s, .slice A8c sr.a.length c8c, .slice D8c sr.b.length d8c, .bool si.s, .slice A8d si.a.length c8d, .slice D8d si.b.length d8d] (w.heap.size + 1) [.bool rb.s, .slice A3 rb.a.length c3, .slice D3 rb.b.length d3, .bool ib.s, .slice A4 ib.a.length c4, .slice D4 ib.b.length d4] w')
        (first
          | with_reducible exact k15s
          | (have s1 := (by with_reducible assumption : _ ∧ _ ∧ _ ∧ _ ∧ _ ∧ _ ∧ U2 W15 (g1 + 1) [.bool sr.s, .slice A8c sr.a.length c8c, .slice D8c sr.b.length d8c, .bool si.s, .slice A8d si.a.length c8d, .slice D8d si.b.length d8d] (w.heap.size + 1) [.bool rb.s, .slice A3 rb.a.length c3, .slice D3 rb.b.length d3, .bool ib.s, .slice A4 ib.a.length c4, .slice D4 ib.b.length d4] _).2.2.2.2.2.2.nx BX; have q0_ := s1.1.cell 0; have q1_ := s1.1.cell 1; have q2_ := s1.1.cell 2; have q3_ := s1.1.cell 3; have q4_ := s1.1.cell 4; have q5_ := s1.1.cell 5; with_reducible exact ⟨q0_, q1_, q2_, q3_, q4_, q5_, s1⟩))
        (first
          | (go_at_call 26; have hh := (by with_reducible assumption : _ ∧ _ ∧ _ ∧ _ ∧ _ ∧ _ ∧ U2 W15 (g1 + 1) [.bool sr.s, .slice A8c sr.a.length c8c, .slice D8c sr.b.length d8c, .bool si.s, .slice A8d si.a.length c8d, .slice D8d si.b.length d8d] (w.heap.size + 1) [.bool rb.s, .slice A3 rb.a.length c3, .slice D3 rb.b.length d3, .bool ib.s, .slice A4 ib.a.length c4, .slice D4 ib.b.length d4] _).2.2.2.2.2.2; refine (hI _).mono ?_; rintro e w60 ⟨A60, c60, D60, d60, E60, e60, F60, f60, rfl, O1, O2, O3, O4, BX⟩; have HZ : VN w60 w60.heap.size (.agg #[.bool z.s, .slice A60 z.a.length c60, .slice D60 z.b.length d60, .bool z.s, .slice E60 z.a.length e60, .slice F60 z.b.length f60]) z z := ⟨A60, c60, D60, d60, E60, e60, F60, f60, rfl, O1.rw, O2.rw, O3.rw, O4.rw⟩; clear O1 O2 O3 O4)
          | (go_at_call 31; have hh := (by with_reducible assumption : _ ∧ _ ∧ _ ∧ _ ∧ _ ∧ _ ∧ U2 W15 (g1 + 1) [.bool sr.s, .slice A8c sr.a.length c8c, .slice D8c sr.b.length d8c, .bool si.s, .slice A8d si.a.length c8d, .slice D8d si.b.length d8d] (w.heap.size + 1) [.bool rb.s, .slice A3 rb.a.length c3, .slice D3 rb.b.length d3, .bool ib.s, .slice A4 ib.a.length c4, .slice D4 ib.b.length d4] _).2.2.2.2.2.2; refine (o15 _ _ _ (H_r.st hh.2.2) HZ).mono ?_; rintro e w61 ⟨rfl, BX⟩; have kk := hh.nx BX))
      have BK := kk.2.2
      clear kk k15 k15d k15s
      have S_a := S_a.nx BK
      have H_a := H_a.st BK
      have S_b := S_b.nx BK
      have H_b := H_b.st BK
      have S_q := S_q.nx BK
      have H_q := H_q.st BK
      have S_r := S_r.nx BK
      have H_r := H_r.st BK
      have S_t := S_t.nx BK
      have H_t := H_t.st BK
      have C0 := bt C0 BK
      clear BK
      go_upto_region 16 with fail
      have k16 : U2 w61 (w.heap.size + 1) [.bool rb.s, .slice A3 rb.a.length c3, .slice D3 rb.b.length d3, .bool ib.s, .slice A4 ib.a.length c4, .slice D4 ib.b.length d4] (g1 + 1) [.bool sr.s, .slice A8c sr.a.length c8c, .slice D8c sr.b.length d8c, .bool si.s, .slice A8d si.a.length c8d, .slice D8d si.b.length d8d] w61 := ⟨S_b, S_r, Below.refl _ _⟩
      have k16d := k16.dr
      have k16s := And.intro (k16d.1.cell 0) (And.intro (k16d.1.cell 1) (And.intro (k16d.1.cell 2) (And.intro (k16d.1.cell 3) (And.intro (k16d.1.cell 4) (And.intro (k16d.1.cell 5) (k16d))))))
      go_region_held3 (fun w' => w'.cell? ⟨w.heap.size + 1, 0, none⟩ = some (.bool rb.s) ∧ w'.cell? ⟨w.heap.size + 1, 1, none⟩ = some (.slice A3 rb.a.length c3) ∧ w'.cell? ⟨w.heap.size + 1, 2, none⟩ = some (.slice D3 rb.b.length d3) ∧ w'.cell? ⟨w.heap.size + 1, 3, none⟩ = some (.bool ib.s) ∧ w'.cell? ⟨w.heap.size + 1, 4, none⟩ = some (.slice A4 ib.a.length c4) ∧ w'.cell? ⟨w.heap.size + 1, 5, none⟩ = some (.slice D4 ib.b.length d4) ∧ U2 w61 (w.heap.size + 1) [.bool rb.s, .slice A3 rb.a.length c3, .slice D3 rb.b.length d3, .bool ib.s, .slice A4 ib.a.length c4, .slice D4 ib.b.length d4] (g1 + 1) [.bool sr.s, .slice A8c sr.a.length c8c, .slice D8c sr.b.length d8c, .bool si.s, .slice A8d si.a.length c8d, .slice D8d si.b.length d8d] w')
        (first
          | with_reducible exact k16s
          | (have s1 := (by with_reducible assumption : _ ∧ _ ∧ _ ∧ _ ∧ _ ∧ _ ∧ U2 w61 (w.heap.size + 1) [.bool rb.s, .slice A3 rb.a.length c3, .slice D3 rb.b.length d3, .bool ib.s, .slice A4 ib.a.length c4, .slice D4 ib.b.length d4] (g1 + 1) [.bool sr.s, .slice A8c sr.a.length c8c, .slice D8c sr.b.length d8c, .bool si.s, .slice A8d si.a.length c8d, .slice D8d si.b.length d8d] _).2.2.2.2.2.2.nx BX; have q0_ := s1.1.cell 0; have q1_ := s1.1.cell 1; have q2_ := s1.1.cell 2; have q3_ := s1.1.cell 3; have q4_ := s1.1.cell 4; have q5_ := s1.1.cell 5; with_reducible exact ⟨q0_, q1_, q2_, q3_, q4_, q5_, s1⟩))
        (first
          | (go_at_call 26; have hh := (by with_reducible assumption : _ ∧ _ ∧ _ ∧ _ ∧ _ ∧ _ ∧ U2 w61 (w.heap.size + 1) [.bool rb.s, .slice A3 rb.a.length c3, .slice D3 rb.b.length d3, .bool ib.s, .slice A4 ib.a.length c4, .slice D4 ib.b.length d4] (g1 + 1) [.bool sr.s, .slice A8c sr.a.length c8c, .slice D8c sr.b.length d8c, .bool si.s, .slice A8d si.a.length c8d, .slice D8d si.b.length d8d] _).2.2.2.2.2.2; refine (hI _).mono ?_; rintro e w62 ⟨A62, c62, D62, d62, E62, e62, F62, f62, rfl, O1, O2, O3, O4, BX⟩; have HZ : VN w62 w62.heap.size (.agg #[.bool z.s, .slice A62 z.a.length c62, .slice D62 z.b.length d62, .bool z.s, .slice E62 z.a.length e62, .slice F62 z.b.length f62]) z z := ⟨A62, c62, D62, d62, E62, e62, F62, f62, rfl, O1.rw, O2.rw, O3.rw, O4.rw⟩; clear O1 O2 O3 O4)
          | (go_at_call 31; have hh := (by with_reducible assumption : _ ∧ _ ∧ _ ∧ _ ∧ _ ∧ _ ∧ U2 w61 (w.heap.size + 1) [.bool rb.s, .slice A3 rb.a.length c3, .slice D3 rb.b.length d3, .bool ib.s, .slice A4 ib.a.length c4, .slice D4 ib.b.length d4] (g1 + 1) [.bool sr.s, .slice A8c sr.a.length c8c, .slice D8c sr.b.length d8c, .bool si.s, .slice A8d si.a.length c8d, .slice D8d si.b.length d8d] _).2.2.2.2.2.2; refine (o16 _ _ _ (H_b.st hh.2.2) HZ).mono ?_; rintro e w63 ⟨rfl, BX⟩; have kk := hh.nx BX))
      have BK := kk.2.2
      clear kk k16 k16d k16s
      have S_a := S_a.nx BK
      have H_a := H_a.st BK
      have S_b := S_b.nx BK
      have H_b := H_b.st BK
      have S_q := S_q.nx BK
      have H_q := H_q.st BK
      have S_r := S_r.nx BK
      have H_r := H_r.st BK
      have S_t := S_t.nx BK
      have H_t := H_t.st BK
      have C0 := bt C0 BK
      clear BK
      clear o15 o16
      rcases hsg with ⟨hg, nr, ni, e19, e20⟩ | ⟨hg, e20⟩
      · skip
        have i0 := S_b.cell 0
        have i1 := S_b.cell 1
        have i2 := S_b.cell 2
        have i3 := S_b.cell 3
        have i4 := S_b.cell 4
        have i5 := S_b.cell 5
        have L := bal w63 (.cells #[.bool rb.s, .slice A3 rb.a.length c3, .slice D3 rb.b.length d3, .bool ib.s, .slice A4 ib.a.length c4, .slice D4 ib.b.length d4] 26)
        have SN := SB.new w63 [.bool rb.s, .slice A3 rb.a.length c3, .slice D3 rb.b.length d3, .bool ib.s, .slice A4 ib.a.length c4, .slice D4 ib.b.length d4] 26
        have hgb : w.heap.size + 1 < w63.heap.size := S_b.2
        have lt1 : decide (sg < 0) = true := by simp; omega
        go_upto_region 19 with fail
        clear i0 i1 i2 i3 i4 i5
        obtain ⟨W19, hW19⟩ : ∃ W19, W19 = (w63.alloc (.cells #[.bool rb.s, .slice A3 rb.a.length c3, .slice D3 rb.b.length d3, .bool ib.s, .slice A4 ib.a.length c4, .slice D4 ib.b.length d4] 26)) := ⟨_, rfl⟩
        rw [← hW19] at L SN ⊢
        clear hW19
        have k19 : U3 W19 (w.heap.size + 1) [.bool rb.s, .slice A3 rb.a.length c3, .slice D3 rb.b.length d3, .bool ib.s, .slice A4 ib.a.length c4, .slice D4 ib.b.length d4] w63.heap.size W19 := ⟨S_b.nx L, SN.rc, Below.refl _ _, hgb⟩
        have g63 := SN.2
        have o19 := fun V U w' h1 h2 => esub_any (V := V) (U := U) (r := z) (i := z) (r' := rb) (i' := ib) (w := w') h1 h2
        rw [e19] at o19
        have o20 := fun V U w' h1 h2 => ecmp_any (V := V) (U := U) (r := sr) (i := si) (r' := nr) (i' := ni) (w := w') h1 h2
        rw [e20] at o20
        dsimp only at o20
        clear e19 e20 SN
        have k19d := k19.dr
        have k19s := And.intro (k19d.1.cell 0) (And.intro (k19d.1.cell 1) (And.intro (k19d.1.cell 2) (And.intro (k19d.1.cell 3) (And.intro (k19d.1.cell 4) (And.intro (k19d.1.cell 5) (And.intro (k19d.2.1.cell 0) (And.intro (k19d.2.1.frozen 0) (And.intro (k19d.2.1.cell 1) (And.intro (k19d.2.1.frozen 1) (And.intro (k19d.2.1.cell 2) (And.intro (k19d.2.1.frozen 2) (And.intro (k19d.2.1.cell 3) (And.intro (k19d.2.1.frozen 3) (And.intro (k19d.2.1.cell 4) (And.intro (k19d.2.1.frozen 4) (And.intro (k19d.2.1.cell 5) (And.intro (k19d.2.1.frozen 5) (k19d))))))))))))))))))
        go_region_held3 (fun w' => w'.cell? ⟨w.heap.size + 1, 0, none⟩ = some (.bool rb.s) ∧ w'.cell? ⟨w.heap.size + 1, 1, none⟩ = some (.slice A3 rb.a.length c3) ∧ w'.cell? ⟨w.heap.size + 1, 2, none⟩ = some (.slice D3 rb.b.length d3) ∧ w'.cell? ⟨w.heap.size + 1, 3, none⟩ = some (.bool ib.s) ∧ w'.cell? ⟨w.heap.size + 1, 4, none⟩ = some (.slice A4 ib.a.length c4) ∧ w'.cell? ⟨w.heap.size + 1, 5, none⟩ = some (.slice D4 ib.b.length d4) ∧ w'.cell? ⟨w63.heap.size, 0, none⟩ = some (cv w' w63.heap.size 0) ∧ w'.frozen? ⟨w63.heap.size, 0, none⟩ = false ∧ w'.cell? ⟨w63.heap.size, 1, none⟩ = some (cv w' w63.heap.size 1) ∧ w'.frozen? ⟨w63.heap.size, 1, none⟩ = false ∧ w'.cell? ⟨w63.heap.size, 2, none⟩ = some (cv w' w63.heap.size 2) ∧ w'.frozen? ⟨w63.heap.size, 2, none⟩ = false ∧ w'.cell? ⟨w63.heap.size, 3, none⟩ = some (cv w' w63.heap.size 3) ∧ w'.frozen? ⟨w63.heap.size, 3, none⟩ = false ∧ w'.cell? ⟨w63.heap.size, 4, none⟩ = some (cv w' w63.heap.size 4) ∧ w'.frozen? ⟨w63.heap.size, 4, none⟩ = false ∧ w'.cell? ⟨w63.heap.size, 5, none⟩ = some (cv w' w63.heap.size 5) ∧ w'.frozen? ⟨w63.heap.size, 5, none⟩ = false ∧ U3 W19 (w.heap.size + 1) [.bool rb.s, .slice A3 rb.a.length c3, .slice D3 rb.b.length d3, .bool ib.s, .slice A4 ib.a.length c4, .slice D4 ib.b.length d4] w63.heap.size w')
          (first
            | with_reducible exact k19s
            | (have s1 := (by with_reducible assumption : _ ∧ _ ∧ _ ∧ _ ∧ _ ∧ _ ∧ _ ∧ _ ∧ _ ∧ _ ∧ _ ∧ _ ∧ _ ∧ _ ∧ _ ∧ _ ∧ _ ∧ _ ∧ U3 W19 (w.heap.size + 1) [.bool rb.s, .slice A3 rb.a.length c3, .slice D3 rb.b.length d3, .bool ib.s, .slice A4 ib.a.length c4, .slice D4 ib.b.length d4] w63.heap.size _).2.2.2.2.2.2.2.2.2.2.2.2.2.2.2.2.2.2.nx BX; have q0_ := s1.1.cell 0; have q1_ := s1.1.cell 1; have q2_ := s1.1.cell 2; have q3_ := s1.1.cell 3; have q4_ := s1.1.cell 4; have q5_ := s1.1.cell 5; have q6_ := s1.2.1.cell 0; have q7_ := s1.2.1.frozen 0; have q8_ := s1.2.1.cell 1; have q9_ := s1.2.1.frozen 1; have q10_ := s1.2.1.cell 2; have q11_ := s1.2.1.frozen 2; have q12_ := s1.2.1.cell 3; have q13_ := s1.2.1.frozen 3; have q14_ := s1.2.1.cell 4; have q15_ := s1.2.1.frozen 4; have q16_ := s1.2.1.cell 5; have q17_ := s1.2.1.frozen 5; with_reducible exact ⟨q0_, q1_, q2_, q3_, q4_, q5_, q6_, q7_, q8_, q9_, q10_, q11_, q12_, q13_, q14_, q15_, q16_, q17_, s1⟩)
            | (have s1 := (by with_reducible assumption : _ ∧ _ ∧ _ ∧ _ ∧ _ ∧ _ ∧ _ ∧ _ ∧ _ ∧ _ ∧ _ ∧ _ ∧ _ ∧ _ ∧ _ ∧ _ ∧ _ ∧ _ ∧ U3 W19 (w.heap.size + 1) [.bool rb.s, .slice A3 rb.a.length c3, .slice D3 rb.b.length d3, .bool ib.s, .slice A4 ib.a.length c4, .slice D4 ib.b.length d4] w63.heap.size _).2.2.2.2.2.2.2.2.2.2.2.2.2.2.2.2.2.2.put6 (.bool nr.s) (.slice A72 nr.a.length c72) (.slice D72 nr.b.length d72) (.bool ni.s) (.slice E72 ni.a.length e72) (.slice F72 ni.b.length f72); have q0_ := s1.1.cell 0; have q1_ := s1.1.cell 1; have q2_ := s1.1.cell 2; have q3_ := s1.1.cell 3; have q4_ := s1.1.cell 4; have q5_ := s1.1.cell 5; have q6_ := s1.2.1.cell 0; have q7_ := s1.2.1.frozen 0; have q8_ := s1.2.1.cell 1; have q9_ := s1.2.1.frozen 1; have q10_ := s1.2.1.cell 2; have q11_ := s1.2.1.frozen 2; have q12_ := s1.2.1.cell 3; have q13_ := s1.2.1.frozen 3; have q14_ := s1.2.1.cell 4; have q15_ := s1.2.1.frozen 4; have q16_ := s1.2.1.cell 5; have q17_ := s1.2.1.frozen 5; with_reducible exact ⟨q0_, q1_, q2_, q3_, q4_, q5_, q6_, q7_, q8_, q9_, q10_, q11_, q12_, q13_, q14_, q15_, q16_, q17_, s1⟩))
          (first
            | (go_at_call 26; have hh := (by with_reducible assumption : _ ∧ _ ∧ _ ∧ _ ∧ _ ∧ _ ∧ _ ∧ _ ∧ _ ∧ _ ∧ _ ∧ _ ∧ _ ∧ _ ∧ _ ∧ _ ∧ _ ∧ _ ∧ U3 W19 (w.heap.size + 1) [.bool rb.s, .slice A3 rb.a.length c3, .slice D3 rb.b.length d3, .bool ib.s, .slice A4 ib.a.length c4, .slice D4 ib.b.length d4] w63.heap.size _).2.2.2.2.2.2.2.2.2.2.2.2.2.2.2.2.2.2; refine (hI _).mono ?_; rintro e w70 ⟨A70, c70, D70, d70, E70, e70, F70, f70, rfl, O1, O2, O3, O4, BX⟩; have HZ : VN w70 w70.heap.size (.agg #[.bool z.s, .slice A70 z.a.length c70, .slice D70 z.b.length d70, .bool z.s, .slice E70 z.a.length e70, .slice F70 z.b.length f70]) z z := ⟨A70, c70, D70, d70, E70, e70, F70, f70, rfl, O1.rw, O2.rw, O3.rw, O4.rw⟩; clear O1 O2 O3 O4)
            | (go_at_call 24; have hh := (by with_reducible assumption : _ ∧ _ ∧ _ ∧ _ ∧ _ ∧ _ ∧ _ ∧ _ ∧ _ ∧ _ ∧ _ ∧ _ ∧ _ ∧ _ ∧ _ ∧ _ ∧ _ ∧ _ ∧ U3 W19 (w.heap.size + 1) [.bool rb.s, .slice A3 rb.a.length c3, .slice D3 rb.b.length d3, .bool ib.s, .slice A4 ib.a.length c4, .slice D4 ib.b.length d4] w63.heap.size _).2.2.2.2.2.2.2.2.2.2.2.2.2.2.2.2.2.2; refine (o19 _ _ _ (HZ) (H_b.step (L.trans hh.2.2.1) (Nat.le_of_lt hh.2.1.2))).mono ?_; rintro e w72 ⟨A72, c72, D72, d72, E72, e72, F72, f72, rfl, O1, O2, O3, O4, BX⟩; try dsimp only at O1 O2 O3 O4; have hl := hh.2.1.2; have kk := hh.nx BX))
        have S_n := kk.2.1.put6 (.bool nr.s) (.slice A72 nr.a.length c72) (.slice D72 nr.b.length d72) (.bool ni.s) (.slice E72 ni.a.length e72) (.slice F72 ni.b.length f72)
        have BF := L.trans (wr6_below (b := w63.heap.size) kk.2.2.1 (Nat.le_refl _) (.bool nr.s) (.slice A72 nr.a.length c72) (.slice D72 nr.b.length d72) (.bool ni.s) (.slice E72 ni.a.length e72) (.slice F72 ni.b.length f72))
        have O1 := O1.put6 (b := w63.heap.size) hl (.bool nr.s) (.slice A72 nr.a.length c72) (.slice D72 nr.b.length d72) (.bool ni.s) (.slice E72 ni.a.length e72) (.slice F72 ni.b.length f72)
        have O2 := O2.put6 (b := w63.heap.size) hl (.bool nr.s) (.slice A72 nr.a.length c72) (.slice D72 nr.b.length d72) (.bool ni.s) (.slice E72 ni.a.length e72) (.slice F72 ni.b.length f72)
        have O3 := O3.put6 (b := w63.heap.size) hl (.bool nr.s) (.slice A72 nr.a.length c72) (.slice D72 nr.b.length d72) (.bool ni.s) (.slice E72 ni.a.length e72) (.slice F72 ni.b.length f72)
        have O4 := O4.put6 (b := w63.heap.size) hl (.bool nr.s) (.slice A72 nr.a.length c72) (.slice D72 nr.b.length d72) (.bool ni.s) (.slice E72 ni.a.length e72) (.slice F72 ni.b.length f72)
        obtain ⟨W20, hW20⟩ : ∃ W20, W20 = wr6 w72 w63.heap.size (.bool nr.s) (.slice A72 nr.a.length c72) (.slice D72 nr.b.length d72) (.bool ni.s) (.slice E72 ni.a.length e72) (.slice F72 ni.b.length f72) := ⟨_, rfl⟩
        rw [← hW20] at S_n BF O1 O2 O3 O4
        have H_n : VN W20 W20.heap.size (.agg #[.bool nr.s, .slice A72 nr.a.length c72, .slice D72 nr.b.length d72, .bool ni.s, .slice E72 ni.a.length e72, .slice F72 ni.b.length f72]) nr ni := ⟨A72, c72, D72, d72, E72, e72, F72, f72, rfl, O1.rw, O2.rw, O3.rw, O4.rw⟩
        clear O1 O2 O3 O4 kk k19 k19d k19s HZ hl
        have S_a := S_a.nx BF
        have H_a := H_a.st BF
        have S_b := S_b.nx BF
        have H_b := H_b.st BF
        have S_q := S_q.nx BF
        have H_q := H_q.st BF
        have S_r := S_r.nx BF
        have H_r := H_r.st BF
        have S_t := S_t.nx BF
        have H_t := H_t.st BF
        have C0 := bt C0 BF
        unfold wr6 wr3 at hW20
        go_upto_region 20 with fail
        rw [← hW20]
        clear hW20 L BF
        have i0 := S_r.cell 0
        have i1 := S_r.cell 1
        have i2 := S_r.cell 2
        have i3 := S_r.cell 3
        have i4 := S_r.cell 4
        have i5 := S_r.cell 5
        have j0 := S_n.cell 0
        have j1 := S_n.cell 1
        have j2 := S_n.cell 2
        have j3 := S_n.cell 3
        have j4 := S_n.cell 4
        have j5 := S_n.cell 5
        go_wp2_with fail
        refine (o20 _ _ _ H_r H_n).mono ?_; rintro e w80 ⟨rfl, BX⟩
        clear i0 i1 i2 i3 i4 i5
        clear j0 j1 j2 j3 j4 j5
        have S_a := S_a.nx BX
        have H_a := H_a.st BX
        have S_b := S_b.nx BX
        have H_b := H_b.st BX
        have S_q := S_q.nx BX
        have H_q := H_q.st BX
        have S_r := S_r.nx BX
        have H_r := H_r.st BX
        have S_t := S_t.nx BX
        have H_t := H_t.st BX
        have S_n := S_n.nx BX
        have H_n := H_n.st BX
        have C0 := bt C0 BX
        clear BX
        have ge1 : decide (0 ≤ low) = true := by simp; omega
        go_upto_region 21 with fail
        by_cases hp : pk = 0
        rotate_left
        · have hp' : (pk == 0) = false := beq_eq_false_iff_ne.2 hp
          have i0 := S_q.cell 0
          have i1 := S_q.cell 1
          have i2 := S_q.cell 2
          have i3 := S_q.cell 3
          have i4 := S_q.cell 4
          have i5 := S_q.cell 5
          go_wp2_with fail
          refine (o18 _ _ H_q).mono ?_; rintro e w91 ⟨rfl, BX⟩
          go_wp2_with fail
          go_ret
          exact ⟨by simp, bt C0 BX⟩
        subst hp
        by_cases ht : tk = 0
        rotate_left
        · have ht' : (tk == 0) = false := beq_eq_false_iff_ne.2 ht
          have i0 := S_q.cell 0
          have i1 := S_q.cell 1
          have i2 := S_q.cell 2
          have i3 := S_q.cell 3
          have i4 := S_q.cell 4
          have i5 := S_q.cell 5
          go_wp2_with fail
          refine (o18 _ _ H_q).mono ?_; rintro e w91 ⟨rfl, BX⟩
          go_wp2_with fail
          go_ret
          exact ⟨by simp, bt C0 BX⟩
        subst ht
        rw [hs' rfl rfl] at o17
        have i0 := S_t.cell 0
        have i1 := S_t.cell 1
        have i2 := S_t.cell 2
        have i3 := S_t.cell 3
        have i4 := S_t.cell 4
        have i5 := S_t.cell 5
        have j0 := S_a.cell 0
        have j1 := S_a.cell 1
        have j2 := S_a.cell 2
        have j3 := S_a.cell 3
        have j4 := S_a.cell 4
        have j5 := S_a.cell 5
        go_wp2_with fail
        refine (o17 _ _ _ H_t H_a).mono ?_; rintro e w90 ⟨rfl, BX⟩
        clear i0 i1 i2 i3 i4 i5
        clear j0 j1 j2 j3 j4 j5
        have S_a := S_a.nx BX
        have H_a := H_a.st BX
        have S_b := S_b.nx BX
        have H_b := H_b.st BX
        have S_q := S_q.nx BX
        have H_q := H_q.st BX
        have S_r := S_r.nx BX
        have H_r := H_r.st BX
        have S_t := S_t.nx BX
        have H_t := H_t.st BX
        have S_n := S_n.nx BX
        have H_n := H_n.st BX
        have C0 := bt C0 BX
        clear BX
        have i0 := S_q.cell 0
        have i1 := S_q.cell 1
        have i2 := S_q.cell 2
        have i3 := S_q.cell 3
        have i4 := S_q.cell 4
        have i5 := S_q.cell 5
        go_wp2_with fail
        refine (o18 _ _ H_q).mono ?_; rintro e w91 ⟨rfl, BX⟩
        go_wp2_with fail
        go_ret
        exact ⟨by simp, bt C0 BX⟩
      · skip
        have i0 := S_b.cell 0
        have i1 := S_b.cell 1
        have i2 := S_b.cell 2
        have i3 := S_b.cell 3
        have i4 := S_b.cell 4
        have i5 := S_b.cell 5
        have L := bal w63 (.cells #[.bool rb.s, .slice A3 rb.a.length c3, .slice D3 rb.b.length d3, .bool ib.s, .slice A4 ib.a.length c4, .slice D4 ib.b.length d4] 26)
        have SN := SB.new w63 [.bool rb.s, .slice A3 rb.a.length c3, .slice D3 rb.b.length d3, .bool ib.s, .slice A4 ib.a.length c4, .slice D4 ib.b.length d4] 26
        have hgb : w.heap.size + 1 < w63.heap.size := S_b.2
        have lt1 : decide (sg < 0) = false := by simp; omega
        go_upto_region 20 with fail
        clear i0 i1 i2 i3 i4 i5
        have o20 := fun V U w' h1 h2 => ecmp_any (V := V) (U := U) (r := sr) (i := si) (r' := rb) (i' := ib) (w := w') h1 h2
        rw [e20] at o20
        dsimp only at o20
        clear e20
        have S_a := S_a.nx L
        have H_a := H_a.st L
        have S_b := S_b.nx L
        have H_b := H_b.st L
        have S_q := S_q.nx L
        have H_q := H_q.st L
        have S_r := S_r.nx L
        have H_r := H_r.st L
        have S_t := S_t.nx L
        have H_t := H_t.st L
        have C0 := bt C0 L
        have i0 := S_r.cell 0
        have i1 := S_r.cell 1
        have i2 := S_r.cell 2
        have i3 := S_r.cell 3
        have i4 := S_r.cell 4
        have i5 := S_r.cell 5
        have j0 := SN.cell 0
        have j1 := SN.cell 1
        have j2 := SN.cell 2
        have j3 := SN.cell 3
        have j4 := SN.cell 4
        have j5 := SN.cell 5
        go_wp2_with fail
        refine (o20 _ _ _ H_r H_b).mono ?_; rintro e w80 ⟨rfl, BX⟩
        clear i0 i1 i2 i3 i4 i5
        clear j0 j1 j2 j3 j4 j5
        have S_a := S_a.nx BX
        have H_a := H_a.st BX
        have S_b := S_b.nx BX
        have H_b := H_b.st BX
        have S_q := S_q.nx BX
        have H_q := H_q.st BX
        have S_r := S_r.nx BX
        have H_r := H_r.st BX
        have S_t := S_t.nx BX
        have H_t := H_t.st BX
        have C0 := bt C0 BX
        clear BX
        have ge1 : decide (0 ≤ low) = true := by simp; omega
        go_upto_region 21 with fail
        by_cases hp : pk = 0
        rotate_left
        · have hp' : (pk == 0) = false := beq_eq_false_iff_ne.2 hp
          have i0 := S_q.cell 0
          have i1 := S_q.cell 1
          have i2 := S_q.cell 2
          have i3 := S_q.cell 3
          have i4 := S_q.cell 4
          have i5 := S_q.cell 5
          go_wp2_with fail
          refine (o18 _ _ H_q).mono ?_; rintro e w91 ⟨rfl, BX⟩
          go_wp2_with fail
          go_ret
          exact ⟨by simp, bt C0 BX⟩
        subst hp
        by_cases ht : tk = 0
        rotate_left
        · have ht' : (tk == 0) = false := beq_eq_false_iff_ne.2 ht
          have i0 := S_q.cell 0
          have i1 := S_q.cell 1
          have i2 := S_q.cell 2
          have i3 := S_q.cell 3
          have i4 := S_q.cell 4
          have i5 := S_q.cell 5
          go_wp2_with fail
          refine (o18 _ _ H_q).mono ?_; rintro e w91 ⟨rfl, BX⟩
          go_wp2_with fail
          go_ret
          exact ⟨by simp, bt C0 BX⟩
        subst ht
        rw [hs' rfl rfl] at o17
        have i0 := S_t.cell 0
        have i1 := S_t.cell 1
        have i2 := S_t.cell 2
        have i3 := S_t.cell 3
        have i4 := S_t.cell 4
        have i5 := S_t.cell 5
        have j0 := S_a.cell 0
        have j1 := S_a.cell 1
        have j2 := S_a.cell 2
        have j3 := S_a.cell 3
        have j4 := S_a.cell 4
        have j5 := S_a.cell 5
        go_wp2_with fail
        refine (o17 _ _ _ H_t H_a).mono ?_; rintro e w90 ⟨rfl, BX⟩
        clear i0 i1 i2 i3 i4 i5
        clear j0 j1 j2 j3 j4 j5
        have S_a := S_a.nx BX
        have H_a := H_a.st BX
        have S_b := S_b.nx BX
        have H_b := H_b.st BX
        have S_q := S_q.nx BX
        have H_q := H_q.st BX
        have S_r := S_r.nx BX
        have H_r := H_r.st BX
        have S_t := S_t.nx BX
        have H_t := H_t.st BX
        have C0 := bt C0 BX
        clear BX
        have i0 := S_q.cell 0
        have i1 := S_q.cell 1
        have i2 := S_q.cell 2
        have i3 := S_q.cell 3
        have i4 := S_q.cell 4
        have i5 := S_q.cell 5
        go_wp2_with fail
        refine (o18 _ _ H_q).mono ?_; rintro e w91 ⟨rfl, BX⟩
        go_wp2_with fail
        go_ret
        exact ⟨by simp, bt C0 BX⟩

theorem exactOrder_walk (V : Value) (ra ia : Rw) (U : Value) (rb ib : Rw) (T : Value) (rc ic : Rw) (w : World) (hV : VN w w.heap.size V ra ia) (hU : VN w w.heap.size U rb ib) (hT : VN w w.heap.size T rc ic) :
    Calls Try.prog 9 #[V, U, T] w fun e w' => e = .returned (.bool true) ∧ Below w.heap.size w w' := by
  rcases e1 : qcmpA ra ia rb ib with ⟨ck, ce⟩
  obtain ⟨e2, hc⟩ := cmp_swap ra ia rb ib
  rw [e1] at e2 hc
  rcases e3 : qaddA ra ia rc ic with ⟨xr, xi, xk⟩
  rcases e4 : qaddA rb ib rc ic with ⟨yr, yi, yk⟩
  rcases e5 : qcmpA xr xi yr yi with ⟨cm, ci⟩
  rcases e6 : qdmA ra ia rb ib with ⟨qr, qi, sr, si, j⟩
  refine order_ok V U T ra ia rb ib rc ic w hV hU hT ck ce hc e1 e2 xr xi xk e3 yr yi yk e4 cm ci e5 ?_ qr qi sr si j e6 (rwq 0) (fun w => int_any 0 w (by omega) (by omega)) (order_div e6)
  intro h1 h2 h3 h4
  subst h1; subst h2; subst h3; subst h4
  exact order_sum e1 e3 e4 e5
end Go.Proofs.Ytdkejndagicgjaa
