/- The walk of ExactPowerLaws. -/
import Derived.Test.YtdkejndagicgjaaGP
import Derived.Test.YtdkejndagicgjaaGI
namespace Go.Proofs.Ytdkejndagicgjaa
open Go.RowKit

/-- what a drawn region keeps: one block -/
def U1 (w0 : World) (g1 : Nat) (l1 : List Value) (w' : World) : Prop := SB w' g1 l1 ∧ Below w0.heap.size w0 w'
theorem U1.nx {w0 w1 w2 : World} {g1 : Nat} {l1 : List Value} (h : U1 w0 g1 l1 w1) (hb : Below w1.heap.size w1 w2) : U1 w0 g1 l1 w2 := ⟨h.1.nx hb, bt h.2 hb⟩
theorem U1.dr {w0 w1 : World} {g1 : Nat} {l1 : List Value} (h : U1 w0 g1 l1 w1) : U1 w0 g1 l1 w1.drew := h.nx (Below.drew (Below.refl _ _))


set_option maxRecDepth 100000 in
set_option maxHeartbeats 16000000 in
theorem powers_ok (V : Value) (ra ia : Rw) (m n : Int) (w : World) (hV : VN w w.heap.size V ra ia) (hm : 0 ≤ m ∧ m ≤ 255) (hn : 0 ≤ n ∧ n ≤ 255) (I J : Int) (hI : m % 12 = I) (hJ : n % 12 = J) (xr xi yr yi zr zi wr wi : Rw) (e f g h : Int)
    (e1 : qexptA ra ia I = (xr, xi, e)) (e2 : qexptA ra ia J = (yr, yi, f)) (e3 : qexptA ra ia (I + J) = (zr, zi, g)) (e4 : qexptA ra ia (-I) = (wr, wi, h)) (z u : Rw) 
    (hz : ∀ w, Calls Try.prog 26 #[.int .i64 0] w (RetN w z z)) (hu : ∀ w, Calls Try.prog 26 #[.int .i64 1] w (RetN w u z))
    (main : e = 0 → f = 0 → g = 0 → (∃ pr pi, qmulA xr xi yr yi = (pr, pi, 0) ∧ sameB pr pi zr zi = true) ∧ ((sameB ra ia z z = true ∧ (I = 0 ∧ h = 0 ∨ 0 < I ∧ h = 3)) ∨
      (sameB ra ia z z = false ∧ (h = 4 ∨ h = 0 ∧ ∀ qr qi, qmulA xr xi wr wi = (qr, qi, 0) → sameB qr qi u z = true)))) :
    Calls Try.prog 7 #[V, .int .u8 m, .int .u8 n] w fun e w' => e = .returned (.bool true) ∧ Below w.heap.size w w' := by
  have hI0 : 0 ≤ I ∧ I < 12 := by omega
  have hJ0 : 0 ≤ J ∧ J < 12 := by omega
  obtain ⟨A1, c1, D1, d1, A2, c2, D2, d2, rfl, p1, p2, p3, p4⟩ := hV
  have S_a := SB.new w [.bool ra.s, .slice A1 ra.a.length c1, .slice D1 ra.b.length d1, .bool ia.s, .slice A2 ia.a.length c2, .slice D2 ia.b.length d2] 26
  have C0 := bal w (.cells #[.bool ra.s, .slice A1 ra.a.length c1, .slice D1 ra.b.length d1, .bool ia.s, .slice A2 ia.a.length c2, .slice D2 ia.b.length d2] 26)
  have H_a : VN w w.heap.size (.agg #[.bool ra.s, .slice A1 ra.a.length c1, .slice D1 ra.b.length d1, .bool ia.s, .slice A2 ia.a.length c2, .slice D2 ia.b.length d2]) ra ia := ⟨A1, c1, D1, d1, A2, c2, D2, d2, rfl, p1, p2, p3, p4⟩
  have H_a := H_a.st C0
  clear p1 p2 p3 p4
  have o1 := fun V w' h => eexpt_any (V := V) (r := ra) (i := ia) (n := I) (w := w') h
  rw [e1] at o1
  have o2 := fun V w' h => eexpt_any (V := V) (r := ra) (i := ia) (n := J) (w := w') h
  rw [e2] at o2
  have o3 := fun V w' h => eexpt_any (V := V) (r := ra) (i := ia) (n := (I + J)) (w := w') h
  rw [e3] at o3
  have o4 := fun V w' h => eexpt_any (V := V) (r := ra) (i := ia) (n := (-I)) (w := w') h
  rw [e4] at o4
  clear e1 e2 e3 e4
  obtain ⟨W0, hW0⟩ : ∃ W0, W0 = w.alloc (.cells #[.bool ra.s, .slice A1 ra.a.length c1, .slice D1 ra.b.length d1, .bool ia.s, .slice A2 ia.a.length c2, .slice D2 ia.b.length d2] 26) := ⟨_, rfl⟩
  go_enter Try.func7, Try.ntmps7
  have i0 := S_a.cell 0
  have i1 := S_a.cell 1
  have i2 := S_a.cell 2
  have i3 := S_a.cell 3
  have i4 := S_a.cell 4
  have i5 := S_a.cell 5
  go_wp2_with fail
  clear i0 i1 i2 i3 i4 i5
  rw [← hW0] at S_a C0 H_a ⊢
  clear hW0
  refine (o1 _ _ H_a).mono ?_; rintro e w3 ⟨A3a, c3a, D3a, d3a, A3b, c3b, D3b, d3b, rfl, O3a, O3b, O3c, O3d, B3⟩
  try dsimp only at O3a O3b O3c O3d
  have H_x : VN w3 w3.heap.size (.agg #[.bool xr.s, .slice A3a xr.a.length c3a, .slice D3a xr.b.length d3a, .bool xi.s, .slice A3b xi.a.length c3b, .slice D3b xi.b.length d3b]) xr xi := ⟨A3a, c3a, D3a, d3a, A3b, c3b, D3b, d3b, rfl, O3a.rw, O3b.rw, O3c.rw, O3d.rw⟩
  clear O3a O3b O3c O3d
  have S_a := S_a.nx B3
  have H_a := H_a.st B3
  have C0 := bt C0 B3
  have L3 := bal w3 (.cells #[.bool xr.s, .slice A3a xr.a.length c3a, .slice D3a xr.b.length d3a, .bool xi.s, .slice A3b xi.a.length c3b, .slice D3b xi.b.length d3b] 26)
  have S_x := SB.new w3 [.bool xr.s, .slice A3a xr.a.length c3a, .slice D3a xr.b.length d3a, .bool xi.s, .slice A3b xi.a.length c3b, .slice D3b xi.b.length d3b] 26
  have S_a := S_a.nx L3
  have H_a := H_a.st L3
  have H_x := H_x.st L3
  have C0 := bt C0 L3
  have i0 := S_a.cell 0
  have i1 := S_a.cell 1
  have i2 := S_a.cell 2
  have i3 := S_a.cell 3
  have i4 := S_a.cell 4
  have i5 := S_a.cell 5
  go_wp2_with fail
  refine (o2 _ _ H_a).mono ?_; rintro e w4 ⟨A4a, c4a, D4a, d4a, A4b, c4b, D4b, d4b, rfl, O4a, O4b, O4c, O4d, B4⟩
  clear i0 i1 i2 i3 i4 i5
  try dsimp only at O4a O4b O4c O4d
  have H_y : VN w4 w4.heap.size (.agg #[.bool yr.s, .slice A4a yr.a.length c4a, .slice D4a yr.b.length d4a, .bool yi.s, .slice A4b yi.a.length c4b, .slice D4b yi.b.length d4b]) yr yi := ⟨A4a, c4a, D4a, d4a, A4b, c4b, D4b, d4b, rfl, O4a.rw, O4b.rw, O4c.rw, O4d.rw⟩
  clear O4a O4b O4c O4d
  have S_a := S_a.nx B4
  have H_a := H_a.st B4
  have S_x := S_x.nx B4
  have H_x := H_x.st B4
  have C0 := bt C0 B4
  have L4 := bal w4 (.cells #[.bool yr.s, .slice A4a yr.a.length c4a, .slice D4a yr.b.length d4a, .bool yi.s, .slice A4b yi.a.length c4b, .slice D4b yi.b.length d4b] 26)
  have S_y := SB.new w4 [.bool yr.s, .slice A4a yr.a.length c4a, .slice D4a yr.b.length d4a, .bool yi.s, .slice A4b yi.a.length c4b, .slice D4b yi.b.length d4b] 26
  have S_a := S_a.nx L4
  have H_a := H_a.st L4
  have S_x := S_x.nx L4
  have H_x := H_x.st L4
  have H_y := H_y.st L4
  have C0 := bt C0 L4
  have i0 := S_a.cell 0
  have i1 := S_a.cell 1
  have i2 := S_a.cell 2
  have i3 := S_a.cell 3
  have i4 := S_a.cell 4
  have i5 := S_a.cell 5
  go_wp2_with fail
  refine (o3 _ _ H_a).mono ?_; rintro e w5 ⟨A5a, c5a, D5a, d5a, A5b, c5b, D5b, d5b, rfl, O5a, O5b, O5c, O5d, B5⟩
  clear i0 i1 i2 i3 i4 i5
  try dsimp only at O5a O5b O5c O5d
  have H_z : VN w5 w5.heap.size (.agg #[.bool zr.s, .slice A5a zr.a.length c5a, .slice D5a zr.b.length d5a, .bool zi.s, .slice A5b zi.a.length c5b, .slice D5b zi.b.length d5b]) zr zi := ⟨A5a, c5a, D5a, d5a, A5b, c5b, D5b, d5b, rfl, O5a.rw, O5b.rw, O5c.rw, O5d.rw⟩
  clear O5a O5b O5c O5d
  have S_a := S_a.nx B5
  have H_a := H_a.st B5
  have S_x := S_x.nx B5
  have H_x := H_x.st B5
  have S_y := S_y.nx B5
  have H_y := H_y.st B5
  have C0 := bt C0 B5
  have L5 := bal w5 (.cells #[.bool zr.s, .slice A5a zr.a.length c5a, .slice D5a zr.b.length d5a, .bool zi.s, .slice A5b zi.a.length c5b, .slice D5b zi.b.length d5b] 26)
  have S_z := SB.new w5 [.bool zr.s, .slice A5a zr.a.length c5a, .slice D5a zr.b.length d5a, .bool zi.s, .slice A5b zi.a.length c5b, .slice D5b zi.b.length d5b] 26
  have S_a := S_a.nx L5
  have H_a := H_a.st L5
  have S_x := S_x.nx L5
  have H_x := H_x.st L5
  have S_y := S_y.nx L5
  have H_y := H_y.st L5
  have H_z := H_z.st L5
  have C0 := bt C0 L5
  have i0 := S_a.cell 0
  have i1 := S_a.cell 1
  have i2 := S_a.cell 2
  have i3 := S_a.cell 3
  have i4 := S_a.cell 4
  have i5 := S_a.cell 5
  go_wp2_with fail
  refine (o4 _ _ H_a).mono ?_; rintro e w6 ⟨A6a, c6a, D6a, d6a, A6b, c6b, D6b, d6b, rfl, O6a, O6b, O6c, O6d, B6⟩
  clear i0 i1 i2 i3 i4 i5
  try dsimp only at O6a O6b O6c O6d
  have H_w : VN w6 w6.heap.size (.agg #[.bool wr.s, .slice A6a wr.a.length c6a, .slice D6a wr.b.length d6a, .bool wi.s, .slice A6b wi.a.length c6b, .slice D6b wi.b.length d6b]) wr wi := ⟨A6a, c6a, D6a, d6a, A6b, c6b, D6b, d6b, rfl, O6a.rw, O6b.rw, O6c.rw, O6d.rw⟩
  clear O6a O6b O6c O6d
  have S_a := S_a.nx B6
  have H_a := H_a.st B6
  have S_x := S_x.nx B6
  have H_x := H_x.st B6
  have S_y := S_y.nx B6
  have H_y := H_y.st B6
  have S_z := S_z.nx B6
  have H_z := H_z.st B6
  have C0 := bt C0 B6
  have L6 := bal w6 (.cells #[.bool wr.s, .slice A6a wr.a.length c6a, .slice D6a wr.b.length d6a, .bool wi.s, .slice A6b wi.a.length c6b, .slice D6b wi.b.length d6b] 26)
  have S_w := SB.new w6 [.bool wr.s, .slice A6a wr.a.length c6a, .slice D6a wr.b.length d6a, .bool wi.s, .slice A6b wi.a.length c6b, .slice D6b wi.b.length d6b] 26
  have S_a := S_a.nx L6
  have H_a := H_a.st L6
  have S_x := S_x.nx L6
  have H_x := H_x.st L6
  have S_y := S_y.nx L6
  have H_y := H_y.st L6
  have S_z := S_z.nx L6
  have H_z := H_z.st L6
  have H_w := H_w.st L6
  have C0 := bt C0 L6
  clear o1 o2 o3 o4
  go_wp2_with fail
  refine (xawake_any _).mono ?_; rintro ee w7 ⟨rfl, B7⟩
  have S_a := S_a.nx B7
  have H_a := H_a.st B7
  have S_x := S_x.nx B7
  have H_x := H_x.st B7
  have S_y := S_y.nx B7
  have H_y := H_y.st B7
  have S_z := S_z.nx B7
  have H_z := H_z.st B7
  have S_w := S_w.nx B7
  have H_w := H_w.st B7
  have C0 := bt C0 B7
  by_cases he : e = 0
  rotate_left
  · have hze : (e == 0) = false := beq_eq_false_iff_ne.2 he
    go_wp2_with fail
    refine (xawake_any _).mono ?_; rintro ee w8 ⟨rfl, B8⟩
    have S_a := S_a.nx B8
    have H_a := H_a.st B8
    have S_x := S_x.nx B8
    have H_x := H_x.st B8
    have S_y := S_y.nx B8
    have H_y := H_y.st B8
    have S_z := S_z.nx B8
    have H_z := H_z.st B8
    have S_w := S_w.nx B8
    have H_w := H_w.st B8
    have C0 := bt C0 B8
    go_wp2_with fail
    go_ret
    exact ⟨rfl, C0⟩
  subst he
  by_cases hf : f = 0
  rotate_left
  · have hzf : (f == 0) = false := beq_eq_false_iff_ne.2 hf
    go_wp2_with fail
    refine (xawake_any _).mono ?_; rintro ee w9 ⟨rfl, B9⟩
    have S_a := S_a.nx B9
    have H_a := H_a.st B9
    have S_x := S_x.nx B9
    have H_x := H_x.st B9
    have S_y := S_y.nx B9
    have H_y := H_y.st B9
    have S_z := S_z.nx B9
    have H_z := H_z.st B9
    have S_w := S_w.nx B9
    have H_w := H_w.st B9
    have C0 := bt C0 B9
    go_wp2_with fail
    go_ret
    exact ⟨rfl, C0⟩
  subst hf
  by_cases hg : g = 0
  rotate_left
  · have hzg : (g == 0) = false := beq_eq_false_iff_ne.2 hg
    go_wp2_with fail
    refine (xawake_any _).mono ?_; rintro ee w10 ⟨rfl, B10⟩
    have S_a := S_a.nx B10
    have H_a := H_a.st B10
    have S_x := S_x.nx B10
    have H_x := H_x.st B10
    have S_y := S_y.nx B10
    have H_y := H_y.st B10
    have S_z := S_z.nx B10
    have H_z := H_z.st B10
    have S_w := S_w.nx B10
    have H_w := H_w.st B10
    have C0 := bt C0 B10
    go_wp2_with fail
    go_ret
    exact ⟨rfl, C0⟩
  subst hg
  obtain ⟨⟨pr, pi, ep, hs1⟩, hcase⟩ := main rfl rfl rfl
  clear main
  have o5 := fun V U w' h1 h2 => emul_any (V := V) (U := U) (r := xr) (i := xi) (r' := yr) (i' := yi) (w := w') h1 h2
  rw [ep] at o5
  have o6 := fun V U w' h1 h2 => esame_any V U pr pi zr zi w' h1 h2
  rw [hs1] at o6
  clear ep hs1
  have i0 := S_x.cell 0
  have i1 := S_x.cell 1
  have i2 := S_x.cell 2
  have i3 := S_x.cell 3
  have i4 := S_x.cell 4
  have i5 := S_x.cell 5
  have j0 := S_y.cell 0
  have j1 := S_y.cell 1
  have j2 := S_y.cell 2
  have j3 := S_y.cell 3
  have j4 := S_y.cell 4
  have j5 := S_y.cell 5
  go_wp2_with fail
  refine (o5 _ _ _ H_x H_y).mono ?_; rintro e w11 ⟨A11a, c11a, D11a, d11a, A11b, c11b, D11b, d11b, rfl, O11a, O11b, O11c, O11d, B11⟩
  clear i0 i1 i2 i3 i4 i5
  clear j0 j1 j2 j3 j4 j5
  try dsimp only at O11a O11b O11c O11d
  have H_p : VN w11 w11.heap.size (.agg #[.bool pr.s, .slice A11a pr.a.length c11a, .slice D11a pr.b.length d11a, .bool pi.s, .slice A11b pi.a.length c11b, .slice D11b pi.b.length d11b]) pr pi := ⟨A11a, c11a, D11a, d11a, A11b, c11b, D11b, d11b, rfl, O11a.rw, O11b.rw, O11c.rw, O11d.rw⟩
  clear O11a O11b O11c O11d
  have S_a := S_a.nx B11
  have H_a := H_a.st B11
  have S_x := S_x.nx B11
  have H_x := H_x.st B11
  have S_y := S_y.nx B11
  have H_y := H_y.st B11
  have S_z := S_z.nx B11
  have H_z := H_z.st B11
  have S_w := S_w.nx B11
  have H_w := H_w.st B11
  have C0 := bt C0 B11
  have L11 := bal w11 (.cells #[.bool pr.s, .slice A11a pr.a.length c11a, .slice D11a pr.b.length d11a, .bool pi.s, .slice A11b pi.a.length c11b, .slice D11b pi.b.length d11b] 26)
  have S_p := SB.new w11 [.bool pr.s, .slice A11a pr.a.length c11a, .slice D11a pr.b.length d11a, .bool pi.s, .slice A11b pi.a.length c11b, .slice D11b pi.b.length d11b] 26
  have S_a := S_a.nx L11
  have H_a := H_a.st L11
  have S_x := S_x.nx L11
  have H_x := H_x.st L11
  have S_y := S_y.nx L11
  have H_y := H_y.st L11
  have S_z := S_z.nx L11
  have H_z := H_z.st L11
  have S_w := S_w.nx L11
  have H_w := H_w.st L11
  have H_p := H_p.st L11
  have C0 := bt C0 L11
  have i0 := S_p.cell 0
  have i1 := S_p.cell 1
  have i2 := S_p.cell 2
  have i3 := S_p.cell 3
  have i4 := S_p.cell 4
  have i5 := S_p.cell 5
  have j0 := S_z.cell 0
  have j1 := S_z.cell 1
  have j2 := S_z.cell 2
  have j3 := S_z.cell 3
  have j4 := S_z.cell 4
  have j5 := S_z.cell 5
  go_wp2_with fail
  refine (o6 _ _ _ H_p H_z).mono ?_; rintro ee w12 ⟨rfl, B12⟩
  clear i0 i1 i2 i3 i4 i5
  clear j0 j1 j2 j3 j4 j5
  have S_a := S_a.nx B12
  have H_a := H_a.st B12
  have S_x := S_x.nx B12
  have H_x := H_x.st B12
  have S_y := S_y.nx B12
  have H_y := H_y.st B12
  have S_z := S_z.nx B12
  have H_z := H_z.st B12
  have S_w := S_w.nx B12
  have H_w := H_w.st B12
  have S_p := S_p.nx B12
  have H_p := H_p.st B12
  have C0 := bt C0 B12
  clear S_p H_p
  clear S_y H_y
  clear S_z H_z
  clear o5 o6
  have o7 := fun V U w' h1 h2 => esame_any V U ra ia z z w' h1 h2
  rcases hcase with ⟨hs2, hh2⟩ | ⟨hs2, hh2⟩
  · rw [hs2] at o7
    clear hu
    go_upto_region 11 with fail
    have k11 : U1 w12 (w.heap.size) [.bool ra.s, .slice A1 ra.a.length c1, .slice D1 ra.b.length d1, .bool ia.s, .slice A2 ia.a.length c2, .slice D2 ia.b.length d2] w12 := ⟨S_a, Below.refl _ _⟩
    have k11d := k11.dr
    have k11s := And.intro (k11d.1.cell 0) (And.intro (k11d.1.cell 1) (And.intro (k11d.1.cell 2) (And.intro (k11d.1.cell 3) (And.intro (k11d.1.cell 4) (And.intro (k11d.1.cell 5) (k11d))))))
    go_region_held3 (fun w' => w'.cell? ⟨w.heap.size, 0, none⟩ = some (.bool ra.s) ∧ w'.cell? ⟨w.heap.size, 1, none⟩ = some (.slice A1 ra.a.length c1) ∧ w'.cell? ⟨w.heap.size, 2, none⟩ = some (.slice D1 ra.b.length d1) ∧ w'.cell? ⟨w.heap.size, 3, none⟩ = some (.bool ia.s) ∧ w'.cell? ⟨w.heap.size, 4, none⟩ = some (.slice A2 ia.a.length c2) ∧ w'.cell? ⟨w.heap.size, 5, none⟩ = some (.slice D2 ia.b.length d2) ∧ U1 w12 (w.heap.size) [.bool ra.s, .slice A1 ra.a.length c1, .slice D1 ra.b.length d1, .bool ia.s, .slice A2 ia.a.length c2, .slice D2 ia.b.length d2] w')
      (first
        | with_reducible exact k11s
        | (have s1 := (by with_reducible assumption : _ ∧ _ ∧ _ ∧ _ ∧ _ ∧ _ ∧ U1 w12 (w.heap.size) [.bool ra.s, .slice A1 ra.a.length c1, .slice D1 ra.b.length d1, .bool ia.s, .slice A2 ia.a.length c2, .slice D2 ia.b.length d2] _).2.2.2.2.2.2.nx BX; have q0_ := s1.1.cell 0; have q1_ := s1.1.cell 1; have q2_ := s1.1.cell 2; have q3_ := s1.1.cell 3; have q4_ := s1.1.cell 4; have q5_ := s1.1.cell 5; with_reducible exact ⟨q0_, q1_, q2_, q3_, q4_, q5_, s1⟩))
      (first
        | (go_at_call 26; have hh := (by with_reducible assumption : _ ∧ _ ∧ _ ∧ _ ∧ _ ∧ _ ∧ U1 w12 (w.heap.size) [.bool ra.s, .slice A1 ra.a.length c1, .slice D1 ra.b.length d1, .bool ia.s, .slice A2 ia.a.length c2, .slice D2 ia.b.length d2] _).2.2.2.2.2.2; refine (hz _).mono ?_; rintro e w60 ⟨A60, c60, D60, d60, E60, e60, F60, f60, rfl, O1, O2, O3, O4, BX⟩; have HZ : VN w60 w60.heap.size (.agg #[.bool z.s, .slice A60 z.a.length c60, .slice D60 z.b.length d60, .bool z.s, .slice E60 z.a.length e60, .slice F60 z.b.length f60]) z z := ⟨A60, c60, D60, d60, E60, e60, F60, f60, rfl, O1.rw, O2.rw, O3.rw, O4.rw⟩; clear O1 O2 O3 O4)
        | (go_at_call 25; have hh := (by with_reducible assumption : _ ∧ _ ∧ _ ∧ _ ∧ _ ∧ _ ∧ U1 w12 (w.heap.size) [.bool ra.s, .slice A1 ra.a.length c1, .slice D1 ra.b.length d1, .bool ia.s, .slice A2 ia.a.length c2, .slice D2 ia.b.length d2] _).2.2.2.2.2.2; refine (o7 _ _ _ (H_a.st hh.2) HZ).mono ?_; rintro e w61 ⟨rfl, BX⟩; have kk := hh.nx BX))
    have BK := kk.2
    clear kk k11 k11d k11s HZ
    have S_a := S_a.nx BK
    have H_a := H_a.st BK
    have S_x := S_x.nx BK
    have H_x := H_x.st BK
    have S_w := S_w.nx BK
    have H_w := H_w.st BK
    have C0 := bt C0 BK
    clear BK
    rcases hh2 with ⟨hi0, rfl⟩ | ⟨hpos, rfl⟩
    · subst hi0
      go_wp2_with fail
      go_ret
      exact ⟨by simp, C0⟩
    · have hi1 : (I == 0) = false := beq_eq_false_iff_ne.2 (by omega)
      go_wp2_with fail
      go_ret
      exact ⟨by simp, C0⟩
  · rw [hs2] at o7
    go_upto_region 11 with fail
    have k11 : U1 w12 (w.heap.size) [.bool ra.s, .slice A1 ra.a.length c1, .slice D1 ra.b.length d1, .bool ia.s, .slice A2 ia.a.length c2, .slice D2 ia.b.length d2] w12 := ⟨S_a, Below.refl _ _⟩
    have k11d := k11.dr
    have k11s := And.intro (k11d.1.cell 0) (And.intro (k11d.1.cell 1) (And.intro (k11d.1.cell 2) (And.intro (k11d.1.cell 3) (And.intro (k11d.1.cell 4) (And.intro (k11d.1.cell 5) (k11d))))))
    go_region_held3 (fun w' => w'.cell? ⟨w.heap.size, 0, none⟩ = some (.bool ra.s) ∧ w'.cell? ⟨w.heap.size, 1, none⟩ = some (.slice A1 ra.a.length c1) ∧ w'.cell? ⟨w.heap.size, 2, none⟩ = some (.slice D1 ra.b.length d1) ∧ w'.cell? ⟨w.heap.size, 3, none⟩ = some (.bool ia.s) ∧ w'.cell? ⟨w.heap.size, 4, none⟩ = some (.slice A2 ia.a.length c2) ∧ w'.cell? ⟨w.heap.size, 5, none⟩ = some (.slice D2 ia.b.length d2) ∧ U1 w12 (w.heap.size) [.bool ra.s, .slice A1 ra.a.length c1, .slice D1 ra.b.length d1, .bool ia.s, .slice A2 ia.a.length c2, .slice D2 ia.b.length d2] w')
      (first
        | with_reducible exact k11s
        | (have s1 := (by with_reducible assumption : _ ∧ _ ∧ _ ∧ _ ∧ _ ∧ _ ∧ U1 w12 (w.heap.size) [.bool ra.s, .slice A1 ra.a.length c1, .slice D1 ra.b.length d1, .bool ia.s, .slice A2 ia.a.length c2, .slice D2 ia.b.length d2] _).2.2.2.2.2.2.nx BX; have q0_ := s1.1.cell 0; have q1_ := s1.1.cell 1; have q2_ := s1.1.cell 2; have q3_ := s1.1.cell 3; have q4_ := s1.1.cell 4; have q5_ := s1.1.cell 5; with_reducible exact ⟨q0_, q1_, q2_, q3_, q4_, q5_, s1⟩))
      (first
        | (go_at_call 26; have hh := (by with_reducible assumption : _ ∧ _ ∧ _ ∧ _ ∧ _ ∧ _ ∧ U1 w12 (w.heap.size) [.bool ra.s, .slice A1 ra.a.length c1, .slice D1 ra.b.length d1, .bool ia.s, .slice A2 ia.a.length c2, .slice D2 ia.b.length d2] _).2.2.2.2.2.2; refine (hz _).mono ?_; rintro e w60 ⟨A60, c60, D60, d60, E60, e60, F60, f60, rfl, O1, O2, O3, O4, BX⟩; have HZ : VN w60 w60.heap.size (.agg #[.bool z.s, .slice A60 z.a.length c60, .slice D60 z.b.length d60, .bool z.s, .slice E60 z.a.length e60, .slice F60 z.b.length f60]) z z := ⟨A60, c60, D60, d60, E60, e60, F60, f60, rfl, O1.rw, O2.rw, O3.rw, O4.rw⟩; clear O1 O2 O3 O4)
        | (go_at_call 25; have hh := (by with_reducible assumption : _ ∧ _ ∧ _ ∧ _ ∧ _ ∧ _ ∧ U1 w12 (w.heap.size) [.bool ra.s, .slice A1 ra.a.length c1, .slice D1 ra.b.length d1, .bool ia.s, .slice A2 ia.a.length c2, .slice D2 ia.b.length d2] _).2.2.2.2.2.2; refine (o7 _ _ _ (H_a.st hh.2) HZ).mono ?_; rintro e w61 ⟨rfl, BX⟩; have kk := hh.nx BX))
    have BK := kk.2
    clear kk k11 k11d k11s HZ
    have S_a := S_a.nx BK
    have H_a := H_a.st BK
    have S_x := S_x.nx BK
    have H_x := H_x.st BK
    have S_w := S_w.nx BK
    have H_w := H_w.st BK
    have C0 := bt C0 BK
    clear BK
    rcases em : qmulA xr xi wr wi with ⟨qr, qi, k⟩
    have o8 := fun V U w' h1 h2 => emul_any (V := V) (U := U) (r := xr) (i := xi) (r' := wr) (i' := wi) (w := w') h1 h2
    rw [em] at o8
    rw [em] at hh2
    clear em
    have i0 := S_x.cell 0
    have i1 := S_x.cell 1
    have i2 := S_x.cell 2
    have i3 := S_x.cell 3
    have i4 := S_x.cell 4
    have i5 := S_x.cell 5
    have j0 := S_w.cell 0
    have j1 := S_w.cell 1
    have j2 := S_w.cell 2
    have j3 := S_w.cell 3
    have j4 := S_w.cell 4
    have j5 := S_w.cell 5
    go_wp2_with fail
    refine (o8 _ _ _ H_x H_w).mono ?_; rintro e w13 ⟨A13a, c13a, D13a, d13a, A13b, c13b, D13b, d13b, rfl, O13a, O13b, O13c, O13d, B13⟩
    clear i0 i1 i2 i3 i4 i5
    clear j0 j1 j2 j3 j4 j5
    try dsimp only at O13a O13b O13c O13d
    have H_q : VN w13 w13.heap.size (.agg #[.bool qr.s, .slice A13a qr.a.length c13a, .slice D13a qr.b.length d13a, .bool qi.s, .slice A13b qi.a.length c13b, .slice D13b qi.b.length d13b]) qr qi := ⟨A13a, c13a, D13a, d13a, A13b, c13b, D13b, d13b, rfl, O13a.rw, O13b.rw, O13c.rw, O13d.rw⟩
    clear O13a O13b O13c O13d
    have S_a := S_a.nx B13
    have H_a := H_a.st B13
    have S_x := S_x.nx B13
    have H_x := H_x.st B13
    have S_w := S_w.nx B13
    have H_w := H_w.st B13
    have C0 := bt C0 B13
    have L13 := bal w13 (.cells #[.bool qr.s, .slice A13a qr.a.length c13a, .slice D13a qr.b.length d13a, .bool qi.s, .slice A13b qi.a.length c13b, .slice D13b qi.b.length d13b] 26)
    have S_q := SB.new w13 [.bool qr.s, .slice A13a qr.a.length c13a, .slice D13a qr.b.length d13a, .bool qi.s, .slice A13b qi.a.length c13b, .slice D13b qi.b.length d13b] 26
    have S_a := S_a.nx L13
    have H_a := H_a.st L13
    have S_x := S_x.nx L13
    have H_x := H_x.st L13
    have S_w := S_w.nx L13
    have H_w := H_w.st L13
    have H_q := H_q.st L13
    have C0 := bt C0 L13
    obtain ⟨WQ, hWQ⟩ : ∃ WQ, WQ = w13.alloc (.cells #[.bool qr.s, .slice A13a qr.a.length c13a, .slice D13a qr.b.length d13a, .bool qi.s, .slice A13b qi.a.length c13b, .slice D13b qi.b.length d13b] 26) := ⟨_, rfl⟩
    skip
    rcases hh2 with rfl | ⟨rfl, hq⟩
    · go_upto_region 14 with fail
      go_quiet (fail)
      skip
      go_wp2_with fail
      go_ret
      exact ⟨by simp, bdN C0 nq⟩
    · by_cases hk : k = 0
      rotate_left
      · have hk1 : (k == 0) = false := beq_eq_false_iff_ne.2 hk
        go_upto_region 14 with fail
        go_quiet (fail)
        go_wp2_with fail
        go_ret
        exact ⟨by simp, bdN C0 nq⟩
      subst hk
      have o9 := fun V U w' h1 h2 => esame_any V U qr qi u z w' h1 h2
      rw [hq qr qi rfl] at o9
      clear hq
      go_upto_region 14 with fail
      obtain ⟨WQ, hWQ⟩ : ∃ WQ, WQ = w13.alloc (.cells #[.bool qr.s, .slice A13a qr.a.length c13a, .slice D13a qr.b.length d13a, .bool qi.s, .slice A13b qi.a.length c13b, .slice D13b qi.b.length d13b] 26) := ⟨_, rfl⟩
      rw [← hWQ] at S_a H_a S_x H_x S_w H_w S_q H_q C0 ⊢
      clear hWQ
      go_upto_region 14 with fail
      have k14 : U1 WQ (w13.heap.size) [.bool qr.s, .slice A13a qr.a.length c13a, .slice D13a qr.b.length d13a, .bool qi.s, .slice A13b qi.a.length c13b, .slice D13b qi.b.length d13b] WQ := ⟨S_q, Below.refl _ _⟩
      have k14d := k14.dr
      have k14s := And.intro (k14d.1.cell 0) (And.intro (k14d.1.cell 1) (And.intro (k14d.1.cell 2) (And.intro (k14d.1.cell 3) (And.intro (k14d.1.cell 4) (And.intro (k14d.1.cell 5) (k14d))))))
      go_region_held3 (fun w' => w'.cell? ⟨w13.heap.size, 0, none⟩ = some (.bool qr.s) ∧ w'.cell? ⟨w13.heap.size, 1, none⟩ = some (.slice A13a qr.a.length c13a) ∧ w'.cell? ⟨w13.heap.size, 2, none⟩ = some (.slice D13a qr.b.length d13a) ∧ w'.cell? ⟨w13.heap.size, 3, none⟩ = some (.bool qi.s) ∧ w'.cell? ⟨w13.heap.size, 4, none⟩ = some (.slice A13b qi.a.length c13b) ∧ w'.cell? ⟨w13.heap.size, 5, none⟩ = some (.slice D13b qi.b.length d13b) ∧ U1 WQ (w13.heap.size) [.bool qr.s, .slice A13a qr.a.length c13a, .slice D13a qr.b.length d13a, .bool qi.s, .slice A13b qi.a.length c13b, .slice D13b qi.b.length d13b] w')
        (first
          | with_reducible exact k14s
          | (have s1 := (by with_reducible assumption : _ ∧ _ ∧ _ ∧ _ ∧ _ ∧ _ ∧ U1 WQ (w13.heap.size) [.bool qr.s, .slice A13a qr.a.length c13a, .slice D13a qr.b.length d13a, .bool qi.s, .slice A13b qi.a.length c13b, .slice D13b qi.b.length d13b] _).2.2.2.2.2.2.nx BX; have q0_ := s1.1.cell 0; have q1_ := s1.1.cell 1; have q2_ := s1.1.cell 2; have q3_ := s1.1.cell 3; have q4_ := s1.1.cell 4; have q5_ := s1.1.cell 5; with_reducible exact ⟨q0_, q1_, q2_, q3_, q4_, q5_, s1⟩))
        (first
          | (go_at_call 26; have hh := (by with_reducible assumption : _ ∧ _ ∧ _ ∧ _ ∧ _ ∧ _ ∧ U1 WQ (w13.heap.size) [.bool qr.s, .slice A13a qr.a.length c13a, .slice D13a qr.b.length d13a, .bool qi.s, .slice A13b qi.a.length c13b, .slice D13b qi.b.length d13b] _).2.2.2.2.2.2; refine (hu _).mono ?_; rintro e w64 ⟨A64, c64, D64, d64, E64, e64, F64, f64, rfl, O1, O2, O3, O4, BX⟩; have HZ : VN w64 w64.heap.size (.agg #[.bool u.s, .slice A64 u.a.length c64, .slice D64 u.b.length d64, .bool z.s, .slice E64 z.a.length e64, .slice F64 z.b.length f64]) u z := ⟨A64, c64, D64, d64, E64, e64, F64, f64, rfl, O1.rw, O2.rw, O3.rw, O4.rw⟩; clear O1 O2 O3 O4)
          | (go_at_call 25; have hh := (by with_reducible assumption : _ ∧ _ ∧ _ ∧ _ ∧ _ ∧ _ ∧ U1 WQ (w13.heap.size) [.bool qr.s, .slice A13a qr.a.length c13a, .slice D13a qr.b.length d13a, .bool qi.s, .slice A13b qi.a.length c13b, .slice D13b qi.b.length d13b] _).2.2.2.2.2.2; refine (o9 _ _ _ (H_q.st hh.2) HZ).mono ?_; rintro e w65 ⟨rfl, BX⟩; have kk := hh.nx BX))
      have BK := kk.2
      clear kk k14 k14d k14s HZ
      have S_a := S_a.nx BK
      have H_a := H_a.st BK
      have S_x := S_x.nx BK
      have H_x := H_x.st BK
      have S_w := S_w.nx BK
      have H_w := H_w.st BK
      have S_q := S_q.nx BK
      have H_q := H_q.st BK
      have C0 := bt C0 BK
      clear BK
      go_wp2_with fail
      go_ret
      exact ⟨by simp, C0⟩
end Go.Proofs.Ytdkejndagicgjaa
