/- The walk of ExactField. -/
import Derived.Test.YtdkejndagicgjaaGI
namespace Go.Proofs.Ytdkejndagicgjaa
open Go.RowKit

theorem new3 (w : World) (l1 l2 l3 : List Value) (t1 t2 t3 : TypeId) : let W := ((w.alloc (.cells l1.toArray t1)).alloc (.cells l2.toArray t2)).alloc (.cells l3.toArray t3)
    SB W w.heap.size l1 ∧ SB W (w.heap.size + 1) l2 ∧ SB W (w.heap.size + 2) l3 ∧ Below w.heap.size w W := by
  intro W
  have h := S3.new w l1 l2 l3 t1 t2 t3 l3.length
  have s3 := SB.new ((w.alloc (.cells l1.toArray t1)).alloc (.cells l2.toArray t2)) l3 t3
  have z2 : ((w.alloc (.cells l1.toArray t1)).alloc (.cells l2.toArray t2)).heap.size = w.heap.size + 2 := by simp
  rw [z2] at s3
  exact ⟨h.1, h.2.1, s3, h.2.2.2⟩


set_option maxRecDepth 100000 in
set_option maxHeartbeats 16000000 in
theorem field_bad (V U T : Value) (s1 : Bool) (a1 b1 : List Nat) (s2 : Bool) (a2 b2 : List Nat) (s3 : Bool) (a3 b3 : List Nat) (s4 : Bool) (a4 b4 : List Nat) (s5 : Bool) (a5 b5 : List Nat) (s6 : Bool) (a6 b6 : List Nat) (w : World) (hV : VN w w.heap.size V ⟨s1, a1, b1⟩ ⟨s2, a2, b2⟩) (hU : VN w w.heap.size U ⟨s3, a3, b3⟩ ⟨s4, a4, b4⟩) (hT : VN w w.heap.size T ⟨s5, a5, b5⟩ ⟨s6, a6, b6⟩) (hb : ¬ (nB ⟨s1, a1, b1⟩ ⟨s2, a2, b2⟩ = true ∧ nB ⟨s3, a3, b3⟩ ⟨s4, a4, b4⟩ = true ∧ nB ⟨s5, a5, b5⟩ ⟨s6, a6, b6⟩ = true)) :
    Calls Try.prog 5 #[V, U, T] w fun e w' => e = .returned (.bool true) ∧ Below w.heap.size w w' := by
  obtain ⟨A1, c1, D1, d1, A2, c2, D2, d2, rfl, p1, p2, p3, p4⟩ := hV
  obtain ⟨A3, c3, D3, d3, A4, c4, D4, d4, rfl, p5, p6, p7, p8⟩ := hU
  obtain ⟨A5, c5, D5, d5, A6, c6, D6, d6, rfl, p9, p10, p11, p12⟩ := hT
  have hn := new3 w [.bool s1, .slice A1 a1.length c1, .slice D1 b1.length d1, .bool s2, .slice A2 a2.length c2, .slice D2 b2.length d2] [.bool s3, .slice A3 a3.length c3, .slice D3 b3.length d3, .bool s4, .slice A4 a4.length c4, .slice D4 b4.length d4] [.bool s5, .slice A5 a5.length c5, .slice D5 b5.length d5, .bool s6, .slice A6 a6.length c6, .slice D6 b6.length d6] 26 26 26
  dsimp only at p1 p2 p3 p4 p5 p6 p7 p8 p9 p10 p11 p12 ⊢
  obtain ⟨S_a, S_b, S_c, C0⟩ := hn
  have H_a : VN w w.heap.size (.agg #[.bool s1, .slice A1 a1.length c1, .slice D1 b1.length d1, .bool s2, .slice A2 a2.length c2, .slice D2 b2.length d2]) ⟨s1, a1, b1⟩ ⟨s2, a2, b2⟩ := ⟨A1, c1, D1, d1, A2, c2, D2, d2, rfl, p1, p2, p3, p4⟩
  have H_a := H_a.st C0
  have H_b : VN w w.heap.size (.agg #[.bool s3, .slice A3 a3.length c3, .slice D3 b3.length d3, .bool s4, .slice A4 a4.length c4, .slice D4 b4.length d4]) ⟨s3, a3, b3⟩ ⟨s4, a4, b4⟩ := ⟨A3, c3, D3, d3, A4, c4, D4, d4, rfl, p5, p6, p7, p8⟩
  have H_b := H_b.st C0
  have H_c : VN w w.heap.size (.agg #[.bool s5, .slice A5 a5.length c5, .slice D5 b5.length d5, .bool s6, .slice A6 a6.length c6, .slice D6 b6.length d6]) ⟨s5, a5, b5⟩ ⟨s6, a6, b6⟩ := ⟨A5, c5, D5, d5, A6, c6, D6, d6, rfl, p9, p10, p11, p12⟩
  have H_c := H_c.st C0
  clear p1 p2 p3 p4 p5 p6 p7 p8 p9 p10 p11 p12
  have hs1 := fun V w' h => esound_any V ⟨s1, a1, b1⟩ ⟨s2, a2, b2⟩ w' h
  have hs2 := fun V w' h => esound_any V ⟨s3, a3, b3⟩ ⟨s4, a4, b4⟩ w' h
  have hs3 := fun V w' h => esound_any V ⟨s5, a5, b5⟩ ⟨s6, a6, b6⟩ w' h
  generalize nB ⟨s1, a1, b1⟩ ⟨s2, a2, b2⟩ = t1 at *
  generalize nB ⟨s3, a3, b3⟩ ⟨s4, a4, b4⟩ = t2 at *
  generalize nB ⟨s5, a5, b5⟩ ⟨s6, a6, b6⟩ = t3 at *
  cases t1 with
  | false =>
    clear hb
    obtain ⟨W0, hW0⟩ : ∃ W0, W0 = ((w.alloc (.cells #[.bool s1, .slice A1 a1.length c1, .slice D1 b1.length d1, .bool s2, .slice A2 a2.length c2, .slice D2 b2.length d2] 26)).alloc (.cells #[.bool s3, .slice A3 a3.length c3, .slice D3 b3.length d3, .bool s4, .slice A4 a4.length c4, .slice D4 b4.length d4] 26)).alloc (.cells #[.bool s5, .slice A5 a5.length c5, .slice D5 b5.length d5, .bool s6, .slice A6 a6.length c6, .slice D6 b6.length d6] 26) := ⟨_, rfl⟩
    go_enter Try.func5, Try.ntmps5
    go_wp2_with fail
    rw [← hW0] at S_a S_b S_c C0 H_a H_b H_c ⊢
    clear hW0
    refine (xawake_any _).mono ?_; rintro e w1 ⟨rfl, B1⟩
    have S_a := S_a.nx B1
    have H_a := H_a.st B1
    have S_b := S_b.nx B1
    have H_b := H_b.st B1
    have S_c := S_c.nx B1
    have H_c := H_c.st B1
    have C0 := bt C0 B1
    have i0 := S_a.cell 0
    have i1 := S_a.cell 1
    have i2 := S_a.cell 2
    have i3 := S_a.cell 3
    have i4 := S_a.cell 4
    have i5 := S_a.cell 5
    go_wp2_with fail
    refine (hs1 _ _ H_a).mono ?_; rintro e w3 ⟨rfl, B3⟩
    have S_a := S_a.nx B3
    have H_a := H_a.st B3
    have S_b := S_b.nx B3
    have H_b := H_b.st B3
    have S_c := S_c.nx B3
    have H_c := H_c.st B3
    have C0 := bt C0 B3
    clear i0 i1 i2 i3 i4 i5
    go_wp2_with fail
    refine (xawake_any _).mono ?_; rintro e w2 ⟨rfl, B2⟩
    go_wp2_with fail
    go_ret
    exact ⟨rfl, bt C0 B2⟩
  | true =>
    cases t2 with
    | false =>
      clear hb
      obtain ⟨W0, hW0⟩ : ∃ W0, W0 = ((w.alloc (.cells #[.bool s1, .slice A1 a1.length c1, .slice D1 b1.length d1, .bool s2, .slice A2 a2.length c2, .slice D2 b2.length d2] 26)).alloc (.cells #[.bool s3, .slice A3 a3.length c3, .slice D3 b3.length d3, .bool s4, .slice A4 a4.length c4, .slice D4 b4.length d4] 26)).alloc (.cells #[.bool s5, .slice A5 a5.length c5, .slice D5 b5.length d5, .bool s6, .slice A6 a6.length c6, .slice D6 b6.length d6] 26) := ⟨_, rfl⟩
      go_enter Try.func5, Try.ntmps5
      go_wp2_with fail
      rw [← hW0] at S_a S_b S_c C0 H_a H_b H_c ⊢
      clear hW0
      refine (xawake_any _).mono ?_; rintro e w1 ⟨rfl, B1⟩
      have S_a := S_a.nx B1
      have H_a := H_a.st B1
      have S_b := S_b.nx B1
      have H_b := H_b.st B1
      have S_c := S_c.nx B1
      have H_c := H_c.st B1
      have C0 := bt C0 B1
      have i0 := S_a.cell 0
      have i1 := S_a.cell 1
      have i2 := S_a.cell 2
      have i3 := S_a.cell 3
      have i4 := S_a.cell 4
      have i5 := S_a.cell 5
      go_wp2_with fail
      refine (hs1 _ _ H_a).mono ?_; rintro e w3 ⟨rfl, B3⟩
      have S_a := S_a.nx B3
      have H_a := H_a.st B3
      have S_b := S_b.nx B3
      have H_b := H_b.st B3
      have S_c := S_c.nx B3
      have H_c := H_c.st B3
      have C0 := bt C0 B3
      clear i0 i1 i2 i3 i4 i5
      have i0 := S_b.cell 0
      have i1 := S_b.cell 1
      have i2 := S_b.cell 2
      have i3 := S_b.cell 3
      have i4 := S_b.cell 4
      have i5 := S_b.cell 5
      go_wp2_with fail
      refine (hs2 _ _ H_b).mono ?_; rintro e w4 ⟨rfl, B4⟩
      have S_a := S_a.nx B4
      have H_a := H_a.st B4
      have S_b := S_b.nx B4
      have H_b := H_b.st B4
      have S_c := S_c.nx B4
      have H_c := H_c.st B4
      have C0 := bt C0 B4
      clear i0 i1 i2 i3 i4 i5
      go_wp2_with fail
      refine (xawake_any _).mono ?_; rintro e w2 ⟨rfl, B2⟩
      go_wp2_with fail
      go_ret
      exact ⟨rfl, bt C0 B2⟩
    | true =>
      cases t3 with
      | false =>
        clear hb
        obtain ⟨W0, hW0⟩ : ∃ W0, W0 = ((w.alloc (.cells #[.bool s1, .slice A1 a1.length c1, .slice D1 b1.length d1, .bool s2, .slice A2 a2.length c2, .slice D2 b2.length d2] 26)).alloc (.cells #[.bool s3, .slice A3 a3.length c3, .slice D3 b3.length d3, .bool s4, .slice A4 a4.length c4, .slice D4 b4.length d4] 26)).alloc (.cells #[.bool s5, .slice A5 a5.length c5, .slice D5 b5.length d5, .bool s6, .slice A6 a6.length c6, .slice D6 b6.length d6] 26) := ⟨_, rfl⟩
        go_enter Try.func5, Try.ntmps5
        go_wp2_with fail
        rw [← hW0] at S_a S_b S_c C0 H_a H_b H_c ⊢
        clear hW0
        refine (xawake_any _).mono ?_; rintro e w1 ⟨rfl, B1⟩
        have S_a := S_a.nx B1
        have H_a := H_a.st B1
        have S_b := S_b.nx B1
        have H_b := H_b.st B1
        have S_c := S_c.nx B1
        have H_c := H_c.st B1
        have C0 := bt C0 B1
        have i0 := S_a.cell 0
        have i1 := S_a.cell 1
        have i2 := S_a.cell 2
        have i3 := S_a.cell 3
        have i4 := S_a.cell 4
        have i5 := S_a.cell 5
        go_wp2_with fail
        refine (hs1 _ _ H_a).mono ?_; rintro e w3 ⟨rfl, B3⟩
        have S_a := S_a.nx B3
        have H_a := H_a.st B3
        have S_b := S_b.nx B3
        have H_b := H_b.st B3
        have S_c := S_c.nx B3
        have H_c := H_c.st B3
        have C0 := bt C0 B3
        clear i0 i1 i2 i3 i4 i5
        have i0 := S_b.cell 0
        have i1 := S_b.cell 1
        have i2 := S_b.cell 2
        have i3 := S_b.cell 3
        have i4 := S_b.cell 4
        have i5 := S_b.cell 5
        go_wp2_with fail
        refine (hs2 _ _ H_b).mono ?_; rintro e w4 ⟨rfl, B4⟩
        have S_a := S_a.nx B4
        have H_a := H_a.st B4
        have S_b := S_b.nx B4
        have H_b := H_b.st B4
        have S_c := S_c.nx B4
        have H_c := H_c.st B4
        have C0 := bt C0 B4
        clear i0 i1 i2 i3 i4 i5
        have i0 := S_c.cell 0
        have i1 := S_c.cell 1
        have i2 := S_c.cell 2
        have i3 := S_c.cell 3
        have i4 := S_c.cell 4
        have i5 := S_c.cell 5
        go_wp2_with fail
        refine (hs3 _ _ H_c).mono ?_; rintro e w5 ⟨rfl, B5⟩
        have S_a := S_a.nx B5
        have H_a := H_a.st B5
        have S_b := S_b.nx B5
        have H_b := H_b.st B5
        have S_c := S_c.nx B5
        have H_c := H_c.st B5
        have C0 := bt C0 B5
        clear i0 i1 i2 i3 i4 i5
        go_wp2_with fail
        refine (xawake_any _).mono ?_; rintro e w2 ⟨rfl, B2⟩
        go_wp2_with fail
        go_ret
        exact ⟨rfl, bt C0 B2⟩
      | true =>
        exact absurd ⟨rfl, rfl, rfl⟩ hb

set_option maxRecDepth 100000 in
set_option maxHeartbeats 16000000 in
theorem field_ok (V U T : Value) (ra ia rb ib rc ic : Rw) (w : World) (hV : VN w w.heap.size V ra ia) (hU : VN w w.heap.size U rb ib) (hT : VN w w.heap.size T rc ic)
    (n1 : nB ra ia = true) (n2 : nB rb ib = true) (n3 : nB rc ic = true) (sr si : Rw) (sk : Int) (lr li : Rw) (lk : Int) (xr xi : Rw) (xk : Int) (yr yi : Rw) (yk : Int) (rr ri : Rw) (rk : Int)
    (e1 : qaddA rb ib rc ic = (sr, si, sk)) (e2 : qmulA ra ia sr si = (lr, li, lk)) (e3 : qmulA rb ib ra ia = (xr, xi, xk)) (e4 : qmulA ra ia rc ic = (yr, yi, yk)) (e5 : qaddA xr xi yr yi = (rr, ri, rk))
    (main : sk = 0 → lk = 0 → xk = 0 → yk = 0 → rk = 0 → qsubA sr si rc ic = (rb, ib, 0) ∧ sameB lr li rr ri = true ∧ sameB rb ib rb ib = true ∧
      (sameB ra ia (rwq 0) (rwq 0) = true ∧ qdivA xr xi ra ia = (rw0, rw0, 3) ∨ sameB ra ia (rwq 0) (rwq 0) = false ∧ qdivA xr xi ra ia = (rb, ib, 0))) :
    Calls Try.prog 5 #[V, U, T] w fun e w' => e = .returned (.bool true) ∧ Below w.heap.size w w' := by
  obtain ⟨A1, c1, D1, d1, A2, c2, D2, d2, rfl, p1, p2, p3, p4⟩ := hV
  obtain ⟨A3, c3, D3, d3, A4, c4, D4, d4, rfl, p5, p6, p7, p8⟩ := hU
  obtain ⟨A5, c5, D5, d5, A6, c6, D6, d6, rfl, p9, p10, p11, p12⟩ := hT
  have hn := new3 w [.bool ra.s, .slice A1 ra.a.length c1, .slice D1 ra.b.length d1, .bool ia.s, .slice A2 ia.a.length c2, .slice D2 ia.b.length d2] [.bool rb.s, .slice A3 rb.a.length c3, .slice D3 rb.b.length d3, .bool ib.s, .slice A4 ib.a.length c4, .slice D4 ib.b.length d4] [.bool rc.s, .slice A5 rc.a.length c5, .slice D5 rc.b.length d5, .bool ic.s, .slice A6 ic.a.length c6, .slice D6 ic.b.length d6] 26 26 26
  skip
  obtain ⟨S_a, S_b, S_c, C0⟩ := hn
  have H_a : VN w w.heap.size (.agg #[.bool ra.s, .slice A1 ra.a.length c1, .slice D1 ra.b.length d1, .bool ia.s, .slice A2 ia.a.length c2, .slice D2 ia.b.length d2]) ra ia := ⟨A1, c1, D1, d1, A2, c2, D2, d2, rfl, p1, p2, p3, p4⟩
  have H_a := H_a.st C0
  have H_b : VN w w.heap.size (.agg #[.bool rb.s, .slice A3 rb.a.length c3, .slice D3 rb.b.length d3, .bool ib.s, .slice A4 ib.a.length c4, .slice D4 ib.b.length d4]) rb ib := ⟨A3, c3, D3, d3, A4, c4, D4, d4, rfl, p5, p6, p7, p8⟩
  have H_b := H_b.st C0
  have H_c : VN w w.heap.size (.agg #[.bool rc.s, .slice A5 rc.a.length c5, .slice D5 rc.b.length d5, .bool ic.s, .slice A6 ic.a.length c6, .slice D6 ic.b.length d6]) rc ic := ⟨A5, c5, D5, d5, A6, c6, D6, d6, rfl, p9, p10, p11, p12⟩
  have H_c := H_c.st C0
  clear p1 p2 p3 p4 p5 p6 p7 p8 p9 p10 p11 p12
  have hs1 := fun V w' h => esound_any V ra ia w' h
  have hs2 := fun V w' h => esound_any V rb ib w' h
  have hs3 := fun V w' h => esound_any V rc ic w' h
  rw [n1] at hs1
  rw [n2] at hs2
  rw [n3] at hs3
  have o1 := fun V U w' h1 h2 => eadd_any (V := V) (U := U) (r := rb) (i := ib) (r' := rc) (i' := ic) (w := w') h1 h2
  rw [e1] at o1
  have o2 := fun V U w' h1 h2 => emul_any (V := V) (U := U) (r := ra) (i := ia) (r' := sr) (i' := si) (w := w') h1 h2
  rw [e2] at o2
  have o3 := fun V U w' h1 h2 => emul_any (V := V) (U := U) (r := rb) (i := ib) (r' := ra) (i' := ia) (w := w') h1 h2
  rw [e3] at o3
  have o4 := fun V U w' h1 h2 => emul_any (V := V) (U := U) (r := ra) (i := ia) (r' := rc) (i' := ic) (w := w') h1 h2
  rw [e4] at o4
  have o5 := fun V U w' h1 h2 => eadd_any (V := V) (U := U) (r := xr) (i := xi) (r' := yr) (i' := yi) (w := w') h1 h2
  rw [e5] at o5
  clear e1 e2 e3 e4 e5 n1 n2 n3
  obtain ⟨W0, hW0⟩ : ∃ W0, W0 = ((w.alloc (.cells #[.bool ra.s, .slice A1 ra.a.length c1, .slice D1 ra.b.length d1, .bool ia.s, .slice A2 ia.a.length c2, .slice D2 ia.b.length d2] 26)).alloc (.cells #[.bool rb.s, .slice A3 rb.a.length c3, .slice D3 rb.b.length d3, .bool ib.s, .slice A4 ib.a.length c4, .slice D4 ib.b.length d4] 26)).alloc (.cells #[.bool rc.s, .slice A5 rc.a.length c5, .slice D5 rc.b.length d5, .bool ic.s, .slice A6 ic.a.length c6, .slice D6 ic.b.length d6] 26) := ⟨_, rfl⟩
  go_enter Try.func5, Try.ntmps5
  go_wp2_with fail
  rw [← hW0] at S_a S_b S_c C0 H_a H_b H_c ⊢
  clear hW0
  refine (xawake_any _).mono ?_; rintro e w1 ⟨rfl, B1⟩
  have S_a := S_a.nx B1
  have H_a := H_a.st B1
  have S_b := S_b.nx B1
  have H_b := H_b.st B1
  have S_c := S_c.nx B1
  have H_c := H_c.st B1
  have C0 := bt C0 B1
  have i0 := S_a.cell 0
  have i1 := S_a.cell 1
  have i2 := S_a.cell 2
  have i3 := S_a.cell 3
  have i4 := S_a.cell 4
  have i5 := S_a.cell 5
  go_wp2_with fail
  refine (hs1 _ _ H_a).mono ?_; rintro e w3 ⟨rfl, B3⟩
  have S_a := S_a.nx B3
  have H_a := H_a.st B3
  have S_b := S_b.nx B3
  have H_b := H_b.st B3
  have S_c := S_c.nx B3
  have H_c := H_c.st B3
  have C0 := bt C0 B3
  clear i0 i1 i2 i3 i4 i5
  have i0 := S_b.cell 0
  have i1 := S_b.cell 1
  have i2 := S_b.cell 2
  have i3 := S_b.cell 3
  have i4 := S_b.cell 4
  have i5 := S_b.cell 5
  go_wp2_with fail
  refine (hs2 _ _ H_b).mono ?_; rintro e w4 ⟨rfl, B4⟩
  have S_a := S_a.nx B4
  have H_a := H_a.st B4
  have S_b := S_b.nx B4
  have H_b := H_b.st B4
  have S_c := S_c.nx B4
  have H_c := H_c.st B4
  have C0 := bt C0 B4
  clear i0 i1 i2 i3 i4 i5
  have i0 := S_c.cell 0
  have i1 := S_c.cell 1
  have i2 := S_c.cell 2
  have i3 := S_c.cell 3
  have i4 := S_c.cell 4
  have i5 := S_c.cell 5
  go_wp2_with fail
  refine (hs3 _ _ H_c).mono ?_; rintro e w5 ⟨rfl, B5⟩
  have S_a := S_a.nx B5
  have H_a := H_a.st B5
  have S_b := S_b.nx B5
  have H_b := H_b.st B5
  have S_c := S_c.nx B5
  have H_c := H_c.st B5
  have C0 := bt C0 B5
  clear i0 i1 i2 i3 i4 i5
  have i0 := S_b.cell 0
  have i1 := S_b.cell 1
  have i2 := S_b.cell 2
  have i3 := S_b.cell 3
  have i4 := S_b.cell 4
  have i5 := S_b.cell 5
  have j0 := S_c.cell 0
  have j1 := S_c.cell 1
  have j2 := S_c.cell 2
  have j3 := S_c.cell 3
  have j4 := S_c.cell 4
  have j5 := S_c.cell 5
  go_wp2_with fail
  refine (o1 _ _ _ H_b H_c).mono ?_; rintro e w6 ⟨A6a, c6a, D6a, d6a, A6b, c6b, D6b, d6b, rfl, O6a, O6b, O6c, O6d, B6⟩
  clear i0 i1 i2 i3 i4 i5
  clear j0 j1 j2 j3 j4 j5
  dsimp only at O6a O6b O6c O6d
  have H_s : VN w6 w6.heap.size (.agg #[.bool sr.s, .slice A6a sr.a.length c6a, .slice D6a sr.b.length d6a, .bool si.s, .slice A6b si.a.length c6b, .slice D6b si.b.length d6b]) sr si := ⟨A6a, c6a, D6a, d6a, A6b, c6b, D6b, d6b, rfl, O6a.rw, O6b.rw, O6c.rw, O6d.rw⟩
  clear O6a O6b O6c O6d
  have S_a := S_a.nx B6
  have H_a := H_a.st B6
  have S_b := S_b.nx B6
  have H_b := H_b.st B6
  have S_c := S_c.nx B6
  have H_c := H_c.st B6
  have C0 := bt C0 B6
  have L6 := bal w6 (.cells #[.bool sr.s, .slice A6a sr.a.length c6a, .slice D6a sr.b.length d6a, .bool si.s, .slice A6b si.a.length c6b, .slice D6b si.b.length d6b] 26)
  have S_s := SB.new w6 [.bool sr.s, .slice A6a sr.a.length c6a, .slice D6a sr.b.length d6a, .bool si.s, .slice A6b si.a.length c6b, .slice D6b si.b.length d6b] 26
  have S_a := S_a.nx L6
  have H_a := H_a.st L6
  have S_b := S_b.nx L6
  have H_b := H_b.st L6
  have S_c := S_c.nx L6
  have H_c := H_c.st L6
  have H_s := H_s.st L6
  have C0 := bt C0 L6
  have i0 := S_a.cell 0
  have i1 := S_a.cell 1
  have i2 := S_a.cell 2
  have i3 := S_a.cell 3
  have i4 := S_a.cell 4
  have i5 := S_a.cell 5
  have j0 := S_s.cell 0
  have j1 := S_s.cell 1
  have j2 := S_s.cell 2
  have j3 := S_s.cell 3
  have j4 := S_s.cell 4
  have j5 := S_s.cell 5
  go_wp2_with fail
  refine (o2 _ _ _ H_a H_s).mono ?_; rintro e w7 ⟨A7a, c7a, D7a, d7a, A7b, c7b, D7b, d7b, rfl, O7a, O7b, O7c, O7d, B7⟩
  clear i0 i1 i2 i3 i4 i5
  clear j0 j1 j2 j3 j4 j5
  dsimp only at O7a O7b O7c O7d
  have H_l : VN w7 w7.heap.size (.agg #[.bool lr.s, .slice A7a lr.a.length c7a, .slice D7a lr.b.length d7a, .bool li.s, .slice A7b li.a.length c7b, .slice D7b li.b.length d7b]) lr li := ⟨A7a, c7a, D7a, d7a, A7b, c7b, D7b, d7b, rfl, O7a.rw, O7b.rw, O7c.rw, O7d.rw⟩
  clear O7a O7b O7c O7d
  have S_a := S_a.nx B7
  have H_a := H_a.st B7
  have S_b := S_b.nx B7
  have H_b := H_b.st B7
  have S_c := S_c.nx B7
  have H_c := H_c.st B7
  have S_s := S_s.nx B7
  have H_s := H_s.st B7
  have C0 := bt C0 B7
  have L7 := bal w7 (.cells #[.bool lr.s, .slice A7a lr.a.length c7a, .slice D7a lr.b.length d7a, .bool li.s, .slice A7b li.a.length c7b, .slice D7b li.b.length d7b] 26)
  have S_l := SB.new w7 [.bool lr.s, .slice A7a lr.a.length c7a, .slice D7a lr.b.length d7a, .bool li.s, .slice A7b li.a.length c7b, .slice D7b li.b.length d7b] 26
  have S_a := S_a.nx L7
  have H_a := H_a.st L7
  have S_b := S_b.nx L7
  have H_b := H_b.st L7
  have S_c := S_c.nx L7
  have H_c := H_c.st L7
  have S_s := S_s.nx L7
  have H_s := H_s.st L7
  have H_l := H_l.st L7
  have C0 := bt C0 L7
  have i0 := S_b.cell 0
  have i1 := S_b.cell 1
  have i2 := S_b.cell 2
  have i3 := S_b.cell 3
  have i4 := S_b.cell 4
  have i5 := S_b.cell 5
  have j0 := S_a.cell 0
  have j1 := S_a.cell 1
  have j2 := S_a.cell 2
  have j3 := S_a.cell 3
  have j4 := S_a.cell 4
  have j5 := S_a.cell 5
  go_wp2_with fail
  refine (o3 _ _ _ H_b H_a).mono ?_; rintro e w8 ⟨A8a, c8a, D8a, d8a, A8b, c8b, D8b, d8b, rfl, O8a, O8b, O8c, O8d, B8⟩
  clear i0 i1 i2 i3 i4 i5
  clear j0 j1 j2 j3 j4 j5
  dsimp only at O8a O8b O8c O8d
  have H_x : VN w8 w8.heap.size (.agg #[.bool xr.s, .slice A8a xr.a.length c8a, .slice D8a xr.b.length d8a, .bool xi.s, .slice A8b xi.a.length c8b, .slice D8b xi.b.length d8b]) xr xi := ⟨A8a, c8a, D8a, d8a, A8b, c8b, D8b, d8b, rfl, O8a.rw, O8b.rw, O8c.rw, O8d.rw⟩
  clear O8a O8b O8c O8d
  have S_a := S_a.nx B8
  have H_a := H_a.st B8
  have S_b := S_b.nx B8
  have H_b := H_b.st B8
  have S_c := S_c.nx B8
  have H_c := H_c.st B8
  have S_s := S_s.nx B8
  have H_s := H_s.st B8
  have S_l := S_l.nx B8
  have H_l := H_l.st B8
  have C0 := bt C0 B8
  have L8 := bal w8 (.cells #[.bool xr.s, .slice A8a xr.a.length c8a, .slice D8a xr.b.length d8a, .bool xi.s, .slice A8b xi.a.length c8b, .slice D8b xi.b.length d8b] 26)
  have S_x := SB.new w8 [.bool xr.s, .slice A8a xr.a.length c8a, .slice D8a xr.b.length d8a, .bool xi.s, .slice A8b xi.a.length c8b, .slice D8b xi.b.length d8b] 26
  have S_a := S_a.nx L8
  have H_a := H_a.st L8
  have S_b := S_b.nx L8
  have H_b := H_b.st L8
  have S_c := S_c.nx L8
  have H_c := H_c.st L8
  have S_s := S_s.nx L8
  have H_s := H_s.st L8
  have S_l := S_l.nx L8
  have H_l := H_l.st L8
  have H_x := H_x.st L8
  have C0 := bt C0 L8
  have i0 := S_a.cell 0
  have i1 := S_a.cell 1
  have i2 := S_a.cell 2
  have i3 := S_a.cell 3
  have i4 := S_a.cell 4
  have i5 := S_a.cell 5
  have j0 := S_c.cell 0
  have j1 := S_c.cell 1
  have j2 := S_c.cell 2
  have j3 := S_c.cell 3
  have j4 := S_c.cell 4
  have j5 := S_c.cell 5
  go_wp2_with fail
  refine (o4 _ _ _ H_a H_c).mono ?_; rintro e w9 ⟨A9a, c9a, D9a, d9a, A9b, c9b, D9b, d9b, rfl, O9a, O9b, O9c, O9d, B9⟩
  clear i0 i1 i2 i3 i4 i5
  clear j0 j1 j2 j3 j4 j5
  dsimp only at O9a O9b O9c O9d
  have H_y : VN w9 w9.heap.size (.agg #[.bool yr.s, .slice A9a yr.a.length c9a, .slice D9a yr.b.length d9a, .bool yi.s, .slice A9b yi.a.length c9b, .slice D9b yi.b.length d9b]) yr yi := ⟨A9a, c9a, D9a, d9a, A9b, c9b, D9b, d9b, rfl, O9a.rw, O9b.rw, O9c.rw, O9d.rw⟩
  clear O9a O9b O9c O9d
  have S_a := S_a.nx B9
  have H_a := H_a.st B9
  have S_b := S_b.nx B9
  have H_b := H_b.st B9
  have S_c := S_c.nx B9
  have H_c := H_c.st B9
  have S_s := S_s.nx B9
  have H_s := H_s.st B9
  have S_l := S_l.nx B9
  have H_l := H_l.st B9
  have S_x := S_x.nx B9
  have H_x := H_x.st B9
  have C0 := bt C0 B9
  have L9 := bal w9 (.cells #[.bool yr.s, .slice A9a yr.a.length c9a, .slice D9a yr.b.length d9a, .bool yi.s, .slice A9b yi.a.length c9b, .slice D9b yi.b.length d9b] 26)
  have S_y := SB.new w9 [.bool yr.s, .slice A9a yr.a.length c9a, .slice D9a yr.b.length d9a, .bool yi.s, .slice A9b yi.a.length c9b, .slice D9b yi.b.length d9b] 26
  have S_a := S_a.nx L9
  have H_a := H_a.st L9
  have S_b := S_b.nx L9
  have H_b := H_b.st L9
  have S_c := S_c.nx L9
  have H_c := H_c.st L9
  have S_s := S_s.nx L9
  have H_s := H_s.st L9
  have S_l := S_l.nx L9
  have H_l := H_l.st L9
  have S_x := S_x.nx L9
  have H_x := H_x.st L9
  have H_y := H_y.st L9
  have C0 := bt C0 L9
  have i0 := S_x.cell 0
  have i1 := S_x.cell 1
  have i2 := S_x.cell 2
  have i3 := S_x.cell 3
  have i4 := S_x.cell 4
  have i5 := S_x.cell 5
  have j0 := S_y.cell 0
  have j1 := S_y.cell 1
  have j2 := S_y.cell 2
  have j3 := S_y.cell 3
  have j4 := S_y.cell 4
  have j5 := S_y.cell 5
  go_wp2_with fail
  refine (o5 _ _ _ H_x H_y).mono ?_; rintro e w10 ⟨A10a, c10a, D10a, d10a, A10b, c10b, D10b, d10b, rfl, O10a, O10b, O10c, O10d, B10⟩
  clear i0 i1 i2 i3 i4 i5
  clear j0 j1 j2 j3 j4 j5
  dsimp only at O10a O10b O10c O10d
  have H_r : VN w10 w10.heap.size (.agg #[.bool rr.s, .slice A10a rr.a.length c10a, .slice D10a rr.b.length d10a, .bool ri.s, .slice A10b ri.a.length c10b, .slice D10b ri.b.length d10b]) rr ri := ⟨A10a, c10a, D10a, d10a, A10b, c10b, D10b, d10b, rfl, O10a.rw, O10b.rw, O10c.rw, O10d.rw⟩
  clear O10a O10b O10c O10d
  have S_a := S_a.nx B10
  have H_a := H_a.st B10
  have S_b := S_b.nx B10
  have H_b := H_b.st B10
  have S_c := S_c.nx B10
  have H_c := H_c.st B10
  have S_s := S_s.nx B10
  have H_s := H_s.st B10
  have S_l := S_l.nx B10
  have H_l := H_l.st B10
  have S_x := S_x.nx B10
  have H_x := H_x.st B10
  have S_y := S_y.nx B10
  have H_y := H_y.st B10
  have C0 := bt C0 B10
  have L10 := bal w10 (.cells #[.bool rr.s, .slice A10a rr.a.length c10a, .slice D10a rr.b.length d10a, .bool ri.s, .slice A10b ri.a.length c10b, .slice D10b ri.b.length d10b] 26)
  have S_r := SB.new w10 [.bool rr.s, .slice A10a rr.a.length c10a, .slice D10a rr.b.length d10a, .bool ri.s, .slice A10b ri.a.length c10b, .slice D10b ri.b.length d10b] 26
  have S_a := S_a.nx L10
  have H_a := H_a.st L10
  have S_b := S_b.nx L10
  have H_b := H_b.st L10
  have S_c := S_c.nx L10
  have H_c := H_c.st L10
  have S_s := S_s.nx L10
  have H_s := H_s.st L10
  have S_l := S_l.nx L10
  have H_l := H_l.st L10
  have S_x := S_x.nx L10
  have H_x := H_x.st L10
  have S_y := S_y.nx L10
  have H_y := H_y.st L10
  have H_r := H_r.st L10
  have C0 := bt C0 L10
  go_upto_region 8 with fail
  by_cases z0 : sk = 0
  rotate_left
  · have z0' : (sk == 0) = false := beq_eq_false_iff_ne.2 z0
    go_wp2_with fail
    go_ret
    exact ⟨rfl, C0⟩
  subst z0
  by_cases z1 : lk = 0
  rotate_left
  · have z1' : (lk == 0) = false := beq_eq_false_iff_ne.2 z1
    go_wp2_with fail
    go_ret
    exact ⟨rfl, C0⟩
  subst z1
  by_cases z2 : xk = 0
  rotate_left
  · have z2' : (xk == 0) = false := beq_eq_false_iff_ne.2 z2
    go_wp2_with fail
    go_ret
    exact ⟨rfl, C0⟩
  subst z2
  by_cases z3 : yk = 0
  rotate_left
  · have z3' : (yk == 0) = false := beq_eq_false_iff_ne.2 z3
    go_wp2_with fail
    go_ret
    exact ⟨rfl, C0⟩
  subst z3
  by_cases z4 : rk = 0
  rotate_left
  · have z4' : (rk == 0) = false := beq_eq_false_iff_ne.2 z4
    go_wp2_with fail
    go_ret
    exact ⟨rfl, C0⟩
  subst z4
  obtain ⟨m1, m2, m3, m4⟩ := main rfl rfl rfl rfl rfl
  clear main
  have o6 := fun V U w' h1 h2 => esub_any (V := V) (U := U) (r := sr) (i := si) (r' := rc) (i' := ic) (w := w') h1 h2
  rw [m1] at o6
  have o7 := fun V U w' h1 h2 => esame_any V U lr li rr ri w' h1 h2
  rw [m2] at o7
  have o8 := fun V U w' h1 h2 => esame_any V U rb ib rb ib w' h1 h2
  rw [m3] at o8
  have o9 := fun V U w' h1 h2 => esame_any V U ra ia (rwq 0) (rwq 0) w' h1 h2
  have o10 := fun V U w' h1 h2 => ediv_any (V := V) (U := U) (r := xr) (i := xi) (r' := ra) (i' := ia) (w := w') h1 h2
  clear m1 m2 m3
  have i0 := S_s.cell 0
  have i1 := S_s.cell 1
  have i2 := S_s.cell 2
  have i3 := S_s.cell 3
  have i4 := S_s.cell 4
  have i5 := S_s.cell 5
  have j0 := S_c.cell 0
  have j1 := S_c.cell 1
  have j2 := S_c.cell 2
  have j3 := S_c.cell 3
  have j4 := S_c.cell 4
  have j5 := S_c.cell 5
  go_wp2_with fail
  refine (o6 _ _ _ H_s H_c).mono ?_; rintro e w11 ⟨A11a, c11a, D11a, d11a, A11b, c11b, D11b, d11b, rfl, O11a, O11b, O11c, O11d, B11⟩
  clear i0 i1 i2 i3 i4 i5
  clear j0 j1 j2 j3 j4 j5
  try dsimp only at O11a O11b O11c O11d
  have H_k : VN w11 w11.heap.size (.agg #[.bool rb.s, .slice A11a rb.a.length c11a, .slice D11a rb.b.length d11a, .bool ib.s, .slice A11b ib.a.length c11b, .slice D11b ib.b.length d11b]) rb ib := ⟨A11a, c11a, D11a, d11a, A11b, c11b, D11b, d11b, rfl, O11a.rw, O11b.rw, O11c.rw, O11d.rw⟩
  clear O11a O11b O11c O11d
  have S_a := S_a.nx B11
  have H_a := H_a.st B11
  have S_b := S_b.nx B11
  have H_b := H_b.st B11
  have S_c := S_c.nx B11
  have H_c := H_c.st B11
  have S_s := S_s.nx B11
  have H_s := H_s.st B11
  have S_l := S_l.nx B11
  have H_l := H_l.st B11
  have S_x := S_x.nx B11
  have H_x := H_x.st B11
  have S_y := S_y.nx B11
  have H_y := H_y.st B11
  have S_r := S_r.nx B11
  have H_r := H_r.st B11
  have C0 := bt C0 B11
  have L11 := bal w11 (.cells #[.bool rb.s, .slice A11a rb.a.length c11a, .slice D11a rb.b.length d11a, .bool ib.s, .slice A11b ib.a.length c11b, .slice D11b ib.b.length d11b] 26)
  have S_k := SB.new w11 [.bool rb.s, .slice A11a rb.a.length c11a, .slice D11a rb.b.length d11a, .bool ib.s, .slice A11b ib.a.length c11b, .slice D11b ib.b.length d11b] 26
  have S_a := S_a.nx L11
  have H_a := H_a.st L11
  have S_b := S_b.nx L11
  have H_b := H_b.st L11
  have S_c := S_c.nx L11
  have H_c := H_c.st L11
  have S_s := S_s.nx L11
  have H_s := H_s.st L11
  have S_l := S_l.nx L11
  have H_l := H_l.st L11
  have S_x := S_x.nx L11
  have H_x := H_x.st L11
  have S_y := S_y.nx L11
  have H_y := H_y.st L11
  have S_r := S_r.nx L11
  have H_r := H_r.st L11
  have H_k := H_k.st L11
  have C0 := bt C0 L11
  have i0 := S_l.cell 0
  have i1 := S_l.cell 1
  have i2 := S_l.cell 2
  have i3 := S_l.cell 3
  have i4 := S_l.cell 4
  have i5 := S_l.cell 5
  have j0 := S_r.cell 0
  have j1 := S_r.cell 1
  have j2 := S_r.cell 2
  have j3 := S_r.cell 3
  have j4 := S_r.cell 4
  have j5 := S_r.cell 5
  go_wp2_with fail
  refine (o7 _ _ _ H_l H_r).mono ?_; rintro e w12 ⟨rfl, B12⟩
  have S_a := S_a.nx B12
  have H_a := H_a.st B12
  have S_b := S_b.nx B12
  have H_b := H_b.st B12
  have S_c := S_c.nx B12
  have H_c := H_c.st B12
  have S_s := S_s.nx B12
  have H_s := H_s.st B12
  have S_l := S_l.nx B12
  have H_l := H_l.st B12
  have S_x := S_x.nx B12
  have H_x := H_x.st B12
  have S_y := S_y.nx B12
  have H_y := H_y.st B12
  have S_r := S_r.nx B12
  have H_r := H_r.st B12
  have S_k := S_k.nx B12
  have H_k := H_k.st B12
  have C0 := bt C0 B12
  clear i0 i1 i2 i3 i4 i5
  clear j0 j1 j2 j3 j4 j5
  have i0 := S_k.cell 0
  have i1 := S_k.cell 1
  have i2 := S_k.cell 2
  have i3 := S_k.cell 3
  have i4 := S_k.cell 4
  have i5 := S_k.cell 5
  have j0 := S_b.cell 0
  have j1 := S_b.cell 1
  have j2 := S_b.cell 2
  have j3 := S_b.cell 3
  have j4 := S_b.cell 4
  have j5 := S_b.cell 5
  go_wp2_with fail
  refine (o8 _ _ _ H_k H_b).mono ?_; rintro e w13 ⟨rfl, B13⟩
  have S_a := S_a.nx B13
  have H_a := H_a.st B13
  have S_b := S_b.nx B13
  have H_b := H_b.st B13
  have S_c := S_c.nx B13
  have H_c := H_c.st B13
  have S_s := S_s.nx B13
  have H_s := H_s.st B13
  have S_l := S_l.nx B13
  have H_l := H_l.st B13
  have S_x := S_x.nx B13
  have H_x := H_x.st B13
  have S_y := S_y.nx B13
  have H_y := H_y.st B13
  have S_r := S_r.nx B13
  have H_r := H_r.st B13
  have S_k := S_k.nx B13
  have H_k := H_k.st B13
  have C0 := bt C0 B13
  clear i0 i1 i2 i3 i4 i5
  clear j0 j1 j2 j3 j4 j5
  rcases m4 with ⟨g1, g2⟩ | ⟨g1, g2⟩
  · rw [g1] at o9
    rw [g2] at o10
    clear g1 g2
    have i0 := S_x.cell 0
    have i1 := S_x.cell 1
    have i2 := S_x.cell 2
    have i3 := S_x.cell 3
    have i4 := S_x.cell 4
    have i5 := S_x.cell 5
    have j0 := S_a.cell 0
    have j1 := S_a.cell 1
    have j2 := S_a.cell 2
    have j3 := S_a.cell 3
    have j4 := S_a.cell 4
    have j5 := S_a.cell 5
    go_wp2_with fail
    refine (o10 _ _ _ H_x H_a).mono ?_; rintro e w14 ⟨A14a, c14a, D14a, d14a, A14b, c14b, D14b, d14b, rfl, O14a, O14b, O14c, O14d, B14⟩
    clear i0 i1 i2 i3 i4 i5
    clear j0 j1 j2 j3 j4 j5
    try dsimp only at O14a O14b O14c O14d
    have H_q : VN w14 w14.heap.size (.agg #[.bool rw0.s, .slice A14a rw0.a.length c14a, .slice D14a rw0.b.length d14a, .bool rw0.s, .slice A14b rw0.a.length c14b, .slice D14b rw0.b.length d14b]) rw0 rw0 := ⟨A14a, c14a, D14a, d14a, A14b, c14b, D14b, d14b, rfl, O14a.rw, O14b.rw, O14c.rw, O14d.rw⟩
    clear O14a O14b O14c O14d
    have S_a := S_a.nx B14
    have H_a := H_a.st B14
    have S_b := S_b.nx B14
    have H_b := H_b.st B14
    have S_c := S_c.nx B14
    have H_c := H_c.st B14
    have S_s := S_s.nx B14
    have H_s := H_s.st B14
    have S_l := S_l.nx B14
    have H_l := H_l.st B14
    have S_x := S_x.nx B14
    have H_x := H_x.st B14
    have S_y := S_y.nx B14
    have H_y := H_y.st B14
    have S_r := S_r.nx B14
    have H_r := H_r.st B14
    have S_k := S_k.nx B14
    have H_k := H_k.st B14
    have C0 := bt C0 B14
    have L14 := bal w14 (.cells #[.bool rw0.s, .slice A14a rw0.a.length c14a, .slice D14a rw0.b.length d14a, .bool rw0.s, .slice A14b rw0.a.length c14b, .slice D14b rw0.b.length d14b] 26)
    have S_q := SB.new w14 [.bool rw0.s, .slice A14a rw0.a.length c14a, .slice D14a rw0.b.length d14a, .bool rw0.s, .slice A14b rw0.a.length c14b, .slice D14b rw0.b.length d14b] 26
    have S_a := S_a.nx L14
    have H_a := H_a.st L14
    have S_b := S_b.nx L14
    have H_b := H_b.st L14
    have S_c := S_c.nx L14
    have H_c := H_c.st L14
    have S_s := S_s.nx L14
    have H_s := H_s.st L14
    have S_l := S_l.nx L14
    have H_l := H_l.st L14
    have S_x := S_x.nx L14
    have H_x := H_x.st L14
    have S_y := S_y.nx L14
    have H_y := H_y.st L14
    have S_r := S_r.nx L14
    have H_r := H_r.st L14
    have S_k := S_k.nx L14
    have H_k := H_k.st L14
    have H_q := H_q.st L14
    have C0 := bt C0 L14
    go_wp2_with fail
    refine (int_any 0 _ (by omega) (by omega)).mono ?_; rintro e w15 ⟨A15a, c15a, D15a, d15a, A15b, c15b, D15b, d15b, rfl, O15a, O15b, O15c, O15d, B15⟩
    rw [show ((0 : Int) : Rat) = 0 from rfl] at *
    try dsimp only at O15a O15b O15c O15d
    have H_z : VN w15 w15.heap.size (.agg #[.bool (rwq 0).s, .slice A15a (rwq 0).a.length c15a, .slice D15a (rwq 0).b.length d15a, .bool (rwq 0).s, .slice A15b (rwq 0).a.length c15b, .slice D15b (rwq 0).b.length d15b]) (rwq 0) (rwq 0) := ⟨A15a, c15a, D15a, d15a, A15b, c15b, D15b, d15b, rfl, O15a.rw, O15b.rw, O15c.rw, O15d.rw⟩
    clear O15a O15b O15c O15d
    have S_a := S_a.nx B15
    have H_a := H_a.st B15
    have S_b := S_b.nx B15
    have H_b := H_b.st B15
    have S_c := S_c.nx B15
    have H_c := H_c.st B15
    have S_s := S_s.nx B15
    have H_s := H_s.st B15
    have S_l := S_l.nx B15
    have H_l := H_l.st B15
    have S_x := S_x.nx B15
    have H_x := H_x.st B15
    have S_y := S_y.nx B15
    have H_y := H_y.st B15
    have S_r := S_r.nx B15
    have H_r := H_r.st B15
    have S_k := S_k.nx B15
    have H_k := H_k.st B15
    have S_q := S_q.nx B15
    have H_q := H_q.st B15
    have C0 := bt C0 B15
    have L15 := bal w15 (.cells #[.bool (rwq 0).s, .slice A15a (rwq 0).a.length c15a, .slice D15a (rwq 0).b.length d15a, .bool (rwq 0).s, .slice A15b (rwq 0).a.length c15b, .slice D15b (rwq 0).b.length d15b] 26)
    have S_z := SB.new w15 [.bool (rwq 0).s, .slice A15a (rwq 0).a.length c15a, .slice D15a (rwq 0).b.length d15a, .bool (rwq 0).s, .slice A15b (rwq 0).a.length c15b, .slice D15b (rwq 0).b.length d15b] 26
    have S_a := S_a.nx L15
    have H_a := H_a.st L15
    have S_b := S_b.nx L15
    have H_b := H_b.st L15
    have S_c := S_c.nx L15
    have H_c := H_c.st L15
    have S_s := S_s.nx L15
    have H_s := H_s.st L15
    have S_l := S_l.nx L15
    have H_l := H_l.st L15
    have S_x := S_x.nx L15
    have H_x := H_x.st L15
    have S_y := S_y.nx L15
    have H_y := H_y.st L15
    have S_r := S_r.nx L15
    have H_r := H_r.st L15
    have S_k := S_k.nx L15
    have H_k := H_k.st L15
    have S_q := S_q.nx L15
    have H_q := H_q.st L15
    have H_z := H_z.st L15
    have C0 := bt C0 L15
    have i0 := S_a.cell 0
    have i1 := S_a.cell 1
    have i2 := S_a.cell 2
    have i3 := S_a.cell 3
    have i4 := S_a.cell 4
    have i5 := S_a.cell 5
    have j0 := S_z.cell 0
    have j1 := S_z.cell 1
    have j2 := S_z.cell 2
    have j3 := S_z.cell 3
    have j4 := S_z.cell 4
    have j5 := S_z.cell 5
    go_wp2_with fail
    refine (o9 _ _ _ H_a H_z).mono ?_; rintro e w16 ⟨rfl, B16⟩
    have S_a := S_a.nx B16
    have H_a := H_a.st B16
    have S_b := S_b.nx B16
    have H_b := H_b.st B16
    have S_c := S_c.nx B16
    have H_c := H_c.st B16
    have S_s := S_s.nx B16
    have H_s := H_s.st B16
    have S_l := S_l.nx B16
    have H_l := H_l.st B16
    have S_x := S_x.nx B16
    have H_x := H_x.st B16
    have S_y := S_y.nx B16
    have H_y := H_y.st B16
    have S_r := S_r.nx B16
    have H_r := H_r.st B16
    have S_k := S_k.nx B16
    have H_k := H_k.st B16
    have S_q := S_q.nx B16
    have H_q := H_q.st B16
    have S_z := S_z.nx B16
    have H_z := H_z.st B16
    have C0 := bt C0 B16
    clear i0 i1 i2 i3 i4 i5
    clear j0 j1 j2 j3 j4 j5
    go_wp2_with fail
    go_ret
    exact ⟨rfl, C0⟩
  · rw [g1] at o9
    rw [g2] at o10
    clear g1 g2
    have i0 := S_x.cell 0
    have i1 := S_x.cell 1
    have i2 := S_x.cell 2
    have i3 := S_x.cell 3
    have i4 := S_x.cell 4
    have i5 := S_x.cell 5
    have j0 := S_a.cell 0
    have j1 := S_a.cell 1
    have j2 := S_a.cell 2
    have j3 := S_a.cell 3
    have j4 := S_a.cell 4
    have j5 := S_a.cell 5
    go_wp2_with fail
    refine (o10 _ _ _ H_x H_a).mono ?_; rintro e w14 ⟨A14a, c14a, D14a, d14a, A14b, c14b, D14b, d14b, rfl, O14a, O14b, O14c, O14d, B14⟩
    clear i0 i1 i2 i3 i4 i5
    clear j0 j1 j2 j3 j4 j5
    try dsimp only at O14a O14b O14c O14d
    have H_q : VN w14 w14.heap.size (.agg #[.bool rb.s, .slice A14a rb.a.length c14a, .slice D14a rb.b.length d14a, .bool ib.s, .slice A14b ib.a.length c14b, .slice D14b ib.b.length d14b]) rb ib := ⟨A14a, c14a, D14a, d14a, A14b, c14b, D14b, d14b, rfl, O14a.rw, O14b.rw, O14c.rw, O14d.rw⟩
    clear O14a O14b O14c O14d
    have S_a := S_a.nx B14
    have H_a := H_a.st B14
    have S_b := S_b.nx B14
    have H_b := H_b.st B14
    have S_c := S_c.nx B14
    have H_c := H_c.st B14
    have S_s := S_s.nx B14
    have H_s := H_s.st B14
    have S_l := S_l.nx B14
    have H_l := H_l.st B14
    have S_x := S_x.nx B14
    have H_x := H_x.st B14
    have S_y := S_y.nx B14
    have H_y := H_y.st B14
    have S_r := S_r.nx B14
    have H_r := H_r.st B14
    have S_k := S_k.nx B14
    have H_k := H_k.st B14
    have C0 := bt C0 B14
    have L14 := bal w14 (.cells #[.bool rb.s, .slice A14a rb.a.length c14a, .slice D14a rb.b.length d14a, .bool ib.s, .slice A14b ib.a.length c14b, .slice D14b ib.b.length d14b] 26)
    have S_q := SB.new w14 [.bool rb.s, .slice A14a rb.a.length c14a, .slice D14a rb.b.length d14a, .bool ib.s, .slice A14b ib.a.length c14b, .slice D14b ib.b.length d14b] 26
    have S_a := S_a.nx L14
    have H_a := H_a.st L14
    have S_b := S_b.nx L14
    have H_b := H_b.st L14
    have S_c := S_c.nx L14
    have H_c := H_c.st L14
    have S_s := S_s.nx L14
    have H_s := H_s.st L14
    have S_l := S_l.nx L14
    have H_l := H_l.st L14
    have S_x := S_x.nx L14
    have H_x := H_x.st L14
    have S_y := S_y.nx L14
    have H_y := H_y.st L14
    have S_r := S_r.nx L14
    have H_r := H_r.st L14
    have S_k := S_k.nx L14
    have H_k := H_k.st L14
    have H_q := H_q.st L14
    have C0 := bt C0 L14
    go_wp2_with fail
    refine (int_any 0 _ (by omega) (by omega)).mono ?_; rintro e w15 ⟨A15a, c15a, D15a, d15a, A15b, c15b, D15b, d15b, rfl, O15a, O15b, O15c, O15d, B15⟩
    rw [show ((0 : Int) : Rat) = 0 from rfl] at *
    try dsimp only at O15a O15b O15c O15d
    have H_z : VN w15 w15.heap.size (.agg #[.bool (rwq 0).s, .slice A15a (rwq 0).a.length c15a, .slice D15a (rwq 0).b.length d15a, .bool (rwq 0).s, .slice A15b (rwq 0).a.length c15b, .slice D15b (rwq 0).b.length d15b]) (rwq 0) (rwq 0) := ⟨A15a, c15a, D15a, d15a, A15b, c15b, D15b, d15b, rfl, O15a.rw, O15b.rw, O15c.rw, O15d.rw⟩
    clear O15a O15b O15c O15d
    have S_a := S_a.nx B15
    have H_a := H_a.st B15
    have S_b := S_b.nx B15
    have H_b := H_b.st B15
    have S_c := S_c.nx B15
    have H_c := H_c.st B15
    have S_s := S_s.nx B15
    have H_s := H_s.st B15
    have S_l := S_l.nx B15
    have H_l := H_l.st B15
    have S_x := S_x.nx B15
    have H_x := H_x.st B15
    have S_y := S_y.nx B15
    have H_y := H_y.st B15
    have S_r := S_r.nx B15
    have H_r := H_r.st B15
    have S_k := S_k.nx B15
    have H_k := H_k.st B15
    have S_q := S_q.nx B15
    have H_q := H_q.st B15
    have C0 := bt C0 B15
    have L15 := bal w15 (.cells #[.bool (rwq 0).s, .slice A15a (rwq 0).a.length c15a, .slice D15a (rwq 0).b.length d15a, .bool (rwq 0).s, .slice A15b (rwq 0).a.length c15b, .slice D15b (rwq 0).b.length d15b] 26)
    have S_z := SB.new w15 [.bool (rwq 0).s, .slice A15a (rwq 0).a.length c15a, .slice D15a (rwq 0).b.length d15a, .bool (rwq 0).s, .slice A15b (rwq 0).a.length c15b, .slice D15b (rwq 0).b.length d15b] 26
    have S_a := S_a.nx L15
    have H_a := H_a.st L15
    have S_b := S_b.nx L15
    have H_b := H_b.st L15
    have S_c := S_c.nx L15
    have H_c := H_c.st L15
    have S_s := S_s.nx L15
    have H_s := H_s.st L15
    have S_l := S_l.nx L15
    have H_l := H_l.st L15
    have S_x := S_x.nx L15
    have H_x := H_x.st L15
    have S_y := S_y.nx L15
    have H_y := H_y.st L15
    have S_r := S_r.nx L15
    have H_r := H_r.st L15
    have S_k := S_k.nx L15
    have H_k := H_k.st L15
    have S_q := S_q.nx L15
    have H_q := H_q.st L15
    have H_z := H_z.st L15
    have C0 := bt C0 L15
    have i0 := S_a.cell 0
    have i1 := S_a.cell 1
    have i2 := S_a.cell 2
    have i3 := S_a.cell 3
    have i4 := S_a.cell 4
    have i5 := S_a.cell 5
    have j0 := S_z.cell 0
    have j1 := S_z.cell 1
    have j2 := S_z.cell 2
    have j3 := S_z.cell 3
    have j4 := S_z.cell 4
    have j5 := S_z.cell 5
    go_wp2_with fail
    refine (o9 _ _ _ H_a H_z).mono ?_; rintro e w16 ⟨rfl, B16⟩
    have S_a := S_a.nx B16
    have H_a := H_a.st B16
    have S_b := S_b.nx B16
    have H_b := H_b.st B16
    have S_c := S_c.nx B16
    have H_c := H_c.st B16
    have S_s := S_s.nx B16
    have H_s := H_s.st B16
    have S_l := S_l.nx B16
    have H_l := H_l.st B16
    have S_x := S_x.nx B16
    have H_x := H_x.st B16
    have S_y := S_y.nx B16
    have H_y := H_y.st B16
    have S_r := S_r.nx B16
    have H_r := H_r.st B16
    have S_k := S_k.nx B16
    have H_k := H_k.st B16
    have S_q := S_q.nx B16
    have H_q := H_q.st B16
    have S_z := S_z.nx B16
    have H_z := H_z.st B16
    have C0 := bt C0 B16
    clear i0 i1 i2 i3 i4 i5
    clear j0 j1 j2 j3 j4 j5
    have i0 := S_a.cell 0
    have i1 := S_a.cell 1
    have i2 := S_a.cell 2
    have i3 := S_a.cell 3
    have i4 := S_a.cell 4
    have i5 := S_a.cell 5
    have j0 := S_z.cell 0
    have j1 := S_z.cell 1
    have j2 := S_z.cell 2
    have j3 := S_z.cell 3
    have j4 := S_z.cell 4
    have j5 := S_z.cell 5
    go_wp2_with fail
    refine (o9 _ _ _ H_a H_z).mono ?_; rintro e w17 ⟨rfl, B17⟩
    have S_a := S_a.nx B17
    have H_a := H_a.st B17
    have S_b := S_b.nx B17
    have H_b := H_b.st B17
    have S_c := S_c.nx B17
    have H_c := H_c.st B17
    have S_s := S_s.nx B17
    have H_s := H_s.st B17
    have S_l := S_l.nx B17
    have H_l := H_l.st B17
    have S_x := S_x.nx B17
    have H_x := H_x.st B17
    have S_y := S_y.nx B17
    have H_y := H_y.st B17
    have S_r := S_r.nx B17
    have H_r := H_r.st B17
    have S_k := S_k.nx B17
    have H_k := H_k.st B17
    have S_q := S_q.nx B17
    have H_q := H_q.st B17
    have S_z := S_z.nx B17
    have H_z := H_z.st B17
    have C0 := bt C0 B17
    clear i0 i1 i2 i3 i4 i5
    clear j0 j1 j2 j3 j4 j5
    have i0 := S_q.cell 0
    have i1 := S_q.cell 1
    have i2 := S_q.cell 2
    have i3 := S_q.cell 3
    have i4 := S_q.cell 4
    have i5 := S_q.cell 5
    have j0 := S_b.cell 0
    have j1 := S_b.cell 1
    have j2 := S_b.cell 2
    have j3 := S_b.cell 3
    have j4 := S_b.cell 4
    have j5 := S_b.cell 5
    go_wp2_with fail
    refine (o8 _ _ _ H_q H_b).mono ?_; rintro e w18 ⟨rfl, B18⟩
    have S_a := S_a.nx B18
    have H_a := H_a.st B18
    have S_b := S_b.nx B18
    have H_b := H_b.st B18
    have S_c := S_c.nx B18
    have H_c := H_c.st B18
    have S_s := S_s.nx B18
    have H_s := H_s.st B18
    have S_l := S_l.nx B18
    have H_l := H_l.st B18
    have S_x := S_x.nx B18
    have H_x := H_x.st B18
    have S_y := S_y.nx B18
    have H_y := H_y.st B18
    have S_r := S_r.nx B18
    have H_r := H_r.st B18
    have S_k := S_k.nx B18
    have H_k := H_k.st B18
    have S_q := S_q.nx B18
    have H_q := H_q.st B18
    have S_z := S_z.nx B18
    have H_z := H_z.st B18
    have C0 := bt C0 B18
    clear i0 i1 i2 i3 i4 i5
    clear j0 j1 j2 j3 j4 j5
    go_wp2_with fail
    go_ret
    exact ⟨rfl, C0⟩

theorem field_any (V U T : Value) (ra ia rb ib rc ic : Rw) (w : World) (hV : VN w w.heap.size V ra ia) (hU : VN w w.heap.size U rb ib) (hT : VN w w.heap.size T rc ic) :
    Calls Try.prog 5 #[V, U, T] w fun e w' => e = .returned (.bool true) ∧ Below w.heap.size w w' := by
  by_cases h : nB ra ia = true ∧ nB rb ib = true ∧ nB rc ic = true
  · obtain ⟨h1, h2, h3⟩ := h
    rcases e1 : qaddA rb ib rc ic with ⟨sr, si, sk⟩
    rcases e2 : qmulA ra ia sr si with ⟨lr, li, lk⟩
    rcases e3 : qmulA rb ib ra ia with ⟨xr, xi, xk⟩
    rcases e4 : qmulA ra ia rc ic with ⟨yr, yi, yk⟩
    rcases e5 : qaddA xr xi yr yi with ⟨rr, ri, rk⟩
    refine field_ok V U T ra ia rb ib rc ic w hV hU hT h1 h2 h3 _ _ _ _ _ _ _ _ _ _ _ _ _ _ _ e1 e2 e3 e4 e5 ?_
    intro z1 z2 z3 z4 z5
    subst z1; subst z2; subst z3; subst z4; subst z5
    obtain ⟨x, y, rfl, rfl, b1, b2⟩ := nB_rat h1
    obtain ⟨u, v, rfl, rfl, b3, b4⟩ := nB_rat h2
    obtain ⟨p, q, rfl, rfl, b5, b6⟩ := nB_rat h3
    obtain ⟨f1, f2, f3, f4, f5⟩ := field_plain b1 b2 b3 b4 b5 b6 e1 e2 e3 e4 e5
    refine ⟨f1, f2, f3, ?_⟩
    rw [f4, f5]
    by_cases hz : x = 0 ∧ y = 0
    · exact Or.inl ⟨decide_eq_true hz, if_pos hz⟩
    · exact Or.inr ⟨decide_eq_false hz, if_neg hz⟩
  · obtain ⟨s1, a1, b1⟩ := ra
    obtain ⟨s2, a2, b2⟩ := ia
    obtain ⟨s3, a3, b3⟩ := rb
    obtain ⟨s4, a4, b4⟩ := ib
    obtain ⟨s5, a5, b5⟩ := rc
    obtain ⟨s6, a6, b6⟩ := ic
    exact field_bad V U T s1 a1 b1 s2 a2 b2 s3 a3 b3 s4 a4 b4 s5 a5 b5 s6 a6 b6 w hV hU hT h
theorem exactField_walk (V : Value) (ra ia : Rw) (U : Value) (rb ib : Rw) (T : Value) (rc ic : Rw) (w : World) (hV : VN w w.heap.size V ra ia) (hU : VN w w.heap.size U rb ib) (hT : VN w w.heap.size T rc ic) :
    Calls Try.prog 5 #[V, U, T] w fun e w' => e = .returned (.bool true) ∧ Below w.heap.size w w' := field_any V U T ra ia rb ib rc ic w hV hU hT
end Go.Proofs.Ytdkejndagicgjaa
