/- The walk of ExactSums. -/
import Derived.Test.YtdkejndagicgjaaGI
import Derived.Test.YtdkejndagicgjaaGK
import Derived.Test.YtdkejndagicgjaaGO
namespace Go.Proofs.Ytdkejndagicgjaa
open Go.RowKit

/-- what a drawn region keeps: six blocks -/
def U6 (w0 : World) (g1 : Nat) (l1 : List Value) (g2 : Nat) (l2 : List Value) (g3 : Nat) (l3 : List Value) (g4 : Nat) (l4 : List Value) (g5 : Nat) (l5 : List Value) (g6 : Nat) (l6 : List Value) (w' : World) : Prop :=
  SB w' g1 l1 ∧ SB w' g2 l2 ∧ SB w' g3 l3 ∧ SB w' g4 l4 ∧ SB w' g5 l5 ∧ SB w' g6 l6 ∧ Below w0.heap.size w0 w'
theorem U6.nx {w0 w1 w2 : World} {g1 g2 g3 g4 g5 g6 : Nat} {l1 l2 l3 l4 l5 l6 : List Value} (h : U6 w0 g1 l1 g2 l2 g3 l3 g4 l4 g5 l5 g6 l6 w1) (hb : Below w1.heap.size w1 w2) : U6 w0 g1 l1 g2 l2 g3 l3 g4 l4 g5 l5 g6 l6 w2 :=
  ⟨h.1.nx hb, h.2.1.nx hb, h.2.2.1.nx hb, h.2.2.2.1.nx hb, h.2.2.2.2.1.nx hb, h.2.2.2.2.2.1.nx hb, bt h.2.2.2.2.2.2 hb⟩
theorem U6.dr {w0 w1 : World} {g1 g2 g3 g4 g5 g6 : Nat} {l1 l2 l3 l4 l5 l6 : List Value} (h : U6 w0 g1 l1 g2 l2 g3 l3 g4 l4 g5 l5 g6 l6 w1) : U6 w0 g1 l1 g2 l2 g3 l3 g4 l4 g5 l5 g6 l6 w1.drew := h.nx (Below.drew (Below.refl _ _))

theorem alikeB_same (r i : Rw) : alikeB r i r i = true := by
  unfold alikeB
  rw [Bool.and_eq_true, fsB_iff, fsB_iff]
  exact ⟨⟨rfl, rfl, rfl⟩, rfl, rfl, rfl⟩


set_option maxRecDepth 100000 in
set_option maxHeartbeats 16000000 in
theorem exactSums_walk (V : Value) (ra ia : Rw) (U : Value) (rb ib : Rw) (n : Int) (w : World) (hV : VN w w.heap.size V ra ia) (hU : VN w w.heap.size U rb ib) (bd : -9223372036854775808 ≤ n ∧ n ≤ 9223372036854775807) :
    Calls Try.prog 8 #[V, U, .int .i64 n] w fun e w' => e = .returned (.bool true) ∧ Below w.heap.size w w' := by
  obtain ⟨b0, b1⟩ := bd
  obtain ⟨A1, c1, D1, d1, A2, c2, D2, d2, rfl, p1, p2, p3, p4⟩ := hV
  obtain ⟨A3, c3, D3, d3, A4, c4, D4, d4, rfl, p5, p6, p7, p8⟩ := hU
  obtain ⟨S_a, S_b, C0⟩ := T2.new w [.bool ra.s, .slice A1 ra.a.length c1, .slice D1 ra.b.length d1, .bool ia.s, .slice A2 ia.a.length c2, .slice D2 ia.b.length d2] [.bool rb.s, .slice A3 rb.a.length c3, .slice D3 rb.b.length d3, .bool ib.s, .slice A4 ib.a.length c4, .slice D4 ib.b.length d4] 26 26
  have H_a : VN w w.heap.size (.agg #[.bool ra.s, .slice A1 ra.a.length c1, .slice D1 ra.b.length d1, .bool ia.s, .slice A2 ia.a.length c2, .slice D2 ia.b.length d2]) ra ia := ⟨A1, c1, D1, d1, A2, c2, D2, d2, rfl, p1, p2, p3, p4⟩
  have H_a := H_a.st C0
  have H_b : VN w w.heap.size (.agg #[.bool rb.s, .slice A3 rb.a.length c3, .slice D3 rb.b.length d3, .bool ib.s, .slice A4 ib.a.length c4, .slice D4 ib.b.length d4]) rb ib := ⟨A3, c3, D3, d3, A4, c4, D4, d4, rfl, p5, p6, p7, p8⟩
  have H_b := H_b.st C0
  clear p1 p2 p3 p4 p5 p6 p7 p8
  have o0 := fun V U w' h1 h2 => eadd_any (V := V) (U := U) (r := ra) (i := ia) (r' := rb) (i' := ib) (w := w') h1 h2
  have o1 := fun V U w' h1 h2 => raddn_any (V := V) (U := U) (r := ra) (i := ia) (r' := rb) (i' := ib) (w := w') h1 h2
  have o2 := fun V U w' h1 h2 => esub_any (V := V) (U := U) (r := ra) (i := ia) (r' := rb) (i' := ib) (w := w') h1 h2
  have o3 := fun V U w' h1 h2 => rsubn_any (V := V) (U := U) (r := ra) (i := ia) (r' := rb) (i' := ib) (w := w') h1 h2
  have o4 := fun V U w' h1 h2 => ecmp_any (V := V) (U := U) (r := ra) (i := ia) (r' := rb) (i' := ib) (w := w') h1 h2
  have o5 := fun V U w' h1 h2 => rcmpn_any (V := V) (U := U) (r := ra) (i := ia) (r' := rb) (i' := ib) (w := w') h1 h2
  have o6 := fun V w' h => esmall_any V ra ia w' h
  have o7 := fun V w' h => rsmall_any V ra ia w' h
  have o8 := fun V U w' h1 h2 => esame_any V U ra ia rb ib w' h1 h2
  have o9 := fun V U w' h1 h2 => rsamen_any V U ra ia rb ib w' h1 h2
  have q0 := fun V w' h => esound_any V ra ia w' h
  have q1 := fun V w' h => resound_any V ra ia w' h
  have q2 := fun V w' h => whole1_any V ra ia w' h
  have q3 := fun V w' h => rwhole1_any V ra ia w' h
  have n0 := fun w' => int_any n w' b0 b1
  have n1 := fun w' => rint_any n w' b0 b1
  rcases em : qaddA ra ia rb ib with ⟨mr, mi, mk⟩
  rw [em] at o0 o1
  rcases ed : qsubA ra ia rb ib with ⟨dr, di, dk⟩
  rw [ed] at o2 o3
  rcases ec : qcmpA ra ia rb ib with ⟨ck, ce⟩
  rw [ec] at o4 o5
  rcases es : smallA ra ia with ⟨sk, se⟩
  rw [es] at o6 o7
  clear em ed ec es b0 b1
  generalize sameB ra ia rb ib = t1 at *
  generalize nB ra ia = t2 at *
  generalize wB ra ia = t3 at *
  generalize rwq (n : Rat) = nr at *
  generalize rwq 0 = ni at *
  have l0 := fun V U w' h1 h2 => alike_any V U mr mi mr mi w' h1 h2
  have l1 := fun V U w' h1 h2 => alike_any V U dr di dr di w' h1 h2
  have l2 := fun V U w' h1 h2 => alike_any V U nr ni nr ni w' h1 h2
  rw [alikeB_same] at l0 l1 l2
  obtain ⟨W0, hW0⟩ : ∃ W0, W0 = (w.alloc (.cells #[.bool ra.s, .slice A1 ra.a.length c1, .slice D1 ra.b.length d1, .bool ia.s, .slice A2 ia.a.length c2, .slice D2 ia.b.length d2] 26)).alloc (.cells #[.bool rb.s, .slice A3 rb.a.length c3, .slice D3 rb.b.length d3, .bool ib.s, .slice A4 ib.a.length c4, .slice D4 ib.b.length d4] 26) := ⟨_, rfl⟩
  go_enter Try.func8, Try.ntmps8
  rw [← hW0] at S_a S_b C0 H_a H_b
  rw [hW0] at S_a S_b C0 H_a H_b
  have i0 := S_a.cell 0
  have i1 := S_a.cell 1
  have i2 := S_a.cell 2
  have i3 := S_a.cell 3
  have i4 := S_a.cell 4
  have i5 := S_a.cell 5
  have j0 := S_b.cell 0
  have j1 := S_b.cell 1
  have j2 := S_b.cell 2
  have j3 := S_b.cell 3
  have j4 := S_b.cell 4
  have j5 := S_b.cell 5
  go_wp2_with fail
  clear i0 i1 i2 i3 i4 i5 j0 j1 j2 j3 j4 j5
  rw [← hW0] at S_a S_b C0 H_a H_b ⊢
  clear hW0
  refine (o0 _ _ _ H_a H_b).mono ?_; rintro e w3 ⟨A3a, c3a, D3a, d3a, A3b, c3b, D3b, d3b, rfl, O3a, O3b, O3c, O3d, B3⟩
  try dsimp only at O3a O3b O3c O3d
  have H_x : VN w3 w3.heap.size (.agg #[.bool mr.s, .slice A3a mr.a.length c3a, .slice D3a mr.b.length d3a, .bool mi.s, .slice A3b mi.a.length c3b, .slice D3b mi.b.length d3b]) mr mi := ⟨A3a, c3a, D3a, d3a, A3b, c3b, D3b, d3b, rfl, O3a.rw, O3b.rw, O3c.rw, O3d.rw⟩
  clear O3a O3b O3c O3d
  have S_a := S_a.nx B3
  have H_a := H_a.st B3
  have S_b := S_b.nx B3
  have H_b := H_b.st B3
  have C0 := bt C0 B3
  have L3 := bal w3 (.cells #[.bool mr.s, .slice A3a mr.a.length c3a, .slice D3a mr.b.length d3a, .bool mi.s, .slice A3b mi.a.length c3b, .slice D3b mi.b.length d3b] 26)
  have S_x := SB.new w3 [.bool mr.s, .slice A3a mr.a.length c3a, .slice D3a mr.b.length d3a, .bool mi.s, .slice A3b mi.a.length c3b, .slice D3b mi.b.length d3b] 26
  have S_a := S_a.nx L3
  have H_a := H_a.st L3
  have S_b := S_b.nx L3
  have H_b := H_b.st L3
  have H_x := H_x.st L3
  have C0 := bt C0 L3
  have i0 := S_a.cell 0
  have i1 := S_a.cell 1
  have i2 := S_a.cell 2
  have i3 := S_a.cell 3
  have i4 := S_a.cell 4
  have i5 := S_a.cell 5
  have j0 := S_b.cell 0
  have j1 := S_b.cell 1
  have j2 := S_b.cell 2
  have j3 := S_b.cell 3
  have j4 := S_b.cell 4
  have j5 := S_b.cell 5
  go_wp2_with fail
  refine (o1 _ _ _ H_a H_b).mono ?_; rintro e w4 ⟨A4a, c4a, D4a, d4a, A4b, c4b, D4b, d4b, rfl, O4a, O4b, O4c, O4d, B4⟩
  clear i0 i1 i2 i3 i4 i5
  clear j0 j1 j2 j3 j4 j5
  try dsimp only at O4a O4b O4c O4d
  have H_y : VN w4 w4.heap.size (.agg #[.bool mr.s, .slice A4a mr.a.length c4a, .slice D4a mr.b.length d4a, .bool mi.s, .slice A4b mi.a.length c4b, .slice D4b mi.b.length d4b]) mr mi := ⟨A4a, c4a, D4a, d4a, A4b, c4b, D4b, d4b, rfl, O4a.rw, O4b.rw, O4c.rw, O4d.rw⟩
  clear O4a O4b O4c O4d
  have S_a := S_a.nx B4
  have H_a := H_a.st B4
  have S_b := S_b.nx B4
  have H_b := H_b.st B4
  have S_x := S_x.nx B4
  have H_x := H_x.st B4
  have C0 := bt C0 B4
  have L4 := bal w4 (.cells #[.bool mr.s, .slice A4a mr.a.length c4a, .slice D4a mr.b.length d4a, .bool mi.s, .slice A4b mi.a.length c4b, .slice D4b mi.b.length d4b] 26)
  have S_y := SB.new w4 [.bool mr.s, .slice A4a mr.a.length c4a, .slice D4a mr.b.length d4a, .bool mi.s, .slice A4b mi.a.length c4b, .slice D4b mi.b.length d4b] 26
  have S_a := S_a.nx L4
  have H_a := H_a.st L4
  have S_b := S_b.nx L4
  have H_b := H_b.st L4
  have S_x := S_x.nx L4
  have H_x := H_x.st L4
  have H_y := H_y.st L4
  have C0 := bt C0 L4
  have i0 := S_a.cell 0
  have i1 := S_a.cell 1
  have i2 := S_a.cell 2
  have i3 := S_a.cell 3
  have i4 := S_a.cell 4
  have i5 := S_a.cell 5
  have j0 := S_b.cell 0
  have j1 := S_b.cell 1
  have j2 := S_b.cell 2
  have j3 := S_b.cell 3
  have j4 := S_b.cell 4
  have j5 := S_b.cell 5
  go_wp2_with fail
  refine (o2 _ _ _ H_a H_b).mono ?_; rintro e w5 ⟨A5a, c5a, D5a, d5a, A5b, c5b, D5b, d5b, rfl, O5a, O5b, O5c, O5d, B5⟩
  clear i0 i1 i2 i3 i4 i5
  clear j0 j1 j2 j3 j4 j5
  try dsimp only at O5a O5b O5c O5d
  have H_u : VN w5 w5.heap.size (.agg #[.bool dr.s, .slice A5a dr.a.length c5a, .slice D5a dr.b.length d5a, .bool di.s, .slice A5b di.a.length c5b, .slice D5b di.b.length d5b]) dr di := ⟨A5a, c5a, D5a, d5a, A5b, c5b, D5b, d5b, rfl, O5a.rw, O5b.rw, O5c.rw, O5d.rw⟩
  clear O5a O5b O5c O5d
  have S_a := S_a.nx B5
  have H_a := H_a.st B5
  have S_b := S_b.nx B5
  have H_b := H_b.st B5
  have S_x := S_x.nx B5
  have H_x := H_x.st B5
  have S_y := S_y.nx B5
  have H_y := H_y.st B5
  have C0 := bt C0 B5
  have L5 := bal w5 (.cells #[.bool dr.s, .slice A5a dr.a.length c5a, .slice D5a dr.b.length d5a, .bool di.s, .slice A5b di.a.length c5b, .slice D5b di.b.length d5b] 26)
  have S_u := SB.new w5 [.bool dr.s, .slice A5a dr.a.length c5a, .slice D5a dr.b.length d5a, .bool di.s, .slice A5b di.a.length c5b, .slice D5b di.b.length d5b] 26
  have S_a := S_a.nx L5
  have H_a := H_a.st L5
  have S_b := S_b.nx L5
  have H_b := H_b.st L5
  have S_x := S_x.nx L5
  have H_x := H_x.st L5
  have S_y := S_y.nx L5
  have H_y := H_y.st L5
  have H_u := H_u.st L5
  have C0 := bt C0 L5
  have i0 := S_a.cell 0
  have i1 := S_a.cell 1
  have i2 := S_a.cell 2
  have i3 := S_a.cell 3
  have i4 := S_a.cell 4
  have i5 := S_a.cell 5
  have j0 := S_b.cell 0
  have j1 := S_b.cell 1
  have j2 := S_b.cell 2
  have j3 := S_b.cell 3
  have j4 := S_b.cell 4
  have j5 := S_b.cell 5
  go_wp2_with fail
  refine (o3 _ _ _ H_a H_b).mono ?_; rintro e w6 ⟨A6a, c6a, D6a, d6a, A6b, c6b, D6b, d6b, rfl, O6a, O6b, O6c, O6d, B6⟩
  clear i0 i1 i2 i3 i4 i5
  clear j0 j1 j2 j3 j4 j5
  try dsimp only at O6a O6b O6c O6d
  have H_v : VN w6 w6.heap.size (.agg #[.bool dr.s, .slice A6a dr.a.length c6a, .slice D6a dr.b.length d6a, .bool di.s, .slice A6b di.a.length c6b, .slice D6b di.b.length d6b]) dr di := ⟨A6a, c6a, D6a, d6a, A6b, c6b, D6b, d6b, rfl, O6a.rw, O6b.rw, O6c.rw, O6d.rw⟩
  clear O6a O6b O6c O6d
  have S_a := S_a.nx B6
  have H_a := H_a.st B6
  have S_b := S_b.nx B6
  have H_b := H_b.st B6
  have S_x := S_x.nx B6
  have H_x := H_x.st B6
  have S_y := S_y.nx B6
  have H_y := H_y.st B6
  have S_u := S_u.nx B6
  have H_u := H_u.st B6
  have C0 := bt C0 B6
  have L6 := bal w6 (.cells #[.bool dr.s, .slice A6a dr.a.length c6a, .slice D6a dr.b.length d6a, .bool di.s, .slice A6b di.a.length c6b, .slice D6b di.b.length d6b] 26)
  have S_v := SB.new w6 [.bool dr.s, .slice A6a dr.a.length c6a, .slice D6a dr.b.length d6a, .bool di.s, .slice A6b di.a.length c6b, .slice D6b di.b.length d6b] 26
  have S_a := S_a.nx L6
  have H_a := H_a.st L6
  have S_b := S_b.nx L6
  have H_b := H_b.st L6
  have S_x := S_x.nx L6
  have H_x := H_x.st L6
  have S_y := S_y.nx L6
  have H_y := H_y.st L6
  have S_u := S_u.nx L6
  have H_u := H_u.st L6
  have H_v := H_v.st L6
  have C0 := bt C0 L6
  have i0 := S_a.cell 0
  have i1 := S_a.cell 1
  have i2 := S_a.cell 2
  have i3 := S_a.cell 3
  have i4 := S_a.cell 4
  have i5 := S_a.cell 5
  have j0 := S_b.cell 0
  have j1 := S_b.cell 1
  have j2 := S_b.cell 2
  have j3 := S_b.cell 3
  have j4 := S_b.cell 4
  have j5 := S_b.cell 5
  go_wp2_with fail
  refine (o4 _ _ _ H_a H_b).mono ?_; rintro e w7 ⟨rfl, B7⟩
  clear i0 i1 i2 i3 i4 i5
  clear j0 j1 j2 j3 j4 j5
  have S_a := S_a.nx B7
  have H_a := H_a.st B7
  have S_b := S_b.nx B7
  have H_b := H_b.st B7
  have S_x := S_x.nx B7
  have H_x := H_x.st B7
  have S_y := S_y.nx B7
  have H_y := H_y.st B7
  have S_u := S_u.nx B7
  have H_u := H_u.st B7
  have S_v := S_v.nx B7
  have H_v := H_v.st B7
  have C0 := bt C0 B7
  have i0 := S_a.cell 0
  have i1 := S_a.cell 1
  have i2 := S_a.cell 2
  have i3 := S_a.cell 3
  have i4 := S_a.cell 4
  have i5 := S_a.cell 5
  have j0 := S_b.cell 0
  have j1 := S_b.cell 1
  have j2 := S_b.cell 2
  have j3 := S_b.cell 3
  have j4 := S_b.cell 4
  have j5 := S_b.cell 5
  go_wp2_with fail
  refine (o5 _ _ _ H_a H_b).mono ?_; rintro e w8 ⟨rfl, B8⟩
  clear i0 i1 i2 i3 i4 i5
  clear j0 j1 j2 j3 j4 j5
  have S_a := S_a.nx B8
  have H_a := H_a.st B8
  have S_b := S_b.nx B8
  have H_b := H_b.st B8
  have S_x := S_x.nx B8
  have H_x := H_x.st B8
  have S_y := S_y.nx B8
  have H_y := H_y.st B8
  have S_u := S_u.nx B8
  have H_u := H_u.st B8
  have S_v := S_v.nx B8
  have H_v := H_v.st B8
  have C0 := bt C0 B8
  have i0 := S_a.cell 0
  have i1 := S_a.cell 1
  have i2 := S_a.cell 2
  have i3 := S_a.cell 3
  have i4 := S_a.cell 4
  have i5 := S_a.cell 5
  go_wp2_with fail
  refine (o6 _ _ H_a).mono ?_; rintro e w9 ⟨rfl, B9⟩
  clear i0 i1 i2 i3 i4 i5
  have S_a := S_a.nx B9
  have H_a := H_a.st B9
  have S_b := S_b.nx B9
  have H_b := H_b.st B9
  have S_x := S_x.nx B9
  have H_x := H_x.st B9
  have S_y := S_y.nx B9
  have H_y := H_y.st B9
  have S_u := S_u.nx B9
  have H_u := H_u.st B9
  have S_v := S_v.nx B9
  have H_v := H_v.st B9
  have C0 := bt C0 B9
  have i0 := S_a.cell 0
  have i1 := S_a.cell 1
  have i2 := S_a.cell 2
  have i3 := S_a.cell 3
  have i4 := S_a.cell 4
  have i5 := S_a.cell 5
  go_wp2_with fail
  refine (o7 _ _ H_a).mono ?_; rintro e w10 ⟨rfl, B10⟩
  clear i0 i1 i2 i3 i4 i5
  have S_a := S_a.nx B10
  have H_a := H_a.st B10
  have S_b := S_b.nx B10
  have H_b := H_b.st B10
  have S_x := S_x.nx B10
  have H_x := H_x.st B10
  have S_y := S_y.nx B10
  have H_y := H_y.st B10
  have S_u := S_u.nx B10
  have H_u := H_u.st B10
  have S_v := S_v.nx B10
  have H_v := H_v.st B10
  have C0 := bt C0 B10
  have k8 : U6 w10 (w.heap.size) [.bool ra.s, .slice A1 ra.a.length c1, .slice D1 ra.b.length d1, .bool ia.s, .slice A2 ia.a.length c2, .slice D2 ia.b.length d2] (w.heap.size + 1) [.bool rb.s, .slice A3 rb.a.length c3, .slice D3 rb.b.length d3, .bool ib.s, .slice A4 ib.a.length c4, .slice D4 ib.b.length d4] (w3.heap.size) [.bool mr.s, .slice A3a mr.a.length c3a, .slice D3a mr.b.length d3a, .bool mi.s, .slice A3b mi.a.length c3b, .slice D3b mi.b.length d3b] (w4.heap.size) [.bool mr.s, .slice A4a mr.a.length c4a, .slice D4a mr.b.length d4a, .bool mi.s, .slice A4b mi.a.length c4b, .slice D4b mi.b.length d4b] (w5.heap.size) [.bool dr.s, .slice A5a dr.a.length c5a, .slice D5a dr.b.length d5a, .bool di.s, .slice A5b di.a.length c5b, .slice D5b di.b.length d5b] (w6.heap.size) [.bool dr.s, .slice A6a dr.a.length c6a, .slice D6a dr.b.length d6a, .bool di.s, .slice A6b di.a.length c6b, .slice D6b di.b.length d6b] w10 := ⟨S_a, S_b, S_x, S_y, S_u, S_v, Below.refl _ _⟩
  clear S_a S_b S_x S_y S_u S_v
  go_wp2_with fail
  simp only [List.append_eq, List.cons_append, List.nil_append]
  have k8d := k8.dr
  have k8s := And.intro (k8d.1.cell 0) (And.intro (k8d.1.cell 1) (And.intro (k8d.1.cell 2) (And.intro (k8d.1.cell 3) (And.intro (k8d.1.cell 4) (And.intro (k8d.1.cell 5) (And.intro (k8d.2.1.cell 0) (And.intro (k8d.2.1.cell 1) (And.intro (k8d.2.1.cell 2) (And.intro (k8d.2.1.cell 3) (And.intro (k8d.2.1.cell 4) (And.intro (k8d.2.1.cell 5) (And.intro (k8d.2.2.1.cell 0) (And.intro (k8d.2.2.1.cell 1) (And.intro (k8d.2.2.1.cell 2) (And.intro (k8d.2.2.1.cell 3) (And.intro (k8d.2.2.1.cell 4) (And.intro (k8d.2.2.1.cell 5) (And.intro (k8d.2.2.2.1.cell 0) (And.intro (k8d.2.2.2.1.cell 1) (And.intro (k8d.2.2.2.1.cell 2) (And.intro (k8d.2.2.2.1.cell 3) (And.intro (k8d.2.2.2.1.cell 4) (And.intro (k8d.2.2.2.1.cell 5) (And.intro (k8d.2.2.2.2.1.cell 0) (And.intro (k8d.2.2.2.2.1.cell 1) (And.intro (k8d.2.2.2.2.1.cell 2) (And.intro (k8d.2.2.2.2.1.cell 3) (And.intro (k8d.2.2.2.2.1.cell 4) (And.intro (k8d.2.2.2.2.1.cell 5) (And.intro (k8d.2.2.2.2.2.1.cell 0) (And.intro (k8d.2.2.2.2.2.1.cell 1) (And.intro (k8d.2.2.2.2.2.1.cell 2) (And.intro (k8d.2.2.2.2.2.1.cell 3) (And.intro (k8d.2.2.2.2.2.1.cell 4) (And.intro (k8d.2.2.2.2.2.1.cell 5) (k8d))))))))))))))))))))))))))))))))))))
  go_region_held3 (fun w' => w'.cell? ⟨w.heap.size, 0, none⟩ = some (.bool ra.s) ∧ w'.cell? ⟨w.heap.size, 1, none⟩ = some (.slice A1 ra.a.length c1) ∧ w'.cell? ⟨w.heap.size, 2, none⟩ = some (.slice D1 ra.b.length d1) ∧ w'.cell? ⟨w.heap.size, 3, none⟩ = some (.bool ia.s) ∧ w'.cell? ⟨w.heap.size, 4, none⟩ = some (.slice A2 ia.a.length c2) ∧ w'.cell? ⟨w.heap.size, 5, none⟩ = some (.slice D2 ia.b.length d2) ∧ w'.cell? ⟨w.heap.size + 1, 0, none⟩ = some (.bool rb.s) ∧ w'.cell? ⟨w.heap.size + 1, 1, none⟩ = some (.slice A3 rb.a.length c3) ∧ w'.cell? ⟨w.heap.size + 1, 2, none⟩ = some (.slice D3 rb.b.length d3) ∧ w'.cell? ⟨w.heap.size + 1, 3, none⟩ = some (.bool ib.s) ∧ w'.cell? ⟨w.heap.size + 1, 4, none⟩ = some (.slice A4 ib.a.length c4) ∧ w'.cell? ⟨w.heap.size + 1, 5, none⟩ = some (.slice D4 ib.b.length d4) ∧ w'.cell? ⟨w3.heap.size, 0, none⟩ = some (.bool mr.s) ∧ w'.cell? ⟨w3.heap.size, 1, none⟩ = some (.slice A3a mr.a.length c3a) ∧ w'.cell? ⟨w3.heap.size, 2, none⟩ = some (.slice D3a mr.b.length d3a) ∧ w'.cell? ⟨w3.heap.size, 3, none⟩ = some (.bool mi.s) ∧ w'.cell? ⟨w3.heap.size, 4, none⟩ = some (.slice A3b mi.a.length c3b) ∧ w'.cell? ⟨w3.heap.size, 5, none⟩ = some (.slice D3b mi.b.length d3b) ∧ w'.cell? ⟨w4.heap.size, 0, none⟩ = some (.bool mr.s) ∧ w'.cell? ⟨w4.heap.size, 1, none⟩ = some (.slice A4a mr.a.length c4a) ∧ w'.cell? ⟨w4.heap.size, 2, none⟩ = some (.slice D4a mr.b.length d4a) ∧ w'.cell? ⟨w4.heap.size, 3, none⟩ = some (.bool mi.s) ∧ w'.cell? ⟨w4.heap.size, 4, none⟩ = some (.slice A4b mi.a.length c4b) ∧ w'.cell? ⟨w4.heap.size, 5, none⟩ = some (.slice D4b mi.b.length d4b) ∧ w'.cell? ⟨w5.heap.size, 0, none⟩ = some (.bool dr.s) ∧ w'.cell? ⟨w5.heap.size, 1, none⟩ = some (.slice A5a dr.a.length c5a) ∧ w'.cell? ⟨w5.heap.size, 2, none⟩ = some (.slice D5a dr.b.length d5a) ∧ w'.cell? ⟨w5.heap.size, 3, none⟩ = some (.bool di.s) ∧ w'.cell? ⟨w5.heap.size, 4, none⟩ = some (.slice A5b di.a.length c5b) ∧ w'.cell? ⟨w5.heap.size, 5, none⟩ = some (.slice D5b di.b.length d5b) ∧ w'.cell? ⟨w6.heap.size, 0, none⟩ = some (.bool dr.s) ∧ w'.cell? ⟨w6.heap.size, 1, none⟩ = some (.slice A6a dr.a.length c6a) ∧ w'.cell? ⟨w6.heap.size, 2, none⟩ = some (.slice D6a dr.b.length d6a) ∧ w'.cell? ⟨w6.heap.size, 3, none⟩ = some (.bool di.s) ∧ w'.cell? ⟨w6.heap.size, 4, none⟩ = some (.slice A6b di.a.length c6b) ∧ w'.cell? ⟨w6.heap.size, 5, none⟩ = some (.slice D6b di.b.length d6b) ∧ U6 w10 (w.heap.size) [.bool ra.s, .slice A1 ra.a.length c1, .slice D1 ra.b.length d1, .bool ia.s, .slice A2 ia.a.length c2, .slice D2 ia.b.length d2] (w.heap.size + 1) [.bool rb.s, .slice A3 rb.a.length c3, .slice D3 rb.b.length d3, .bool ib.s, .slice A4 ib.a.length c4, .slice D4 ib.b.length d4] (w3.heap.size) [.bool mr.s, .slice A3a mr.a.length c3a, .slice D3a mr.b.length d3a, .bool mi.s, .slice A3b mi.a.length c3b, .slice D3b mi.b.length d3b] (w4.heap.size) [.bool mr.s, .slice A4a mr.a.length c4a, .slice D4a mr.b.length d4a, .bool mi.s, .slice A4b mi.a.length c4b, .slice D4b mi.b.length d4b] (w5.heap.size) [.bool dr.s, .slice A5a dr.a.length c5a, .slice D5a dr.b.length d5a, .bool di.s, .slice A5b di.a.length c5b, .slice D5b di.b.length d5b] (w6.heap.size) [.bool dr.s, .slice A6a dr.a.length c6a, .slice D6a dr.b.length d6a, .bool di.s, .slice A6b di.a.length c6b, .slice D6b di.b.length d6b] w')
    (first
      | with_reducible exact k8s
      | (have s1 := (by with_reducible assumption : _ ∧ _ ∧ _ ∧ _ ∧ _ ∧ _ ∧ _ ∧ _ ∧ _ ∧ _ ∧ _ ∧ _ ∧ _ ∧ _ ∧ _ ∧ _ ∧ _ ∧ _ ∧ _ ∧ _ ∧ _ ∧ _ ∧ _ ∧ _ ∧ _ ∧ _ ∧ _ ∧ _ ∧ _ ∧ _ ∧ _ ∧ _ ∧ _ ∧ _ ∧ _ ∧ _ ∧ U6 w10 (w.heap.size) [.bool ra.s, .slice A1 ra.a.length c1, .slice D1 ra.b.length d1, .bool ia.s, .slice A2 ia.a.length c2, .slice D2 ia.b.length d2] (w.heap.size + 1) [.bool rb.s, .slice A3 rb.a.length c3, .slice D3 rb.b.length d3, .bool ib.s, .slice A4 ib.a.length c4, .slice D4 ib.b.length d4] (w3.heap.size) [.bool mr.s, .slice A3a mr.a.length c3a, .slice D3a mr.b.length d3a, .bool mi.s, .slice A3b mi.a.length c3b, .slice D3b mi.b.length d3b] (w4.heap.size) [.bool mr.s, .slice A4a mr.a.length c4a, .slice D4a mr.b.length d4a, .bool mi.s, .slice A4b mi.a.length c4b, .slice D4b mi.b.length d4b] (w5.heap.size) [.bool dr.s, .slice A5a dr.a.length c5a, .slice D5a dr.b.length d5a, .bool di.s, .slice A5b di.a.length c5b, .slice D5b di.b.length d5b] (w6.heap.size) [.bool dr.s, .slice A6a dr.a.length c6a, .slice D6a dr.b.length d6a, .bool di.s, .slice A6b di.a.length c6b, .slice D6b di.b.length d6b] _).2.2.2.2.2.2.2.2.2.2.2.2.2.2.2.2.2.2.2.2.2.2.2.2.2.2.2.2.2.2.2.2.2.2.2.2.nx BX; have q0_ := s1.1.cell 0; have q1_ := s1.1.cell 1; have q2_ := s1.1.cell 2; have q3_ := s1.1.cell 3; have q4_ := s1.1.cell 4; have q5_ := s1.1.cell 5; have q6_ := s1.2.1.cell 0; have q7_ := s1.2.1.cell 1; have q8_ := s1.2.1.cell 2; have q9_ := s1.2.1.cell 3; have q10_ := s1.2.1.cell 4; have q11_ := s1.2.1.cell 5; have q12_ := s1.2.2.1.cell 0; have q13_ := s1.2.2.1.cell 1; have q14_ := s1.2.2.1.cell 2; have q15_ := s1.2.2.1.cell 3; have q16_ := s1.2.2.1.cell 4; have q17_ := s1.2.2.1.cell 5; have q18_ := s1.2.2.2.1.cell 0; have q19_ := s1.2.2.2.1.cell 1; have q20_ := s1.2.2.2.1.cell 2; have q21_ := s1.2.2.2.1.cell 3; have q22_ := s1.2.2.2.1.cell 4; have q23_ := s1.2.2.2.1.cell 5; have q24_ := s1.2.2.2.2.1.cell 0; have q25_ := s1.2.2.2.2.1.cell 1; have q26_ := s1.2.2.2.2.1.cell 2; have q27_ := s1.2.2.2.2.1.cell 3; have q28_ := s1.2.2.2.2.1.cell 4; have q29_ := s1.2.2.2.2.1.cell 5; have q30_ := s1.2.2.2.2.2.1.cell 0; have q31_ := s1.2.2.2.2.2.1.cell 1; have q32_ := s1.2.2.2.2.2.1.cell 2; have q33_ := s1.2.2.2.2.2.1.cell 3; have q34_ := s1.2.2.2.2.2.1.cell 4; have q35_ := s1.2.2.2.2.2.1.cell 5; with_reducible exact ⟨q0_, q1_, q2_, q3_, q4_, q5_, q6_, q7_, q8_, q9_, q10_, q11_, q12_, q13_, q14_, q15_, q16_, q17_, q18_, q19_, q20_, q21_, q22_, q23_, q24_, q25_, q26_, q27_, q28_, q29_, q30_, q31_, q32_, q33_, q34_, q35_, s1⟩))
    (first
      | (go_at_call 16; have hh := (by with_reducible assumption : _ ∧ _ ∧ _ ∧ _ ∧ _ ∧ _ ∧ _ ∧ _ ∧ _ ∧ _ ∧ _ ∧ _ ∧ _ ∧ _ ∧ _ ∧ _ ∧ _ ∧ _ ∧ _ ∧ _ ∧ _ ∧ _ ∧ _ ∧ _ ∧ _ ∧ _ ∧ _ ∧ _ ∧ _ ∧ _ ∧ _ ∧ _ ∧ _ ∧ _ ∧ _ ∧ _ ∧ U6 w10 (w.heap.size) [.bool ra.s, .slice A1 ra.a.length c1, .slice D1 ra.b.length d1, .bool ia.s, .slice A2 ia.a.length c2, .slice D2 ia.b.length d2] (w.heap.size + 1) [.bool rb.s, .slice A3 rb.a.length c3, .slice D3 rb.b.length d3, .bool ib.s, .slice A4 ib.a.length c4, .slice D4 ib.b.length d4] (w3.heap.size) [.bool mr.s, .slice A3a mr.a.length c3a, .slice D3a mr.b.length d3a, .bool mi.s, .slice A3b mi.a.length c3b, .slice D3b mi.b.length d3b] (w4.heap.size) [.bool mr.s, .slice A4a mr.a.length c4a, .slice D4a mr.b.length d4a, .bool mi.s, .slice A4b mi.a.length c4b, .slice D4b mi.b.length d4b] (w5.heap.size) [.bool dr.s, .slice A5a dr.a.length c5a, .slice D5a dr.b.length d5a, .bool di.s, .slice A5b di.a.length c5b, .slice D5b di.b.length d5b] (w6.heap.size) [.bool dr.s, .slice A6a dr.a.length c6a, .slice D6a dr.b.length d6a, .bool di.s, .slice A6b di.a.length c6b, .slice D6b di.b.length d6b] _).2.2.2.2.2.2.2.2.2.2.2.2.2.2.2.2.2.2.2.2.2.2.2.2.2.2.2.2.2.2.2.2.2.2.2.2; refine (xawake_any _).mono ?_; rintro e w40 ⟨rfl, BX⟩)
      | (go_at_call_of 17 (Value.agg #[.bool mr.s, .slice A3a mr.a.length c3a, .slice D3a mr.b.length d3a, .bool mi.s, .slice A3b mi.a.length c3b, .slice D3b mi.b.length d3b]); have hh := (by with_reducible assumption : _ ∧ _ ∧ _ ∧ _ ∧ _ ∧ _ ∧ _ ∧ _ ∧ _ ∧ _ ∧ _ ∧ _ ∧ _ ∧ _ ∧ _ ∧ _ ∧ _ ∧ _ ∧ _ ∧ _ ∧ _ ∧ _ ∧ _ ∧ _ ∧ _ ∧ _ ∧ _ ∧ _ ∧ _ ∧ _ ∧ _ ∧ _ ∧ _ ∧ _ ∧ _ ∧ _ ∧ U6 w10 (w.heap.size) [.bool ra.s, .slice A1 ra.a.length c1, .slice D1 ra.b.length d1, .bool ia.s, .slice A2 ia.a.length c2, .slice D2 ia.b.length d2] (w.heap.size + 1) [.bool rb.s, .slice A3 rb.a.length c3, .slice D3 rb.b.length d3, .bool ib.s, .slice A4 ib.a.length c4, .slice D4 ib.b.length d4] (w3.heap.size) [.bool mr.s, .slice A3a mr.a.length c3a, .slice D3a mr.b.length d3a, .bool mi.s, .slice A3b mi.a.length c3b, .slice D3b mi.b.length d3b] (w4.heap.size) [.bool mr.s, .slice A4a mr.a.length c4a, .slice D4a mr.b.length d4a, .bool mi.s, .slice A4b mi.a.length c4b, .slice D4b mi.b.length d4b] (w5.heap.size) [.bool dr.s, .slice A5a dr.a.length c5a, .slice D5a dr.b.length d5a, .bool di.s, .slice A5b di.a.length c5b, .slice D5b di.b.length d5b] (w6.heap.size) [.bool dr.s, .slice A6a dr.a.length c6a, .slice D6a dr.b.length d6a, .bool di.s, .slice A6b di.a.length c6b, .slice D6b di.b.length d6b] _).2.2.2.2.2.2.2.2.2.2.2.2.2.2.2.2.2.2.2.2.2.2.2.2.2.2.2.2.2.2.2.2.2.2.2.2; refine (l0 _ _ _ (H_x.st hh.2.2.2.2.2.2) (H_y.st hh.2.2.2.2.2.2)).mono ?_; rintro e w41 ⟨rfl, BX⟩)
      | (go_at_call_of 17 (Value.agg #[.bool dr.s, .slice A5a dr.a.length c5a, .slice D5a dr.b.length d5a, .bool di.s, .slice A5b di.a.length c5b, .slice D5b di.b.length d5b]); have hh := (by with_reducible assumption : _ ∧ _ ∧ _ ∧ _ ∧ _ ∧ _ ∧ _ ∧ _ ∧ _ ∧ _ ∧ _ ∧ _ ∧ _ ∧ _ ∧ _ ∧ _ ∧ _ ∧ _ ∧ _ ∧ _ ∧ _ ∧ _ ∧ _ ∧ _ ∧ _ ∧ _ ∧ _ ∧ _ ∧ _ ∧ _ ∧ _ ∧ _ ∧ _ ∧ _ ∧ _ ∧ _ ∧ U6 w10 (w.heap.size) [.bool ra.s, .slice A1 ra.a.length c1, .slice D1 ra.b.length d1, .bool ia.s, .slice A2 ia.a.length c2, .slice D2 ia.b.length d2] (w.heap.size + 1) [.bool rb.s, .slice A3 rb.a.length c3, .slice D3 rb.b.length d3, .bool ib.s, .slice A4 ib.a.length c4, .slice D4 ib.b.length d4] (w3.heap.size) [.bool mr.s, .slice A3a mr.a.length c3a, .slice D3a mr.b.length d3a, .bool mi.s, .slice A3b mi.a.length c3b, .slice D3b mi.b.length d3b] (w4.heap.size) [.bool mr.s, .slice A4a mr.a.length c4a, .slice D4a mr.b.length d4a, .bool mi.s, .slice A4b mi.a.length c4b, .slice D4b mi.b.length d4b] (w5.heap.size) [.bool dr.s, .slice A5a dr.a.length c5a, .slice D5a dr.b.length d5a, .bool di.s, .slice A5b di.a.length c5b, .slice D5b di.b.length d5b] (w6.heap.size) [.bool dr.s, .slice A6a dr.a.length c6a, .slice D6a dr.b.length d6a, .bool di.s, .slice A6b di.a.length c6b, .slice D6b di.b.length d6b] _).2.2.2.2.2.2.2.2.2.2.2.2.2.2.2.2.2.2.2.2.2.2.2.2.2.2.2.2.2.2.2.2.2.2.2.2; refine (l1 _ _ _ (H_u.st hh.2.2.2.2.2.2) (H_v.st hh.2.2.2.2.2.2)).mono ?_; rintro e w42 ⟨rfl, BX⟩)
      | (go_at_call 25; have hh := (by with_reducible assumption : _ ∧ _ ∧ _ ∧ _ ∧ _ ∧ _ ∧ _ ∧ _ ∧ _ ∧ _ ∧ _ ∧ _ ∧ _ ∧ _ ∧ _ ∧ _ ∧ _ ∧ _ ∧ _ ∧ _ ∧ _ ∧ _ ∧ _ ∧ _ ∧ _ ∧ _ ∧ _ ∧ _ ∧ _ ∧ _ ∧ _ ∧ _ ∧ _ ∧ _ ∧ _ ∧ _ ∧ U6 w10 (w.heap.size) [.bool ra.s, .slice A1 ra.a.length c1, .slice D1 ra.b.length d1, .bool ia.s, .slice A2 ia.a.length c2, .slice D2 ia.b.length d2] (w.heap.size + 1) [.bool rb.s, .slice A3 rb.a.length c3, .slice D3 rb.b.length d3, .bool ib.s, .slice A4 ib.a.length c4, .slice D4 ib.b.length d4] (w3.heap.size) [.bool mr.s, .slice A3a mr.a.length c3a, .slice D3a mr.b.length d3a, .bool mi.s, .slice A3b mi.a.length c3b, .slice D3b mi.b.length d3b] (w4.heap.size) [.bool mr.s, .slice A4a mr.a.length c4a, .slice D4a mr.b.length d4a, .bool mi.s, .slice A4b mi.a.length c4b, .slice D4b mi.b.length d4b] (w5.heap.size) [.bool dr.s, .slice A5a dr.a.length c5a, .slice D5a dr.b.length d5a, .bool di.s, .slice A5b di.a.length c5b, .slice D5b di.b.length d5b] (w6.heap.size) [.bool dr.s, .slice A6a dr.a.length c6a, .slice D6a dr.b.length d6a, .bool di.s, .slice A6b di.a.length c6b, .slice D6b di.b.length d6b] _).2.2.2.2.2.2.2.2.2.2.2.2.2.2.2.2.2.2.2.2.2.2.2.2.2.2.2.2.2.2.2.2.2.2.2.2; refine (o8 _ _ _ (H_a.st hh.2.2.2.2.2.2) (H_b.st hh.2.2.2.2.2.2)).mono ?_; rintro e w43 ⟨rfl, BX⟩)
      | (go_at_call 35; have hh := (by with_reducible assumption : _ ∧ _ ∧ _ ∧ _ ∧ _ ∧ _ ∧ _ ∧ _ ∧ _ ∧ _ ∧ _ ∧ _ ∧ _ ∧ _ ∧ _ ∧ _ ∧ _ ∧ _ ∧ _ ∧ _ ∧ _ ∧ _ ∧ _ ∧ _ ∧ _ ∧ _ ∧ _ ∧ _ ∧ _ ∧ _ ∧ _ ∧ _ ∧ _ ∧ _ ∧ _ ∧ _ ∧ U6 w10 (w.heap.size) [.bool ra.s, .slice A1 ra.a.length c1, .slice D1 ra.b.length d1, .bool ia.s, .slice A2 ia.a.length c2, .slice D2 ia.b.length d2] (w.heap.size + 1) [.bool rb.s, .slice A3 rb.a.length c3, .slice D3 rb.b.length d3, .bool ib.s, .slice A4 ib.a.length c4, .slice D4 ib.b.length d4] (w3.heap.size) [.bool mr.s, .slice A3a mr.a.length c3a, .slice D3a mr.b.length d3a, .bool mi.s, .slice A3b mi.a.length c3b, .slice D3b mi.b.length d3b] (w4.heap.size) [.bool mr.s, .slice A4a mr.a.length c4a, .slice D4a mr.b.length d4a, .bool mi.s, .slice A4b mi.a.length c4b, .slice D4b mi.b.length d4b] (w5.heap.size) [.bool dr.s, .slice A5a dr.a.length c5a, .slice D5a dr.b.length d5a, .bool di.s, .slice A5b di.a.length c5b, .slice D5b di.b.length d5b] (w6.heap.size) [.bool dr.s, .slice A6a dr.a.length c6a, .slice D6a dr.b.length d6a, .bool di.s, .slice A6b di.a.length c6b, .slice D6b di.b.length d6b] _).2.2.2.2.2.2.2.2.2.2.2.2.2.2.2.2.2.2.2.2.2.2.2.2.2.2.2.2.2.2.2.2.2.2.2.2; refine (o9 _ _ _ (H_a.st hh.2.2.2.2.2.2) (H_b.st hh.2.2.2.2.2.2)).mono ?_; rintro e w44 ⟨rfl, BX⟩)
      | (go_at_call 22; have hh := (by with_reducible assumption : _ ∧ _ ∧ _ ∧ _ ∧ _ ∧ _ ∧ _ ∧ _ ∧ _ ∧ _ ∧ _ ∧ _ ∧ _ ∧ _ ∧ _ ∧ _ ∧ _ ∧ _ ∧ _ ∧ _ ∧ _ ∧ _ ∧ _ ∧ _ ∧ _ ∧ _ ∧ _ ∧ _ ∧ _ ∧ _ ∧ _ ∧ _ ∧ _ ∧ _ ∧ _ ∧ _ ∧ U6 w10 (w.heap.size) [.bool ra.s, .slice A1 ra.a.length c1, .slice D1 ra.b.length d1, .bool ia.s, .slice A2 ia.a.length c2, .slice D2 ia.b.length d2] (w.heap.size + 1) [.bool rb.s, .slice A3 rb.a.length c3, .slice D3 rb.b.length d3, .bool ib.s, .slice A4 ib.a.length c4, .slice D4 ib.b.length d4] (w3.heap.size) [.bool mr.s, .slice A3a mr.a.length c3a, .slice D3a mr.b.length d3a, .bool mi.s, .slice A3b mi.a.length c3b, .slice D3b mi.b.length d3b] (w4.heap.size) [.bool mr.s, .slice A4a mr.a.length c4a, .slice D4a mr.b.length d4a, .bool mi.s, .slice A4b mi.a.length c4b, .slice D4b mi.b.length d4b] (w5.heap.size) [.bool dr.s, .slice A5a dr.a.length c5a, .slice D5a dr.b.length d5a, .bool di.s, .slice A5b di.a.length c5b, .slice D5b di.b.length d5b] (w6.heap.size) [.bool dr.s, .slice A6a dr.a.length c6a, .slice D6a dr.b.length d6a, .bool di.s, .slice A6b di.a.length c6b, .slice D6b di.b.length d6b] _).2.2.2.2.2.2.2.2.2.2.2.2.2.2.2.2.2.2.2.2.2.2.2.2.2.2.2.2.2.2.2.2.2.2.2.2; refine (q0 _ _ (H_a.st hh.2.2.2.2.2.2)).mono ?_; rintro e w45 ⟨rfl, BX⟩)
      | (go_at_call 36; have hh := (by with_reducible assumption : _ ∧ _ ∧ _ ∧ _ ∧ _ ∧ _ ∧ _ ∧ _ ∧ _ ∧ _ ∧ _ ∧ _ ∧ _ ∧ _ ∧ _ ∧ _ ∧ _ ∧ _ ∧ _ ∧ _ ∧ _ ∧ _ ∧ _ ∧ _ ∧ _ ∧ _ ∧ _ ∧ _ ∧ _ ∧ _ ∧ _ ∧ _ ∧ _ ∧ _ ∧ _ ∧ _ ∧ U6 w10 (w.heap.size) [.bool ra.s, .slice A1 ra.a.length c1, .slice D1 ra.b.length d1, .bool ia.s, .slice A2 ia.a.length c2, .slice D2 ia.b.length d2] (w.heap.size + 1) [.bool rb.s, .slice A3 rb.a.length c3, .slice D3 rb.b.length d3, .bool ib.s, .slice A4 ib.a.length c4, .slice D4 ib.b.length d4] (w3.heap.size) [.bool mr.s, .slice A3a mr.a.length c3a, .slice D3a mr.b.length d3a, .bool mi.s, .slice A3b mi.a.length c3b, .slice D3b mi.b.length d3b] (w4.heap.size) [.bool mr.s, .slice A4a mr.a.length c4a, .slice D4a mr.b.length d4a, .bool mi.s, .slice A4b mi.a.length c4b, .slice D4b mi.b.length d4b] (w5.heap.size) [.bool dr.s, .slice A5a dr.a.length c5a, .slice D5a dr.b.length d5a, .bool di.s, .slice A5b di.a.length c5b, .slice D5b di.b.length d5b] (w6.heap.size) [.bool dr.s, .slice A6a dr.a.length c6a, .slice D6a dr.b.length d6a, .bool di.s, .slice A6b di.a.length c6b, .slice D6b di.b.length d6b] _).2.2.2.2.2.2.2.2.2.2.2.2.2.2.2.2.2.2.2.2.2.2.2.2.2.2.2.2.2.2.2.2.2.2.2.2; refine (q1 _ _ (H_a.st hh.2.2.2.2.2.2)).mono ?_; rintro e w46 ⟨rfl, BX⟩)
      | (go_at_call 37; have hh := (by with_reducible assumption : _ ∧ _ ∧ _ ∧ _ ∧ _ ∧ _ ∧ _ ∧ _ ∧ _ ∧ _ ∧ _ ∧ _ ∧ _ ∧ _ ∧ _ ∧ _ ∧ _ ∧ _ ∧ _ ∧ _ ∧ _ ∧ _ ∧ _ ∧ _ ∧ _ ∧ _ ∧ _ ∧ _ ∧ _ ∧ _ ∧ _ ∧ _ ∧ _ ∧ _ ∧ _ ∧ _ ∧ U6 w10 (w.heap.size) [.bool ra.s, .slice A1 ra.a.length c1, .slice D1 ra.b.length d1, .bool ia.s, .slice A2 ia.a.length c2, .slice D2 ia.b.length d2] (w.heap.size + 1) [.bool rb.s, .slice A3 rb.a.length c3, .slice D3 rb.b.length d3, .bool ib.s, .slice A4 ib.a.length c4, .slice D4 ib.b.length d4] (w3.heap.size) [.bool mr.s, .slice A3a mr.a.length c3a, .slice D3a mr.b.length d3a, .bool mi.s, .slice A3b mi.a.length c3b, .slice D3b mi.b.length d3b] (w4.heap.size) [.bool mr.s, .slice A4a mr.a.length c4a, .slice D4a mr.b.length d4a, .bool mi.s, .slice A4b mi.a.length c4b, .slice D4b mi.b.length d4b] (w5.heap.size) [.bool dr.s, .slice A5a dr.a.length c5a, .slice D5a dr.b.length d5a, .bool di.s, .slice A5b di.a.length c5b, .slice D5b di.b.length d5b] (w6.heap.size) [.bool dr.s, .slice A6a dr.a.length c6a, .slice D6a dr.b.length d6a, .bool di.s, .slice A6b di.a.length c6b, .slice D6b di.b.length d6b] _).2.2.2.2.2.2.2.2.2.2.2.2.2.2.2.2.2.2.2.2.2.2.2.2.2.2.2.2.2.2.2.2.2.2.2.2; refine (q2 _ _ (H_a.st hh.2.2.2.2.2.2)).mono ?_; rintro e w47 ⟨rfl, BX⟩)
      | (go_at_call 38; have hh := (by with_reducible assumption : _ ∧ _ ∧ _ ∧ _ ∧ _ ∧ _ ∧ _ ∧ _ ∧ _ ∧ _ ∧ _ ∧ _ ∧ _ ∧ _ ∧ _ ∧ _ ∧ _ ∧ _ ∧ _ ∧ _ ∧ _ ∧ _ ∧ _ ∧ _ ∧ _ ∧ _ ∧ _ ∧ _ ∧ _ ∧ _ ∧ _ ∧ _ ∧ _ ∧ _ ∧ _ ∧ _ ∧ U6 w10 (w.heap.size) [.bool ra.s, .slice A1 ra.a.length c1, .slice D1 ra.b.length d1, .bool ia.s, .slice A2 ia.a.length c2, .slice D2 ia.b.length d2] (w.heap.size + 1) [.bool rb.s, .slice A3 rb.a.length c3, .slice D3 rb.b.length d3, .bool ib.s, .slice A4 ib.a.length c4, .slice D4 ib.b.length d4] (w3.heap.size) [.bool mr.s, .slice A3a mr.a.length c3a, .slice D3a mr.b.length d3a, .bool mi.s, .slice A3b mi.a.length c3b, .slice D3b mi.b.length d3b] (w4.heap.size) [.bool mr.s, .slice A4a mr.a.length c4a, .slice D4a mr.b.length d4a, .bool mi.s, .slice A4b mi.a.length c4b, .slice D4b mi.b.length d4b] (w5.heap.size) [.bool dr.s, .slice A5a dr.a.length c5a, .slice D5a dr.b.length d5a, .bool di.s, .slice A5b di.a.length c5b, .slice D5b di.b.length d5b] (w6.heap.size) [.bool dr.s, .slice A6a dr.a.length c6a, .slice D6a dr.b.length d6a, .bool di.s, .slice A6b di.a.length c6b, .slice D6b di.b.length d6b] _).2.2.2.2.2.2.2.2.2.2.2.2.2.2.2.2.2.2.2.2.2.2.2.2.2.2.2.2.2.2.2.2.2.2.2.2; refine (q3 _ _ (H_a.st hh.2.2.2.2.2.2)).mono ?_; rintro e w48 ⟨rfl, BX⟩)
      | (go_at_call 26; have hh := (by with_reducible assumption : _ ∧ _ ∧ _ ∧ _ ∧ _ ∧ _ ∧ _ ∧ _ ∧ _ ∧ _ ∧ _ ∧ _ ∧ _ ∧ _ ∧ _ ∧ _ ∧ _ ∧ _ ∧ _ ∧ _ ∧ _ ∧ _ ∧ _ ∧ _ ∧ _ ∧ _ ∧ _ ∧ _ ∧ _ ∧ _ ∧ _ ∧ _ ∧ _ ∧ _ ∧ _ ∧ _ ∧ U6 w10 (w.heap.size) [.bool ra.s, .slice A1 ra.a.length c1, .slice D1 ra.b.length d1, .bool ia.s, .slice A2 ia.a.length c2, .slice D2 ia.b.length d2] (w.heap.size + 1) [.bool rb.s, .slice A3 rb.a.length c3, .slice D3 rb.b.length d3, .bool ib.s, .slice A4 ib.a.length c4, .slice D4 ib.b.length d4] (w3.heap.size) [.bool mr.s, .slice A3a mr.a.length c3a, .slice D3a mr.b.length d3a, .bool mi.s, .slice A3b mi.a.length c3b, .slice D3b mi.b.length d3b] (w4.heap.size) [.bool mr.s, .slice A4a mr.a.length c4a, .slice D4a mr.b.length d4a, .bool mi.s, .slice A4b mi.a.length c4b, .slice D4b mi.b.length d4b] (w5.heap.size) [.bool dr.s, .slice A5a dr.a.length c5a, .slice D5a dr.b.length d5a, .bool di.s, .slice A5b di.a.length c5b, .slice D5b di.b.length d5b] (w6.heap.size) [.bool dr.s, .slice A6a dr.a.length c6a, .slice D6a dr.b.length d6a, .bool di.s, .slice A6b di.a.length c6b, .slice D6b di.b.length d6b] _).2.2.2.2.2.2.2.2.2.2.2.2.2.2.2.2.2.2.2.2.2.2.2.2.2.2.2.2.2.2.2.2.2.2.2.2; refine (n0 _).mono ?_; rintro e w49 ⟨A49a, c49a, D49a, d49a, A49b, c49b, D49b, d49b, rfl, O49a, O49b, O49c, O49d, BX⟩; have H_p : VN w49 w49.heap.size (.agg #[.bool nr.s, .slice A49a nr.a.length c49a, .slice D49a nr.b.length d49a, .bool ni.s, .slice A49b ni.a.length c49b, .slice D49b ni.b.length d49b]) nr ni := ⟨A49a, c49a, D49a, d49a, A49b, c49b, D49b, d49b, rfl, O49a.rw, O49b.rw, O49c.rw, O49d.rw⟩; clear O49a O49b O49c O49d)
      | (go_at_call 39; have hh := (by with_reducible assumption : _ ∧ _ ∧ _ ∧ _ ∧ _ ∧ _ ∧ _ ∧ _ ∧ _ ∧ _ ∧ _ ∧ _ ∧ _ ∧ _ ∧ _ ∧ _ ∧ _ ∧ _ ∧ _ ∧ _ ∧ _ ∧ _ ∧ _ ∧ _ ∧ _ ∧ _ ∧ _ ∧ _ ∧ _ ∧ _ ∧ _ ∧ _ ∧ _ ∧ _ ∧ _ ∧ _ ∧ U6 w10 (w.heap.size) [.bool ra.s, .slice A1 ra.a.length c1, .slice D1 ra.b.length d1, .bool ia.s, .slice A2 ia.a.length c2, .slice D2 ia.b.length d2] (w.heap.size + 1) [.bool rb.s, .slice A3 rb.a.length c3, .slice D3 rb.b.length d3, .bool ib.s, .slice A4 ib.a.length c4, .slice D4 ib.b.length d4] (w3.heap.size) [.bool mr.s, .slice A3a mr.a.length c3a, .slice D3a mr.b.length d3a, .bool mi.s, .slice A3b mi.a.length c3b, .slice D3b mi.b.length d3b] (w4.heap.size) [.bool mr.s, .slice A4a mr.a.length c4a, .slice D4a mr.b.length d4a, .bool mi.s, .slice A4b mi.a.length c4b, .slice D4b mi.b.length d4b] (w5.heap.size) [.bool dr.s, .slice A5a dr.a.length c5a, .slice D5a dr.b.length d5a, .bool di.s, .slice A5b di.a.length c5b, .slice D5b di.b.length d5b] (w6.heap.size) [.bool dr.s, .slice A6a dr.a.length c6a, .slice D6a dr.b.length d6a, .bool di.s, .slice A6b di.a.length c6b, .slice D6b di.b.length d6b] _).2.2.2.2.2.2.2.2.2.2.2.2.2.2.2.2.2.2.2.2.2.2.2.2.2.2.2.2.2.2.2.2.2.2.2.2; refine (n1 _).mono ?_; rintro e w50 ⟨A50a, c50a, D50a, d50a, A50b, c50b, D50b, d50b, rfl, O50a, O50b, O50c, O50d, BX⟩; have H_p := H_p.st BX; have H_q : VN w50 w50.heap.size (.agg #[.bool nr.s, .slice A50a nr.a.length c50a, .slice D50a nr.b.length d50a, .bool ni.s, .slice A50b ni.a.length c50b, .slice D50b ni.b.length d50b]) nr ni := ⟨A50a, c50a, D50a, d50a, A50b, c50b, D50b, d50b, rfl, O50a.rw, O50b.rw, O50c.rw, O50d.rw⟩; clear O50a O50b O50c O50d)
      | (go_at_call_of 17 (Value.agg #[.bool nr.s, .slice A49a nr.a.length c49a, .slice D49a nr.b.length d49a, .bool ni.s, .slice A49b ni.a.length c49b, .slice D49b ni.b.length d49b]); have hh := (by with_reducible assumption : _ ∧ _ ∧ _ ∧ _ ∧ _ ∧ _ ∧ _ ∧ _ ∧ _ ∧ _ ∧ _ ∧ _ ∧ _ ∧ _ ∧ _ ∧ _ ∧ _ ∧ _ ∧ _ ∧ _ ∧ _ ∧ _ ∧ _ ∧ _ ∧ _ ∧ _ ∧ _ ∧ _ ∧ _ ∧ _ ∧ _ ∧ _ ∧ _ ∧ _ ∧ _ ∧ _ ∧ U6 w10 (w.heap.size) [.bool ra.s, .slice A1 ra.a.length c1, .slice D1 ra.b.length d1, .bool ia.s, .slice A2 ia.a.length c2, .slice D2 ia.b.length d2] (w.heap.size + 1) [.bool rb.s, .slice A3 rb.a.length c3, .slice D3 rb.b.length d3, .bool ib.s, .slice A4 ib.a.length c4, .slice D4 ib.b.length d4] (w3.heap.size) [.bool mr.s, .slice A3a mr.a.length c3a, .slice D3a mr.b.length d3a, .bool mi.s, .slice A3b mi.a.length c3b, .slice D3b mi.b.length d3b] (w4.heap.size) [.bool mr.s, .slice A4a mr.a.length c4a, .slice D4a mr.b.length d4a, .bool mi.s, .slice A4b mi.a.length c4b, .slice D4b mi.b.length d4b] (w5.heap.size) [.bool dr.s, .slice A5a dr.a.length c5a, .slice D5a dr.b.length d5a, .bool di.s, .slice A5b di.a.length c5b, .slice D5b di.b.length d5b] (w6.heap.size) [.bool dr.s, .slice A6a dr.a.length c6a, .slice D6a dr.b.length d6a, .bool di.s, .slice A6b di.a.length c6b, .slice D6b di.b.length d6b] _).2.2.2.2.2.2.2.2.2.2.2.2.2.2.2.2.2.2.2.2.2.2.2.2.2.2.2.2.2.2.2.2.2.2.2.2; refine (l2 _ _ _ H_p H_q).mono ?_; rintro e w51 ⟨rfl, BX⟩; have kk := hh.nx BX))
  go_wp2_with fail
  go_ret
  exact ⟨by simp, bt C0 kk.2.2.2.2.2.2⟩
end Go.Proofs.Ytdkejndagicgjaa
