/- The walk of ExactProducts. -/
import Derived.Test.YtdkejndagicgjaaGI
import Derived.Test.YtdkejndagicgjaaGO
namespace Go.Proofs.Ytdkejndagicgjaa
open Go.RowKit

theorem alikeB_self (r i : Rw) : alikeB r i r i = true := by
  unfold alikeB
  rw [Bool.and_eq_true, fsB_iff, fsB_iff]
  exact ⟨⟨rfl, rfl, rfl⟩, rfl, rfl, rfl⟩


set_option maxRecDepth 100000 in
set_option maxHeartbeats 16000000 in
theorem exactProducts_walk (V : Value) (ra ia : Rw) (U : Value) (rb ib : Rw) (w : World) (hV : VN w w.heap.size V ra ia) (hU : VN w w.heap.size U rb ib) :
    Calls Try.prog 3 #[V, U] w fun e w' => e = .returned (.bool true) ∧ Below w.heap.size w w' := by
  obtain ⟨A1, c1, D1, d1, A2, c2, D2, d2, rfl, p1, p2, p3, p4⟩ := hV
  obtain ⟨A3, c3, D3, d3, A4, c4, D4, d4, rfl, p5, p6, p7, p8⟩ := hU
  obtain ⟨S_a, S_b, C0⟩ := T2.new w [.bool ra.s, .slice A1 ra.a.length c1, .slice D1 ra.b.length d1, .bool ia.s, .slice A2 ia.a.length c2, .slice D2 ia.b.length d2] [.bool rb.s, .slice A3 rb.a.length c3, .slice D3 rb.b.length d3, .bool ib.s, .slice A4 ib.a.length c4, .slice D4 ib.b.length d4] 26 26
  have H_a : VN w w.heap.size (.agg #[.bool ra.s, .slice A1 ra.a.length c1, .slice D1 ra.b.length d1, .bool ia.s, .slice A2 ia.a.length c2, .slice D2 ia.b.length d2]) ra ia := ⟨A1, c1, D1, d1, A2, c2, D2, d2, rfl, p1, p2, p3, p4⟩
  have H_a := H_a.st C0
  have H_b : VN w w.heap.size (.agg #[.bool rb.s, .slice A3 rb.a.length c3, .slice D3 rb.b.length d3, .bool ib.s, .slice A4 ib.a.length c4, .slice D4 ib.b.length d4]) rb ib := ⟨A3, c3, D3, d3, A4, c4, D4, d4, rfl, p5, p6, p7, p8⟩
  have H_b := H_b.st C0
  clear p1 p2 p3 p4 p5 p6 p7 p8
  have o0 := fun V U w' h1 h2 => emul_any (V := V) (U := U) (r := ra) (i := ia) (r' := rb) (i' := ib) (w := w') h1 h2
  have o1 := fun V U w' h1 h2 => rmuln_any (V := V) (U := U) (r := ra) (i := ia) (r' := rb) (i' := ib) (w := w') h1 h2
  have o2 := fun V U w' h1 h2 => ediv_any (V := V) (U := U) (r := ra) (i := ia) (r' := rb) (i' := ib) (w := w') h1 h2
  have o3 := fun V U w' h1 h2 => rdivn_any (V := V) (U := U) (r := ra) (i := ia) (r' := rb) (i' := ib) (w := w') h1 h2
  rcases em : qmulA ra ia rb ib with ⟨mr, mi, mk⟩
  rw [em] at o0 o1
  rcases ed : qdivA ra ia rb ib with ⟨dr, di, dk⟩
  rw [ed] at o2 o3
  clear em ed
  have l1 := fun V U w' h1 h2 => alike_any V U mr mi mr mi w' h1 h2
  rw [alikeB_self] at l1
  have l2 := fun V U w' h1 h2 => alike_any V U dr di dr di w' h1 h2
  rw [alikeB_self] at l2
  obtain ⟨W0, hW0⟩ : ∃ W0, W0 = (w.alloc (.cells #[.bool ra.s, .slice A1 ra.a.length c1, .slice D1 ra.b.length d1, .bool ia.s, .slice A2 ia.a.length c2, .slice D2 ia.b.length d2] 26)).alloc (.cells #[.bool rb.s, .slice A3 rb.a.length c3, .slice D3 rb.b.length d3, .bool ib.s, .slice A4 ib.a.length c4, .slice D4 ib.b.length d4] 26) := ⟨_, rfl⟩
  go_enter Try.func3, Try.ntmps3
  rw [← hW0] at S_a S_b C0 H_a H_b
  rw [hW0] at S_a S_b C0 H_a H_b
  have i0 := S_a.cell 0
  have i1 := S_a.cell 1
  have i2 := S_a.cell 2
  have i3 := S_a.cell 3
  have i4 := S_a.cell 4
  have i5 := S_a.cell 5
  have j0 := S_b.cell 0
  have j1 := S_b.cell 1
  have j2 := S_b.cell 2
  have j3 := S_b.cell 3
  have j4 := S_b.cell 4
  have j5 := S_b.cell 5
  go_wp2_with fail
  clear i0 i1 i2 i3 i4 i5 j0 j1 j2 j3 j4 j5
  rw [← hW0] at S_a S_b C0 H_a H_b ⊢
  clear hW0
  refine (o0 _ _ _ H_a H_b).mono ?_; rintro e w3 ⟨A3a, c3a, D3a, d3a, A3b, c3b, D3b, d3b, rfl, O3a, O3b, O3c, O3d, B3⟩
  try dsimp only at O3a O3b O3c O3d
  have H_x : VN w3 w3.heap.size (.agg #[.bool mr.s, .slice A3a mr.a.length c3a, .slice D3a mr.b.length d3a, .bool mi.s, .slice A3b mi.a.length c3b, .slice D3b mi.b.length d3b]) mr mi := ⟨A3a, c3a, D3a, d3a, A3b, c3b, D3b, d3b, rfl, O3a.rw, O3b.rw, O3c.rw, O3d.rw⟩
  clear O3a O3b O3c O3d
  have S_a := S_a.nx B3
  have H_a := H_a.st B3
  have S_b := S_b.nx B3
  have H_b := H_b.st B3
  have C0 := bt C0 B3
  have L3 := bal w3 (.cells #[.bool mr.s, .slice A3a mr.a.length c3a, .slice D3a mr.b.length d3a, .bool mi.s, .slice A3b mi.a.length c3b, .slice D3b mi.b.length d3b] 26)
  have S_x := SB.new w3 [.bool mr.s, .slice A3a mr.a.length c3a, .slice D3a mr.b.length d3a, .bool mi.s, .slice A3b mi.a.length c3b, .slice D3b mi.b.length d3b] 26
  have S_a := S_a.nx L3
  have H_a := H_a.st L3
  have S_b := S_b.nx L3
  have H_b := H_b.st L3
  have H_x := H_x.st L3
  have C0 := bt C0 L3
  have i0 := S_a.cell 0
  have i1 := S_a.cell 1
  have i2 := S_a.cell 2
  have i3 := S_a.cell 3
  have i4 := S_a.cell 4
  have i5 := S_a.cell 5
  have j0 := S_b.cell 0
  have j1 := S_b.cell 1
  have j2 := S_b.cell 2
  have j3 := S_b.cell 3
  have j4 := S_b.cell 4
  have j5 := S_b.cell 5
  go_wp2_with fail
  refine (o1 _ _ _ H_a H_b).mono ?_; rintro e w4 ⟨A4a, c4a, D4a, d4a, A4b, c4b, D4b, d4b, rfl, O4a, O4b, O4c, O4d, B4⟩
  clear i0 i1 i2 i3 i4 i5
  clear j0 j1 j2 j3 j4 j5
  try dsimp only at O4a O4b O4c O4d
  have H_y : VN w4 w4.heap.size (.agg #[.bool mr.s, .slice A4a mr.a.length c4a, .slice D4a mr.b.length d4a, .bool mi.s, .slice A4b mi.a.length c4b, .slice D4b mi.b.length d4b]) mr mi := ⟨A4a, c4a, D4a, d4a, A4b, c4b, D4b, d4b, rfl, O4a.rw, O4b.rw, O4c.rw, O4d.rw⟩
  clear O4a O4b O4c O4d
  have S_a := S_a.nx B4
  have H_a := H_a.st B4
  have S_b := S_b.nx B4
  have H_b := H_b.st B4
  have S_x := S_x.nx B4
  have H_x := H_x.st B4
  have C0 := bt C0 B4
  have L4 := bal w4 (.cells #[.bool mr.s, .slice A4a mr.a.length c4a, .slice D4a mr.b.length d4a, .bool mi.s, .slice A4b mi.a.length c4b, .slice D4b mi.b.length d4b] 26)
  have S_y := SB.new w4 [.bool mr.s, .slice A4a mr.a.length c4a, .slice D4a mr.b.length d4a, .bool mi.s, .slice A4b mi.a.length c4b, .slice D4b mi.b.length d4b] 26
  have S_a := S_a.nx L4
  have H_a := H_a.st L4
  have S_b := S_b.nx L4
  have H_b := H_b.st L4
  have S_x := S_x.nx L4
  have H_x := H_x.st L4
  have H_y := H_y.st L4
  have C0 := bt C0 L4
  have i0 := S_a.cell 0
  have i1 := S_a.cell 1
  have i2 := S_a.cell 2
  have i3 := S_a.cell 3
  have i4 := S_a.cell 4
  have i5 := S_a.cell 5
  have j0 := S_b.cell 0
  have j1 := S_b.cell 1
  have j2 := S_b.cell 2
  have j3 := S_b.cell 3
  have j4 := S_b.cell 4
  have j5 := S_b.cell 5
  go_wp2_with fail
  refine (o2 _ _ _ H_a H_b).mono ?_; rintro e w5 ⟨A5a, c5a, D5a, d5a, A5b, c5b, D5b, d5b, rfl, O5a, O5b, O5c, O5d, B5⟩
  clear i0 i1 i2 i3 i4 i5
  clear j0 j1 j2 j3 j4 j5
  try dsimp only at O5a O5b O5c O5d
  have H_u : VN w5 w5.heap.size (.agg #[.bool dr.s, .slice A5a dr.a.length c5a, .slice D5a dr.b.length d5a, .bool di.s, .slice A5b di.a.length c5b, .slice D5b di.b.length d5b]) dr di := ⟨A5a, c5a, D5a, d5a, A5b, c5b, D5b, d5b, rfl, O5a.rw, O5b.rw, O5c.rw, O5d.rw⟩
  clear O5a O5b O5c O5d
  have S_a := S_a.nx B5
  have H_a := H_a.st B5
  have S_b := S_b.nx B5
  have H_b := H_b.st B5
  have S_x := S_x.nx B5
  have H_x := H_x.st B5
  have S_y := S_y.nx B5
  have H_y := H_y.st B5
  have C0 := bt C0 B5
  have L5 := bal w5 (.cells #[.bool dr.s, .slice A5a dr.a.length c5a, .slice D5a dr.b.length d5a, .bool di.s, .slice A5b di.a.length c5b, .slice D5b di.b.length d5b] 26)
  have S_u := SB.new w5 [.bool dr.s, .slice A5a dr.a.length c5a, .slice D5a dr.b.length d5a, .bool di.s, .slice A5b di.a.length c5b, .slice D5b di.b.length d5b] 26
  have S_a := S_a.nx L5
  have H_a := H_a.st L5
  have S_b := S_b.nx L5
  have H_b := H_b.st L5
  have S_x := S_x.nx L5
  have H_x := H_x.st L5
  have S_y := S_y.nx L5
  have H_y := H_y.st L5
  have H_u := H_u.st L5
  have C0 := bt C0 L5
  have i0 := S_a.cell 0
  have i1 := S_a.cell 1
  have i2 := S_a.cell 2
  have i3 := S_a.cell 3
  have i4 := S_a.cell 4
  have i5 := S_a.cell 5
  have j0 := S_b.cell 0
  have j1 := S_b.cell 1
  have j2 := S_b.cell 2
  have j3 := S_b.cell 3
  have j4 := S_b.cell 4
  have j5 := S_b.cell 5
  go_wp2_with fail
  refine (o3 _ _ _ H_a H_b).mono ?_; rintro e w6 ⟨A6a, c6a, D6a, d6a, A6b, c6b, D6b, d6b, rfl, O6a, O6b, O6c, O6d, B6⟩
  clear i0 i1 i2 i3 i4 i5
  clear j0 j1 j2 j3 j4 j5
  try dsimp only at O6a O6b O6c O6d
  have H_v : VN w6 w6.heap.size (.agg #[.bool dr.s, .slice A6a dr.a.length c6a, .slice D6a dr.b.length d6a, .bool di.s, .slice A6b di.a.length c6b, .slice D6b di.b.length d6b]) dr di := ⟨A6a, c6a, D6a, d6a, A6b, c6b, D6b, d6b, rfl, O6a.rw, O6b.rw, O6c.rw, O6d.rw⟩
  clear O6a O6b O6c O6d
  have S_a := S_a.nx B6
  have H_a := H_a.st B6
  have S_b := S_b.nx B6
  have H_b := H_b.st B6
  have S_x := S_x.nx B6
  have H_x := H_x.st B6
  have S_y := S_y.nx B6
  have H_y := H_y.st B6
  have S_u := S_u.nx B6
  have H_u := H_u.st B6
  have C0 := bt C0 B6
  have L6 := bal w6 (.cells #[.bool dr.s, .slice A6a dr.a.length c6a, .slice D6a dr.b.length d6a, .bool di.s, .slice A6b di.a.length c6b, .slice D6b di.b.length d6b] 26)
  have S_v := SB.new w6 [.bool dr.s, .slice A6a dr.a.length c6a, .slice D6a dr.b.length d6a, .bool di.s, .slice A6b di.a.length c6b, .slice D6b di.b.length d6b] 26
  have S_a := S_a.nx L6
  have H_a := H_a.st L6
  have S_b := S_b.nx L6
  have H_b := H_b.st L6
  have S_x := S_x.nx L6
  have H_x := H_x.st L6
  have S_y := S_y.nx L6
  have H_y := H_y.st L6
  have S_u := S_u.nx L6
  have H_u := H_u.st L6
  have H_v := H_v.st L6
  have C0 := bt C0 L6
  go_wp2_with fail
  refine (xawake_any _).mono ?_; rintro e w20 ⟨rfl, B20⟩
  have S_a := S_a.nx B20
  have H_a := H_a.st B20
  have S_b := S_b.nx B20
  have H_b := H_b.st B20
  have S_x := S_x.nx B20
  have H_x := H_x.st B20
  have S_y := S_y.nx B20
  have H_y := H_y.st B20
  have S_u := S_u.nx B20
  have H_u := H_u.st B20
  have S_v := S_v.nx B20
  have H_v := H_v.st B20
  have C0 := bt C0 B20
  have i0 := S_x.cell 0
  have i1 := S_x.cell 1
  have i2 := S_x.cell 2
  have i3 := S_x.cell 3
  have i4 := S_x.cell 4
  have i5 := S_x.cell 5
  have j0 := S_y.cell 0
  have j1 := S_y.cell 1
  have j2 := S_y.cell 2
  have j3 := S_y.cell 3
  have j4 := S_y.cell 4
  have j5 := S_y.cell 5
  go_wp2_with fail
  refine (l1 _ _ _ H_x H_y).mono ?_; rintro e w7 ⟨rfl, B7⟩
  have S_a := S_a.nx B7
  have H_a := H_a.st B7
  have S_b := S_b.nx B7
  have H_b := H_b.st B7
  have S_x := S_x.nx B7
  have H_x := H_x.st B7
  have S_y := S_y.nx B7
  have H_y := H_y.st B7
  have S_u := S_u.nx B7
  have H_u := H_u.st B7
  have S_v := S_v.nx B7
  have H_v := H_v.st B7
  have C0 := bt C0 B7
  clear i0 i1 i2 i3 i4 i5
  clear j0 j1 j2 j3 j4 j5
  have i0 := S_u.cell 0
  have i1 := S_u.cell 1
  have i2 := S_u.cell 2
  have i3 := S_u.cell 3
  have i4 := S_u.cell 4
  have i5 := S_u.cell 5
  have j0 := S_v.cell 0
  have j1 := S_v.cell 1
  have j2 := S_v.cell 2
  have j3 := S_v.cell 3
  have j4 := S_v.cell 4
  have j5 := S_v.cell 5
  go_wp2_with fail
  refine (l2 _ _ _ H_u H_v).mono ?_; rintro e w8 ⟨rfl, B8⟩
  have S_a := S_a.nx B8
  have H_a := H_a.st B8
  have S_b := S_b.nx B8
  have H_b := H_b.st B8
  have S_x := S_x.nx B8
  have H_x := H_x.st B8
  have S_y := S_y.nx B8
  have H_y := H_y.st B8
  have S_u := S_u.nx B8
  have H_u := H_u.st B8
  have S_v := S_v.nx B8
  have H_v := H_v.st B8
  have C0 := bt C0 B8
  clear i0 i1 i2 i3 i4 i5
  clear j0 j1 j2 j3 j4 j5
  go_wp2_with fail
  go_ret
  exact ⟨rfl, C0⟩
end Go.Proofs.Ytdkejndagicgjaa
