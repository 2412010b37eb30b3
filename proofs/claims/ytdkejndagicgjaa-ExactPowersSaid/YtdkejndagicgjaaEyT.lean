/- The walk of ExactPowers. -/
import Derived.Test.YtdkejndagicgjaaEyP
import Derived.Test.YtdkejndagicgjaaExL
namespace Go.Proofs.Ytdkejndagicgjaa
open Go.RowKit


set_option maxRecDepth 100000 in
set_option maxHeartbeats 16000000 in
theorem powersW_a (V : Value) (ra ia : Rw) (n : Int) (w : World) (hV : VN w w.heap.size V ra ia) (hy : ia.a.length = 0) :
    Calls Try.prog 6 #[V, .int .i64 n] w fun e w' => e = .returned (.bool true) ∧ Below w.heap.size w w' := by
  have hg1 : ¬ (0 : Int) < (ia.a.length : Int) := by omega
  clear hy
  obtain ⟨A1, c1, D1, d1, A2, c2, D2, d2, rfl, p1, p2, p3, p4⟩ := hV
  have z1 := p1.big
  have z2 := p2.big
  have z3 := p3.big
  have z4 := p4.big
  have S_a := SB.new w [.bool ra.s, .slice A1 ra.a.length c1, .slice D1 ra.b.length d1, .bool ia.s, .slice A2 ia.a.length c2, .slice D2 ia.b.length d2] 26
  have C0 := bal w (.cells #[.bool ra.s, .slice A1 ra.a.length c1, .slice D1 ra.b.length d1, .bool ia.s, .slice A2 ia.a.length c2, .slice D2 ia.b.length d2] 26)
  have H_a : VN w w.heap.size (.agg #[.bool ra.s, .slice A1 ra.a.length c1, .slice D1 ra.b.length d1, .bool ia.s, .slice A2 ia.a.length c2, .slice D2 ia.b.length d2]) ra ia := ⟨A1, c1, D1, d1, A2, c2, D2, d2, rfl, p1, p2, p3, p4⟩
  have H_a := H_a.st C0
  clear p1 p2 p3 p4
  have o1 := fun V w' h => eexpt_any (V := V) (r := ra) (i := ia) (n := n) (w := w') h
  have o2 := fun V w' h => rexpt_any (V := V) (r := ra) (i := ia) (n := n) (w := w') h
  rcases em : qexptA ra ia n with ⟨mr, mi, mk⟩
  rw [em] at o1 o2
  clear em
  have l1 := fun V U w' h1 h2 => alike_any V U mr mi mr mi w' h1 h2
  rw [alikeB_self] at l1
  obtain ⟨W0, hW0⟩ : ∃ W0, W0 = w.alloc (.cells #[.bool ra.s, .slice A1 ra.a.length c1, .slice D1 ra.b.length d1, .bool ia.s, .slice A2 ia.a.length c2, .slice D2 ia.b.length d2] 26) := ⟨_, rfl⟩
  go_enter Try.func6, Try.ntmps6
  have i0 := S_a.cell 0
  have i1 := S_a.cell 1
  have i2 := S_a.cell 2
  have i3 := S_a.cell 3
  have i4 := S_a.cell 4
  have i5 := S_a.cell 5
  go_wp2_with fail
  clear i0 i1 i2 i3 i4 i5
  rw [← hW0] at S_a C0 H_a ⊢
  clear hW0
  refine (o1 _ _ H_a).mono ?_; rintro e w3 ⟨A3a, c3a, D3a, d3a, A3b, c3b, D3b, d3b, rfl, O3a, O3b, O3c, O3d, B3⟩
  try dsimp only at O3a O3b O3c O3d
  have H_x : VN w3 w3.heap.size (.agg #[.bool mr.s, .slice A3a mr.a.length c3a, .slice D3a mr.b.length d3a, .bool mi.s, .slice A3b mi.a.length c3b, .slice D3b mi.b.length d3b]) mr mi := ⟨A3a, c3a, D3a, d3a, A3b, c3b, D3b, d3b, rfl, O3a.rw, O3b.rw, O3c.rw, O3d.rw⟩
  clear O3a O3b O3c O3d
  have S_a := S_a.nx B3
  have H_a := H_a.st B3
  have C0 := bt C0 B3
  have L3 := bal w3 (.cells #[.bool mr.s, .slice A3a mr.a.length c3a, .slice D3a mr.b.length d3a, .bool mi.s, .slice A3b mi.a.length c3b, .slice D3b mi.b.length d3b] 26)
  have S_x := SB.new w3 [.bool mr.s, .slice A3a mr.a.length c3a, .slice D3a mr.b.length d3a, .bool mi.s, .slice A3b mi.a.length c3b, .slice D3b mi.b.length d3b] 26
  have S_a := S_a.nx L3
  have H_a := H_a.st L3
  have H_x := H_x.st L3
  have C0 := bt C0 L3
  have i0 := S_a.cell 0
  have i1 := S_a.cell 1
  have i2 := S_a.cell 2
  have i3 := S_a.cell 3
  have i4 := S_a.cell 4
  have i5 := S_a.cell 5
  go_wp2_with fail
  refine (o2 _ _ H_a).mono ?_; rintro e w4 ⟨A4a, c4a, D4a, d4a, A4b, c4b, D4b, d4b, rfl, O4a, O4b, O4c, O4d, B4⟩
  clear i0 i1 i2 i3 i4 i5
  try dsimp only at O4a O4b O4c O4d
  have H_y : VN w4 w4.heap.size (.agg #[.bool mr.s, .slice A4a mr.a.length c4a, .slice D4a mr.b.length d4a, .bool mi.s, .slice A4b mi.a.length c4b, .slice D4b mi.b.length d4b]) mr mi := ⟨A4a, c4a, D4a, d4a, A4b, c4b, D4b, d4b, rfl, O4a.rw, O4b.rw, O4c.rw, O4d.rw⟩
  clear O4a O4b O4c O4d
  have S_a := S_a.nx B4
  have H_a := H_a.st B4
  have S_x := S_x.nx B4
  have H_x := H_x.st B4
  have C0 := bt C0 B4
  have L4 := bal w4 (.cells #[.bool mr.s, .slice A4a mr.a.length c4a, .slice D4a mr.b.length d4a, .bool mi.s, .slice A4b mi.a.length c4b, .slice D4b mi.b.length d4b] 26)
  have S_y := SB.new w4 [.bool mr.s, .slice A4a mr.a.length c4a, .slice D4a mr.b.length d4a, .bool mi.s, .slice A4b mi.a.length c4b, .slice D4b mi.b.length d4b] 26
  have S_a := S_a.nx L4
  have H_a := H_a.st L4
  have S_x := S_x.nx L4
  have H_x := H_x.st L4
  have H_y := H_y.st L4
  have C0 := bt C0 L4
  go_wp2_with fail
  refine (xawake_any _).mono ?_; rintro e w20 ⟨rfl, B20⟩
  have S_a := S_a.nx B20
  have H_a := H_a.st B20
  have S_x := S_x.nx B20
  have H_x := H_x.st B20
  have S_y := S_y.nx B20
  have H_y := H_y.st B20
  have C0 := bt C0 B20
  have i0 := S_x.cell 0
  have i1 := S_x.cell 1
  have i2 := S_x.cell 2
  have i3 := S_x.cell 3
  have i4 := S_x.cell 4
  have i5 := S_x.cell 5
  have j0 := S_y.cell 0
  have j1 := S_y.cell 1
  have j2 := S_y.cell 2
  have j3 := S_y.cell 3
  have j4 := S_y.cell 4
  have j5 := S_y.cell 5
  go_wp2_with fail
  refine (l1 _ _ _ H_x H_y).mono ?_; rintro e w5 ⟨rfl, B5⟩
  have S_a := S_a.nx B5
  have H_a := H_a.st B5
  have S_x := S_x.nx B5
  have H_x := H_x.st B5
  have S_y := S_y.nx B5
  have H_y := H_y.st B5
  have C0 := bt C0 B5
  clear i0 i1 i2 i3 i4 i5
  clear j0 j1 j2 j3 j4 j5
  go_wp2_with fail
  go_ret
  exact ⟨by simp, C0⟩

set_option maxRecDepth 100000 in
set_option maxHeartbeats 16000000 in
theorem powersW_b (V : Value) (ra ia : Rw) (n : Int) (w : World) (hV : VN w w.heap.size V ra ia) (hy : 0 < ia.a.length) (hn : n < -1024) :
    Calls Try.prog 6 #[V, .int .i64 n] w fun e w' => e = .returned (.bool true) ∧ Below w.heap.size w w' := by
  have hg1 : (0 : Int) < (ia.a.length : Int) := by omega
  have hg2 : ¬ -1024 ≤ n := by omega
  clear hy hn
  obtain ⟨A1, c1, D1, d1, A2, c2, D2, d2, rfl, p1, p2, p3, p4⟩ := hV
  have z1 := p1.big
  have z2 := p2.big
  have z3 := p3.big
  have z4 := p4.big
  have S_a := SB.new w [.bool ra.s, .slice A1 ra.a.length c1, .slice D1 ra.b.length d1, .bool ia.s, .slice A2 ia.a.length c2, .slice D2 ia.b.length d2] 26
  have C0 := bal w (.cells #[.bool ra.s, .slice A1 ra.a.length c1, .slice D1 ra.b.length d1, .bool ia.s, .slice A2 ia.a.length c2, .slice D2 ia.b.length d2] 26)
  have H_a : VN w w.heap.size (.agg #[.bool ra.s, .slice A1 ra.a.length c1, .slice D1 ra.b.length d1, .bool ia.s, .slice A2 ia.a.length c2, .slice D2 ia.b.length d2]) ra ia := ⟨A1, c1, D1, d1, A2, c2, D2, d2, rfl, p1, p2, p3, p4⟩
  have H_a := H_a.st C0
  clear p1 p2 p3 p4
  have o1 := fun V w' h => eexpt_any (V := V) (r := ra) (i := ia) (n := n) (w := w') h
  have o2 := fun V w' h => rexpt_any (V := V) (r := ra) (i := ia) (n := n) (w := w') h
  rcases em : qexptA ra ia n with ⟨mr, mi, mk⟩
  rw [em] at o1 o2
  clear em
  have l1 := fun V U w' h1 h2 => alike_any V U mr mi mr mi w' h1 h2
  rw [alikeB_self] at l1
  obtain ⟨W0, hW0⟩ : ∃ W0, W0 = w.alloc (.cells #[.bool ra.s, .slice A1 ra.a.length c1, .slice D1 ra.b.length d1, .bool ia.s, .slice A2 ia.a.length c2, .slice D2 ia.b.length d2] 26) := ⟨_, rfl⟩
  go_enter Try.func6, Try.ntmps6
  have i0 := S_a.cell 0
  have i1 := S_a.cell 1
  have i2 := S_a.cell 2
  have i3 := S_a.cell 3
  have i4 := S_a.cell 4
  have i5 := S_a.cell 5
  go_wp2_with fail
  clear i0 i1 i2 i3 i4 i5
  rw [← hW0] at S_a C0 H_a ⊢
  clear hW0
  refine (o1 _ _ H_a).mono ?_; rintro e w3 ⟨A3a, c3a, D3a, d3a, A3b, c3b, D3b, d3b, rfl, O3a, O3b, O3c, O3d, B3⟩
  try dsimp only at O3a O3b O3c O3d
  have H_x : VN w3 w3.heap.size (.agg #[.bool mr.s, .slice A3a mr.a.length c3a, .slice D3a mr.b.length d3a, .bool mi.s, .slice A3b mi.a.length c3b, .slice D3b mi.b.length d3b]) mr mi := ⟨A3a, c3a, D3a, d3a, A3b, c3b, D3b, d3b, rfl, O3a.rw, O3b.rw, O3c.rw, O3d.rw⟩
  clear O3a O3b O3c O3d
  have S_a := S_a.nx B3
  have H_a := H_a.st B3
  have C0 := bt C0 B3
  have L3 := bal w3 (.cells #[.bool mr.s, .slice A3a mr.a.length c3a, .slice D3a mr.b.length d3a, .bool mi.s, .slice A3b mi.a.length c3b, .slice D3b mi.b.length d3b] 26)
  have S_x := SB.new w3 [.bool mr.s, .slice A3a mr.a.length c3a, .slice D3a mr.b.length d3a, .bool mi.s, .slice A3b mi.a.length c3b, .slice D3b mi.b.length d3b] 26
  have S_a := S_a.nx L3
  have H_a := H_a.st L3
  have H_x := H_x.st L3
  have C0 := bt C0 L3
  have i0 := S_a.cell 0
  have i1 := S_a.cell 1
  have i2 := S_a.cell 2
  have i3 := S_a.cell 3
  have i4 := S_a.cell 4
  have i5 := S_a.cell 5
  go_wp2_with fail
  refine (o2 _ _ H_a).mono ?_; rintro e w4 ⟨A4a, c4a, D4a, d4a, A4b, c4b, D4b, d4b, rfl, O4a, O4b, O4c, O4d, B4⟩
  clear i0 i1 i2 i3 i4 i5
  try dsimp only at O4a O4b O4c O4d
  have H_y : VN w4 w4.heap.size (.agg #[.bool mr.s, .slice A4a mr.a.length c4a, .slice D4a mr.b.length d4a, .bool mi.s, .slice A4b mi.a.length c4b, .slice D4b mi.b.length d4b]) mr mi := ⟨A4a, c4a, D4a, d4a, A4b, c4b, D4b, d4b, rfl, O4a.rw, O4b.rw, O4c.rw, O4d.rw⟩
  clear O4a O4b O4c O4d
  have S_a := S_a.nx B4
  have H_a := H_a.st B4
  have S_x := S_x.nx B4
  have H_x := H_x.st B4
  have C0 := bt C0 B4
  have L4 := bal w4 (.cells #[.bool mr.s, .slice A4a mr.a.length c4a, .slice D4a mr.b.length d4a, .bool mi.s, .slice A4b mi.a.length c4b, .slice D4b mi.b.length d4b] 26)
  have S_y := SB.new w4 [.bool mr.s, .slice A4a mr.a.length c4a, .slice D4a mr.b.length d4a, .bool mi.s, .slice A4b mi.a.length c4b, .slice D4b mi.b.length d4b] 26
  have S_a := S_a.nx L4
  have H_a := H_a.st L4
  have S_x := S_x.nx L4
  have H_x := H_x.st L4
  have H_y := H_y.st L4
  have C0 := bt C0 L4
  go_wp2_with fail
  refine (xawake_any _).mono ?_; rintro e w20 ⟨rfl, B20⟩
  have S_a := S_a.nx B20
  have H_a := H_a.st B20
  have S_x := S_x.nx B20
  have H_x := H_x.st B20
  have S_y := S_y.nx B20
  have H_y := H_y.st B20
  have C0 := bt C0 B20
  have i0 := S_x.cell 0
  have i1 := S_x.cell 1
  have i2 := S_x.cell 2
  have i3 := S_x.cell 3
  have i4 := S_x.cell 4
  have i5 := S_x.cell 5
  have j0 := S_y.cell 0
  have j1 := S_y.cell 1
  have j2 := S_y.cell 2
  have j3 := S_y.cell 3
  have j4 := S_y.cell 4
  have j5 := S_y.cell 5
  go_wp2_with fail
  refine (l1 _ _ _ H_x H_y).mono ?_; rintro e w5 ⟨rfl, B5⟩
  have S_a := S_a.nx B5
  have H_a := H_a.st B5
  have S_x := S_x.nx B5
  have H_x := H_x.st B5
  have S_y := S_y.nx B5
  have H_y := H_y.st B5
  have C0 := bt C0 B5
  clear i0 i1 i2 i3 i4 i5
  clear j0 j1 j2 j3 j4 j5
  go_wp2_with fail
  go_ret
  exact ⟨by simp, C0⟩

set_option maxRecDepth 100000 in
set_option maxHeartbeats 16000000 in
theorem powersW_c (V : Value) (ra ia : Rw) (n : Int) (w : World) (hV : VN w w.heap.size V ra ia) (hy : 0 < ia.a.length) (hn : 1024 < n) :
    Calls Try.prog 6 #[V, .int .i64 n] w fun e w' => e = .returned (.bool true) ∧ Below w.heap.size w w' := by
  have hg1 : (0 : Int) < (ia.a.length : Int) := by omega
  have hg2 : -1024 ≤ n := by omega
  have hg3 : ¬ n ≤ 1024 := by omega
  clear hy hn
  obtain ⟨A1, c1, D1, d1, A2, c2, D2, d2, rfl, p1, p2, p3, p4⟩ := hV
  have z1 := p1.big
  have z2 := p2.big
  have z3 := p3.big
  have z4 := p4.big
  have S_a := SB.new w [.bool ra.s, .slice A1 ra.a.length c1, .slice D1 ra.b.length d1, .bool ia.s, .slice A2 ia.a.length c2, .slice D2 ia.b.length d2] 26
  have C0 := bal w (.cells #[.bool ra.s, .slice A1 ra.a.length c1, .slice D1 ra.b.length d1, .bool ia.s, .slice A2 ia.a.length c2, .slice D2 ia.b.length d2] 26)
  have H_a : VN w w.heap.size (.agg #[.bool ra.s, .slice A1 ra.a.length c1, .slice D1 ra.b.length d1, .bool ia.s, .slice A2 ia.a.length c2, .slice D2 ia.b.length d2]) ra ia := ⟨A1, c1, D1, d1, A2, c2, D2, d2, rfl, p1, p2, p3, p4⟩
  have H_a := H_a.st C0
  clear p1 p2 p3 p4
  have o1 := fun V w' h => eexpt_any (V := V) (r := ra) (i := ia) (n := n) (w := w') h
  have o2 := fun V w' h => rexpt_any (V := V) (r := ra) (i := ia) (n := n) (w := w') h
  rcases em : qexptA ra ia n with ⟨mr, mi, mk⟩
  rw [em] at o1 o2
  clear em
  have l1 := fun V U w' h1 h2 => alike_any V U mr mi mr mi w' h1 h2
  rw [alikeB_self] at l1
  obtain ⟨W0, hW0⟩ : ∃ W0, W0 = w.alloc (.cells #[.bool ra.s, .slice A1 ra.a.length c1, .slice D1 ra.b.length d1, .bool ia.s, .slice A2 ia.a.length c2, .slice D2 ia.b.length d2] 26) := ⟨_, rfl⟩
  go_enter Try.func6, Try.ntmps6
  have i0 := S_a.cell 0
  have i1 := S_a.cell 1
  have i2 := S_a.cell 2
  have i3 := S_a.cell 3
  have i4 := S_a.cell 4
  have i5 := S_a.cell 5
  go_wp2_with fail
  clear i0 i1 i2 i3 i4 i5
  rw [← hW0] at S_a C0 H_a ⊢
  clear hW0
  refine (o1 _ _ H_a).mono ?_; rintro e w3 ⟨A3a, c3a, D3a, d3a, A3b, c3b, D3b, d3b, rfl, O3a, O3b, O3c, O3d, B3⟩
  try dsimp only at O3a O3b O3c O3d
  have H_x : VN w3 w3.heap.size (.agg #[.bool mr.s, .slice A3a mr.a.length c3a, .slice D3a mr.b.length d3a, .bool mi.s, .slice A3b mi.a.length c3b, .slice D3b mi.b.length d3b]) mr mi := ⟨A3a, c3a, D3a, d3a, A3b, c3b, D3b, d3b, rfl, O3a.rw, O3b.rw, O3c.rw, O3d.rw⟩
  clear O3a O3b O3c O3d
  have S_a := S_a.nx B3
  have H_a := H_a.st B3
  have C0 := bt C0 B3
  have L3 := bal w3 (.cells #[.bool mr.s, .slice A3a mr.a.length c3a, .slice D3a mr.b.length d3a, .bool mi.s, .slice A3b mi.a.length c3b, .slice D3b mi.b.length d3b] 26)
  have S_x := SB.new w3 [.bool mr.s, .slice A3a mr.a.length c3a, .slice D3a mr.b.length d3a, .bool mi.s, .slice A3b mi.a.length c3b, .slice D3b mi.b.length d3b] 26
  have S_a := S_a.nx L3
  have H_a := H_a.st L3
  have H_x := H_x.st L3
  have C0 := bt C0 L3
  have i0 := S_a.cell 0
  have i1 := S_a.cell 1
  have i2 := S_a.cell 2
  have i3 := S_a.cell 3
  have i4 := S_a.cell 4
  have i5 := S_a.cell 5
  go_wp2_with fail
  refine (o2 _ _ H_a).mono ?_; rintro e w4 ⟨A4a, c4a, D4a, d4a, A4b, c4b, D4b, d4b, rfl, O4a, O4b, O4c, O4d, B4⟩
  clear i0 i1 i2 i3 i4 i5
  try dsimp only at O4a O4b O4c O4d
  have H_y : VN w4 w4.heap.size (.agg #[.bool mr.s, .slice A4a mr.a.length c4a, .slice D4a mr.b.length d4a, .bool mi.s, .slice A4b mi.a.length c4b, .slice D4b mi.b.length d4b]) mr mi := ⟨A4a, c4a, D4a, d4a, A4b, c4b, D4b, d4b, rfl, O4a.rw, O4b.rw, O4c.rw, O4d.rw⟩
  clear O4a O4b O4c O4d
  have S_a := S_a.nx B4
  have H_a := H_a.st B4
  have S_x := S_x.nx B4
  have H_x := H_x.st B4
  have C0 := bt C0 B4
  have L4 := bal w4 (.cells #[.bool mr.s, .slice A4a mr.a.length c4a, .slice D4a mr.b.length d4a, .bool mi.s, .slice A4b mi.a.length c4b, .slice D4b mi.b.length d4b] 26)
  have S_y := SB.new w4 [.bool mr.s, .slice A4a mr.a.length c4a, .slice D4a mr.b.length d4a, .bool mi.s, .slice A4b mi.a.length c4b, .slice D4b mi.b.length d4b] 26
  have S_a := S_a.nx L4
  have H_a := H_a.st L4
  have S_x := S_x.nx L4
  have H_x := H_x.st L4
  have H_y := H_y.st L4
  have C0 := bt C0 L4
  go_wp2_with fail
  refine (xawake_any _).mono ?_; rintro e w20 ⟨rfl, B20⟩
  have S_a := S_a.nx B20
  have H_a := H_a.st B20
  have S_x := S_x.nx B20
  have H_x := H_x.st B20
  have S_y := S_y.nx B20
  have H_y := H_y.st B20
  have C0 := bt C0 B20
  have i0 := S_x.cell 0
  have i1 := S_x.cell 1
  have i2 := S_x.cell 2
  have i3 := S_x.cell 3
  have i4 := S_x.cell 4
  have i5 := S_x.cell 5
  have j0 := S_y.cell 0
  have j1 := S_y.cell 1
  have j2 := S_y.cell 2
  have j3 := S_y.cell 3
  have j4 := S_y.cell 4
  have j5 := S_y.cell 5
  go_wp2_with fail
  refine (l1 _ _ _ H_x H_y).mono ?_; rintro e w5 ⟨rfl, B5⟩
  have S_a := S_a.nx B5
  have H_a := H_a.st B5
  have S_x := S_x.nx B5
  have H_x := H_x.st B5
  have S_y := S_y.nx B5
  have H_y := H_y.st B5
  have C0 := bt C0 B5
  clear i0 i1 i2 i3 i4 i5
  clear j0 j1 j2 j3 j4 j5
  go_wp2_with fail
  go_ret
  exact ⟨by simp, C0⟩

set_option maxRecDepth 100000 in
set_option maxHeartbeats 16000000 in
theorem powersW_d (V : Value) (ra ia : Rw) (n : Int) (w : World) (hV : VN w w.heap.size V ra ia) (hy : 0 < ia.a.length) (hn1 : -1024 ≤ n) (hn2 : n ≤ 1024) (hs : ¬ (10 : Int) < (ra.a.length : Int) + (ra.b.length : Int) + (ia.a.length : Int) + (ia.b.length : Int)) :
    Calls Try.prog 6 #[V, .int .i64 n] w fun e w' => e = .returned (.bool true) ∧ Below w.heap.size w w' := by
  have hg1 : (0 : Int) < (ia.a.length : Int) := by omega
  have ht1 : -40 < n.tmod 40 := by have := Int.lt_tmod_of_pos n (show (0 : Int) < 40 by omega); omega
  have ht2 : n.tmod 40 < 40 := Int.tmod_lt_of_pos n (by omega)
  clear hy
  obtain ⟨n1, hN⟩ : ∃ n1, n1 = n.tmod 40 := ⟨_, rfl⟩
  obtain ⟨A1, c1, D1, d1, A2, c2, D2, d2, rfl, p1, p2, p3, p4⟩ := hV
  have z1 := p1.big
  have z2 := p2.big
  have z3 := p3.big
  have z4 := p4.big
  have S_a := SB.new w [.bool ra.s, .slice A1 ra.a.length c1, .slice D1 ra.b.length d1, .bool ia.s, .slice A2 ia.a.length c2, .slice D2 ia.b.length d2] 26
  have C0 := bal w (.cells #[.bool ra.s, .slice A1 ra.a.length c1, .slice D1 ra.b.length d1, .bool ia.s, .slice A2 ia.a.length c2, .slice D2 ia.b.length d2] 26)
  have H_a : VN w w.heap.size (.agg #[.bool ra.s, .slice A1 ra.a.length c1, .slice D1 ra.b.length d1, .bool ia.s, .slice A2 ia.a.length c2, .slice D2 ia.b.length d2]) ra ia := ⟨A1, c1, D1, d1, A2, c2, D2, d2, rfl, p1, p2, p3, p4⟩
  have H_a := H_a.st C0
  clear p1 p2 p3 p4
  have o1 := fun V w' h => eexpt_any (V := V) (r := ra) (i := ia) (n := n1) (w := w') h
  have o2 := fun V w' h => rexpt_any (V := V) (r := ra) (i := ia) (n := n1) (w := w') h
  rcases em : qexptA ra ia n1 with ⟨mr, mi, mk⟩
  rw [em] at o1 o2
  clear em
  have l1 := fun V U w' h1 h2 => alike_any V U mr mi mr mi w' h1 h2
  rw [alikeB_self] at l1
  obtain ⟨W0, hW0⟩ : ∃ W0, W0 = w.alloc (.cells #[.bool ra.s, .slice A1 ra.a.length c1, .slice D1 ra.b.length d1, .bool ia.s, .slice A2 ia.a.length c2, .slice D2 ia.b.length d2] 26) := ⟨_, rfl⟩
  go_enter Try.func6, Try.ntmps6
  have i0 := S_a.cell 0
  have i1 := S_a.cell 1
  have i2 := S_a.cell 2
  have i3 := S_a.cell 3
  have i4 := S_a.cell 4
  have i5 := S_a.cell 5
  go_wp2_with fail
  clear i0 i1 i2 i3 i4 i5
  rw [← hW0] at S_a C0 H_a ⊢
  clear hW0
  rw [← hN]
  clear hN
  refine (o1 _ _ H_a).mono ?_; rintro e w3 ⟨A3a, c3a, D3a, d3a, A3b, c3b, D3b, d3b, rfl, O3a, O3b, O3c, O3d, B3⟩
  try dsimp only at O3a O3b O3c O3d
  have H_x : VN w3 w3.heap.size (.agg #[.bool mr.s, .slice A3a mr.a.length c3a, .slice D3a mr.b.length d3a, .bool mi.s, .slice A3b mi.a.length c3b, .slice D3b mi.b.length d3b]) mr mi := ⟨A3a, c3a, D3a, d3a, A3b, c3b, D3b, d3b, rfl, O3a.rw, O3b.rw, O3c.rw, O3d.rw⟩
  clear O3a O3b O3c O3d
  have S_a := S_a.nx B3
  have H_a := H_a.st B3
  have C0 := bt C0 B3
  have L3 := bal w3 (.cells #[.bool mr.s, .slice A3a mr.a.length c3a, .slice D3a mr.b.length d3a, .bool mi.s, .slice A3b mi.a.length c3b, .slice D3b mi.b.length d3b] 26)
  have S_x := SB.new w3 [.bool mr.s, .slice A3a mr.a.length c3a, .slice D3a mr.b.length d3a, .bool mi.s, .slice A3b mi.a.length c3b, .slice D3b mi.b.length d3b] 26
  have S_a := S_a.nx L3
  have H_a := H_a.st L3
  have H_x := H_x.st L3
  have C0 := bt C0 L3
  have i0 := S_a.cell 0
  have i1 := S_a.cell 1
  have i2 := S_a.cell 2
  have i3 := S_a.cell 3
  have i4 := S_a.cell 4
  have i5 := S_a.cell 5
  go_wp2_with fail
  refine (o2 _ _ H_a).mono ?_; rintro e w4 ⟨A4a, c4a, D4a, d4a, A4b, c4b, D4b, d4b, rfl, O4a, O4b, O4c, O4d, B4⟩
  clear i0 i1 i2 i3 i4 i5
  try dsimp only at O4a O4b O4c O4d
  have H_y : VN w4 w4.heap.size (.agg #[.bool mr.s, .slice A4a mr.a.length c4a, .slice D4a mr.b.length d4a, .bool mi.s, .slice A4b mi.a.length c4b, .slice D4b mi.b.length d4b]) mr mi := ⟨A4a, c4a, D4a, d4a, A4b, c4b, D4b, d4b, rfl, O4a.rw, O4b.rw, O4c.rw, O4d.rw⟩
  clear O4a O4b O4c O4d
  have S_a := S_a.nx B4
  have H_a := H_a.st B4
  have S_x := S_x.nx B4
  have H_x := H_x.st B4
  have C0 := bt C0 B4
  have L4 := bal w4 (.cells #[.bool mr.s, .slice A4a mr.a.length c4a, .slice D4a mr.b.length d4a, .bool mi.s, .slice A4b mi.a.length c4b, .slice D4b mi.b.length d4b] 26)
  have S_y := SB.new w4 [.bool mr.s, .slice A4a mr.a.length c4a, .slice D4a mr.b.length d4a, .bool mi.s, .slice A4b mi.a.length c4b, .slice D4b mi.b.length d4b] 26
  have S_a := S_a.nx L4
  have H_a := H_a.st L4
  have S_x := S_x.nx L4
  have H_x := H_x.st L4
  have H_y := H_y.st L4
  have C0 := bt C0 L4
  go_wp2_with fail
  refine (xawake_any _).mono ?_; rintro e w20 ⟨rfl, B20⟩
  have S_a := S_a.nx B20
  have H_a := H_a.st B20
  have S_x := S_x.nx B20
  have H_x := H_x.st B20
  have S_y := S_y.nx B20
  have H_y := H_y.st B20
  have C0 := bt C0 B20
  have i0 := S_x.cell 0
  have i1 := S_x.cell 1
  have i2 := S_x.cell 2
  have i3 := S_x.cell 3
  have i4 := S_x.cell 4
  have i5 := S_x.cell 5
  have j0 := S_y.cell 0
  have j1 := S_y.cell 1
  have j2 := S_y.cell 2
  have j3 := S_y.cell 3
  have j4 := S_y.cell 4
  have j5 := S_y.cell 5
  go_wp2_with fail
  refine (l1 _ _ _ H_x H_y).mono ?_; rintro e w5 ⟨rfl, B5⟩
  have S_a := S_a.nx B5
  have H_a := H_a.st B5
  have S_x := S_x.nx B5
  have H_x := H_x.st B5
  have S_y := S_y.nx B5
  have H_y := H_y.st B5
  have C0 := bt C0 B5
  clear i0 i1 i2 i3 i4 i5
  clear j0 j1 j2 j3 j4 j5
  go_wp2_with fail
  go_ret
  exact ⟨by simp, C0⟩

set_option maxRecDepth 100000 in
set_option maxHeartbeats 16000000 in
theorem powersW_e (V : Value) (ra ia : Rw) (n : Int) (w : World) (hV : VN w w.heap.size V ra ia) (hy : 0 < ia.a.length) (hn1 : -1024 ≤ n) (hn2 : n ≤ 1024) (hs : (10 : Int) < (ra.a.length : Int) + (ra.b.length : Int) + (ia.a.length : Int) + (ia.b.length : Int)) :
    Calls Try.prog 6 #[V, .int .i64 n] w fun e w' => e = .returned (.bool true) ∧ Below w.heap.size w w' := by
  have hg1 : (0 : Int) < (ia.a.length : Int) := by omega
  have ht1 : -40 < n.tmod 40 := by have := Int.lt_tmod_of_pos n (show (0 : Int) < 40 by omega); omega
  have ht2 : n.tmod 40 < 40 := Int.tmod_lt_of_pos n (by omega)
  have ht3 : -8 < (n.tmod 40).tmod 8 := by have := Int.lt_tmod_of_pos (n.tmod 40) (show (0 : Int) < 8 by omega); omega
  have ht4 : (n.tmod 40).tmod 8 < 8 := Int.tmod_lt_of_pos _ (by omega)
  clear hy
  obtain ⟨n1, hN⟩ : ∃ n1, n1 = n.tmod 8 := ⟨_, rfl⟩
  obtain ⟨A1, c1, D1, d1, A2, c2, D2, d2, rfl, p1, p2, p3, p4⟩ := hV
  have z1 := p1.big
  have z2 := p2.big
  have z3 := p3.big
  have z4 := p4.big
  have S_a := SB.new w [.bool ra.s, .slice A1 ra.a.length c1, .slice D1 ra.b.length d1, .bool ia.s, .slice A2 ia.a.length c2, .slice D2 ia.b.length d2] 26
  have C0 := bal w (.cells #[.bool ra.s, .slice A1 ra.a.length c1, .slice D1 ra.b.length d1, .bool ia.s, .slice A2 ia.a.length c2, .slice D2 ia.b.length d2] 26)
  have H_a : VN w w.heap.size (.agg #[.bool ra.s, .slice A1 ra.a.length c1, .slice D1 ra.b.length d1, .bool ia.s, .slice A2 ia.a.length c2, .slice D2 ia.b.length d2]) ra ia := ⟨A1, c1, D1, d1, A2, c2, D2, d2, rfl, p1, p2, p3, p4⟩
  have H_a := H_a.st C0
  clear p1 p2 p3 p4
  have o1 := fun V w' h => eexpt_any (V := V) (r := ra) (i := ia) (n := n1) (w := w') h
  have o2 := fun V w' h => rexpt_any (V := V) (r := ra) (i := ia) (n := n1) (w := w') h
  rcases em : qexptA ra ia n1 with ⟨mr, mi, mk⟩
  rw [em] at o1 o2
  clear em
  have l1 := fun V U w' h1 h2 => alike_any V U mr mi mr mi w' h1 h2
  rw [alikeB_self] at l1
  obtain ⟨W0, hW0⟩ : ∃ W0, W0 = w.alloc (.cells #[.bool ra.s, .slice A1 ra.a.length c1, .slice D1 ra.b.length d1, .bool ia.s, .slice A2 ia.a.length c2, .slice D2 ia.b.length d2] 26) := ⟨_, rfl⟩
  go_enter Try.func6, Try.ntmps6
  have i0 := S_a.cell 0
  have i1 := S_a.cell 1
  have i2 := S_a.cell 2
  have i3 := S_a.cell 3
  have i4 := S_a.cell 4
  have i5 := S_a.cell 5
  go_wp2_with fail
  clear i0 i1 i2 i3 i4 i5
  rw [← hW0] at S_a C0 H_a ⊢
  clear hW0
  rw [← hN]
  clear hN
  refine (o1 _ _ H_a).mono ?_; rintro e w3 ⟨A3a, c3a, D3a, d3a, A3b, c3b, D3b, d3b, rfl, O3a, O3b, O3c, O3d, B3⟩
  try dsimp only at O3a O3b O3c O3d
  have H_x : VN w3 w3.heap.size (.agg #[.bool mr.s, .slice A3a mr.a.length c3a, .slice D3a mr.b.length d3a, .bool mi.s, .slice A3b mi.a.length c3b, .slice D3b mi.b.length d3b]) mr mi := ⟨A3a, c3a, D3a, d3a, A3b, c3b, D3b, d3b, rfl, O3a.rw, O3b.rw, O3c.rw, O3d.rw⟩
  clear O3a O3b O3c O3d
  have S_a := S_a.nx B3
  have H_a := H_a.st B3
  have C0 := bt C0 B3
  have L3 := bal w3 (.cells #[.bool mr.s, .slice A3a mr.a.length c3a, .slice D3a mr.b.length d3a, .bool mi.s, .slice A3b mi.a.length c3b, .slice D3b mi.b.length d3b] 26)
  have S_x := SB.new w3 [.bool mr.s, .slice A3a mr.a.length c3a, .slice D3a mr.b.length d3a, .bool mi.s, .slice A3b mi.a.length c3b, .slice D3b mi.b.length d3b] 26
  have S_a := S_a.nx L3
  have H_a := H_a.st L3
  have H_x := H_x.st L3
  have C0 := bt C0 L3
  have i0 := S_a.cell 0
  have i1 := S_a.cell 1
  have i2 := S_a.cell 2
  have i3 := S_a.cell 3
  have i4 := S_a.cell 4
  have i5 := S_a.cell 5
  go_wp2_with fail
  refine (o2 _ _ H_a).mono ?_; rintro e w4 ⟨A4a, c4a, D4a, d4a, A4b, c4b, D4b, d4b, rfl, O4a, O4b, O4c, O4d, B4⟩
  clear i0 i1 i2 i3 i4 i5
  try dsimp only at O4a O4b O4c O4d
  have H_y : VN w4 w4.heap.size (.agg #[.bool mr.s, .slice A4a mr.a.length c4a, .slice D4a mr.b.length d4a, .bool mi.s, .slice A4b mi.a.length c4b, .slice D4b mi.b.length d4b]) mr mi := ⟨A4a, c4a, D4a, d4a, A4b, c4b, D4b, d4b, rfl, O4a.rw, O4b.rw, O4c.rw, O4d.rw⟩
  clear O4a O4b O4c O4d
  have S_a := S_a.nx B4
  have H_a := H_a.st B4
  have S_x := S_x.nx B4
  have H_x := H_x.st B4
  have C0 := bt C0 B4
  have L4 := bal w4 (.cells #[.bool mr.s, .slice A4a mr.a.length c4a, .slice D4a mr.b.length d4a, .bool mi.s, .slice A4b mi.a.length c4b, .slice D4b mi.b.length d4b] 26)
  have S_y := SB.new w4 [.bool mr.s, .slice A4a mr.a.length c4a, .slice D4a mr.b.length d4a, .bool mi.s, .slice A4b mi.a.length c4b, .slice D4b mi.b.length d4b] 26
  have S_a := S_a.nx L4
  have H_a := H_a.st L4
  have S_x := S_x.nx L4
  have H_x := H_x.st L4
  have H_y := H_y.st L4
  have C0 := bt C0 L4
  go_wp2_with fail
  refine (xawake_any _).mono ?_; rintro e w20 ⟨rfl, B20⟩
  have S_a := S_a.nx B20
  have H_a := H_a.st B20
  have S_x := S_x.nx B20
  have H_x := H_x.st B20
  have S_y := S_y.nx B20
  have H_y := H_y.st B20
  have C0 := bt C0 B20
  have i0 := S_x.cell 0
  have i1 := S_x.cell 1
  have i2 := S_x.cell 2
  have i3 := S_x.cell 3
  have i4 := S_x.cell 4
  have i5 := S_x.cell 5
  have j0 := S_y.cell 0
  have j1 := S_y.cell 1
  have j2 := S_y.cell 2
  have j3 := S_y.cell 3
  have j4 := S_y.cell 4
  have j5 := S_y.cell 5
  go_wp2_with fail
  refine (l1 _ _ _ H_x H_y).mono ?_; rintro e w5 ⟨rfl, B5⟩
  have S_a := S_a.nx B5
  have H_a := H_a.st B5
  have S_x := S_x.nx B5
  have H_x := H_x.st B5
  have S_y := S_y.nx B5
  have H_y := H_y.st B5
  have C0 := bt C0 B5
  clear i0 i1 i2 i3 i4 i5
  clear j0 j1 j2 j3 j4 j5
  go_wp2_with fail
  go_ret
  exact ⟨by simp, C0⟩

theorem exactPowers_walk (V : Value) (ra ia : Rw) (n : Int) (w : World) (hV : VN w w.heap.size V ra ia) (_hn : -9223372036854775808 ≤ n ∧ n ≤ 9223372036854775807) :
    Calls Try.prog 6 #[V, .int .i64 n] w fun e w' => e = .returned (.bool true) ∧ Below w.heap.size w w' := by
  by_cases hy : ia.a.length = 0
  · exact powersW_a V ra ia n w hV hy
  have hy' : 0 < ia.a.length := by omega
  by_cases h1 : n < -1024
  · exact powersW_b V ra ia n w hV hy' h1
  by_cases h2 : 1024 < n
  · exact powersW_c V ra ia n w hV hy' h2
  by_cases hs : (10 : Int) < (ra.a.length : Int) + (ra.b.length : Int) + (ia.a.length : Int) + (ia.b.length : Int)
  · exact powersW_e V ra ia n w hV hy' (by omega) (by omega) hs
  · exact powersW_d V ra ia n w hV hy' (by omega) (by omega) hs

end Go.Proofs.Ytdkejndagicgjaa
