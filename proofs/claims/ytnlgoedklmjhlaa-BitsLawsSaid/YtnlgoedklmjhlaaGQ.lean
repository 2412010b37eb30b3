/- Merged texts: BjA. -/
import Derived.Test.YtnlgoedklmjhlaaGP
namespace Go.Proofs.Ytnlgoedklmjhlaa
open Go.RowKit

set_option maxRecDepth 100000 in
set_option maxHeartbeats 16000000 in
theorem bitsLaws_good00 (V : Value) (ra ia : Rw) (U : Value) (rb ib : Rw) (w : World) (hV : VN w w.heap.size V ra ia) (hU : VN w w.heap.size U rb ib) (mr mi dr di sr si : Rw) (mk dk sk : Int) (em : qbothA (· &&& ·) ra ia rb ib = (mr, mi, mk)) (ed : qbothA (· ||| ·) ra ia rb ib = (dr, di, dk)) (es : qbothA (· ^^^ ·) ra ia rb ib = (sr, si, sk)) (hm : mk = 0) (hd : dk = 0) (hs : sk = 0) (lr li : Rw) (lk : Int) (el : qaddA ra ia rb ib = (lr, li, lk)) (hl : lk = 0)
    (nar nai nbr nbi nnr nni br bi nr ni : Rw) (nak nbk nnk hk ik : Int) (ena : qnotA ra ia = (nar, nai, nak)) (enb : qnotA rb ib = (nbr, nbi, nbk)) (enn : qnotA nar nai = (nnr, nni, nnk)) (ebo : qbothA (· ||| ·) nar nai nbr nbi = (br, bi, hk)) (eno : qnotA mr mi = (nr, ni, ik)) (hq : nak ≠ 0) : Calls Try.prog 6 #[V, U] w fun e w' => e = .returned (.bool true) ∧ Below w.heap.size w w' := by
  subst hm hd hs
  have o0 := fun V U w' h1 h2 => band_any V U ra ia rb ib w' h1 h2
  have o1 := fun V U w' h1 h2 => bor_any V U ra ia rb ib w' h1 h2
  have o2 := fun V U w' h1 h2 => bxor_any V U ra ia rb ib w' h1 h2
  rw [em] at o0
  rw [ed] at o1
  rw [es] at o2
  obtain ⟨g1, g2, g3, g4, g5, g6, g7⟩ := laws_good em ed es
  have o3 := fun V U w' h1 h2 => eadd_any (V := V) (U := U) (r := mr) (i := mi) (r' := dr) (i' := di) (w := w') h1 h2
  have o4 := fun V U w' h1 h2 => eadd_any (V := V) (U := U) (r := ra) (i := ia) (r' := rb) (i' := ib) (w := w') h1 h2
  have o5 := fun V U w' h1 h2 => esub_any (V := V) (U := U) (r := dr) (i := di) (r' := mr) (i' := mi) (w := w') h1 h2
  have o6 := fun V w' h1 => bnot_any V ra ia w' h1
  have o7 := fun V w' h1 => bnot_any V rb ib w' h1
  have o8 := fun V w' h1 => bnot_any V nar nai w' h1
  have o9 := fun V U w' h1 h2 => bor_any V U nar nai nbr nbi w' h1 h2
  have o10 := fun V w' h1 => bnot_any V mr mi w' h1
  rw [g1, el] at o3
  rw [el] at o4
  rw [g2] at o5
  rw [qboth_not, ena] at o6
  rw [qboth_not, enb] at o7
  rw [qboth_not, enn] at o8
  rw [ebo] at o9
  rw [qboth_not, eno] at o10
  have l0 := fun V U w' h1 h2 => esame_any V U sr si sr si w' h1 h2
  rw [g3] at l0
  subst hl
  have l1 := fun V U w' h1 h2 => esame_any V U lr li lr li w' h1 h2
  rw [g5 lr li el] at l1
  have n4 : (nak != 0) = true := bne_iff_ne.2 hq
  clear g1 g2 g3 g4 g5 g6 g7 em ed es el ena enb enn ebo eno hq
  obtain ⟨A1, c1, D1, d1, A2, c2, D2, d2, rfl, p1, p2, p3, p4⟩ := hV
  obtain ⟨A3, c3, D3, d3, A4, c4, D4, d4, rfl, p5, p6, p7, p8⟩ := hU
  obtain ⟨S_a, S_b, C0⟩ := T2.new w [.bool ra.s, .slice A1 ra.a.length c1, .slice D1 ra.b.length d1, .bool ia.s, .slice A2 ia.a.length c2, .slice D2 ia.b.length d2] [.bool rb.s, .slice A3 rb.a.length c3, .slice D3 rb.b.length d3, .bool ib.s, .slice A4 ib.a.length c4, .slice D4 ib.b.length d4] 26 26
  have H_a : VN w w.heap.size (.agg #[.bool ra.s, .slice A1 ra.a.length c1, .slice D1 ra.b.length d1, .bool ia.s, .slice A2 ia.a.length c2, .slice D2 ia.b.length d2]) ra ia := ⟨A1, c1, D1, d1, A2, c2, D2, d2, rfl, p1, p2, p3, p4⟩
  have H_a := H_a.st C0
  have H_b : VN w w.heap.size (.agg #[.bool rb.s, .slice A3 rb.a.length c3, .slice D3 rb.b.length d3, .bool ib.s, .slice A4 ib.a.length c4, .slice D4 ib.b.length d4]) rb ib := ⟨A3, c3, D3, d3, A4, c4, D4, d4, rfl, p5, p6, p7, p8⟩
  have H_b := H_b.st C0
  clear p1 p2 p3 p4 p5 p6 p7 p8
  obtain ⟨W0, hW0⟩ : ∃ W0, W0 = (w.alloc (.cells #[.bool ra.s, .slice A1 ra.a.length c1, .slice D1 ra.b.length d1, .bool ia.s, .slice A2 ia.a.length c2, .slice D2 ia.b.length d2] 26)).alloc (.cells #[.bool rb.s, .slice A3 rb.a.length c3, .slice D3 rb.b.length d3, .bool ib.s, .slice A4 ib.a.length c4, .slice D4 ib.b.length d4] 26) := ⟨_, rfl⟩
  go_enter Try.func6, Try.ntmps6
  have i0 := S_a.cell 0
  have i1 := S_a.cell 1
  have i2 := S_a.cell 2
  have i3 := S_a.cell 3
  have i4 := S_a.cell 4
  have i5 := S_a.cell 5
  have j0 := S_b.cell 0
  have j1 := S_b.cell 1
  have j2 := S_b.cell 2
  have j3 := S_b.cell 3
  have j4 := S_b.cell 4
  have j5 := S_b.cell 5
  go_wp2_with fail
  rw [← hW0] at S_a S_b C0 H_a H_b ⊢
  clear hW0
  clear i0 i1 i2 i3 i4 i5
  clear j0 j1 j2 j3 j4 j5
  refine (o0 _ _ _ H_a H_b).mono ?_; rintro e w3 ⟨A3a, c3a, D3a, d3a, A3b, c3b, D3b, d3b, rfl, O3a, O3b, O3c, O3d, B3⟩
  try dsimp only at O3a O3b O3c O3d
  have H_x : VN w3 w3.heap.size (.agg #[.bool mr.s, .slice A3a mr.a.length c3a, .slice D3a mr.b.length d3a, .bool mi.s, .slice A3b mi.a.length c3b, .slice D3b mi.b.length d3b]) mr mi := ⟨A3a, c3a, D3a, d3a, A3b, c3b, D3b, d3b, rfl, O3a.rw, O3b.rw, O3c.rw, O3d.rw⟩
  clear O3a O3b O3c O3d
  have S_a := S_a.nx B3
  have H_a := H_a.st B3
  have S_b := S_b.nx B3
  have H_b := H_b.st B3
  have C0 := bt C0 B3
  have L3 := bal w3 (.cells #[.bool mr.s, .slice A3a mr.a.length c3a, .slice D3a mr.b.length d3a, .bool mi.s, .slice A3b mi.a.length c3b, .slice D3b mi.b.length d3b] 26)
  have S_x := SB.new w3 [.bool mr.s, .slice A3a mr.a.length c3a, .slice D3a mr.b.length d3a, .bool mi.s, .slice A3b mi.a.length c3b, .slice D3b mi.b.length d3b] 26
  have S_a := S_a.nx L3
  have H_a := H_a.st L3
  have S_b := S_b.nx L3
  have H_b := H_b.st L3
  have H_x := H_x.st L3
  have C0 := bt C0 L3
  have i0 := S_a.cell 0
  have i1 := S_a.cell 1
  have i2 := S_a.cell 2
  have i3 := S_a.cell 3
  have i4 := S_a.cell 4
  have i5 := S_a.cell 5
  have j0 := S_b.cell 0
  have j1 := S_b.cell 1
  have j2 := S_b.cell 2
  have j3 := S_b.cell 3
  have j4 := S_b.cell 4
  have j5 := S_b.cell 5
  go_wp2_with fail
  clear i0 i1 i2 i3 i4 i5
  clear j0 j1 j2 j3 j4 j5
  refine (o1 _ _ _ H_a H_b).mono ?_; rintro e w4 ⟨A4a, c4a, D4a, d4a, A4b, c4b, D4b, d4b, rfl, O4a, O4b, O4c, O4d, B4⟩
  try dsimp only at O4a O4b O4c O4d
  have H_y : VN w4 w4.heap.size (.agg #[.bool dr.s, .slice A4a dr.a.length c4a, .slice D4a dr.b.length d4a, .bool di.s, .slice A4b di.a.length c4b, .slice D4b di.b.length d4b]) dr di := ⟨A4a, c4a, D4a, d4a, A4b, c4b, D4b, d4b, rfl, O4a.rw, O4b.rw, O4c.rw, O4d.rw⟩
  clear O4a O4b O4c O4d
  have S_a := S_a.nx B4
  have H_a := H_a.st B4
  have S_b := S_b.nx B4
  have H_b := H_b.st B4
  have S_x := S_x.nx B4
  have H_x := H_x.st B4
  have C0 := bt C0 B4
  have L4 := bal w4 (.cells #[.bool dr.s, .slice A4a dr.a.length c4a, .slice D4a dr.b.length d4a, .bool di.s, .slice A4b di.a.length c4b, .slice D4b di.b.length d4b] 26)
  have S_y := SB.new w4 [.bool dr.s, .slice A4a dr.a.length c4a, .slice D4a dr.b.length d4a, .bool di.s, .slice A4b di.a.length c4b, .slice D4b di.b.length d4b] 26
  have S_a := S_a.nx L4
  have H_a := H_a.st L4
  have S_b := S_b.nx L4
  have H_b := H_b.st L4
  have S_x := S_x.nx L4
  have H_x := H_x.st L4
  have H_y := H_y.st L4
  have C0 := bt C0 L4
  have i0 := S_a.cell 0
  have i1 := S_a.cell 1
  have i2 := S_a.cell 2
  have i3 := S_a.cell 3
  have i4 := S_a.cell 4
  have i5 := S_a.cell 5
  have j0 := S_b.cell 0
  have j1 := S_b.cell 1
  have j2 := S_b.cell 2
  have j3 := S_b.cell 3
  have j4 := S_b.cell 4
  have j5 := S_b.cell 5
  go_wp2_with fail
  clear i0 i1 i2 i3 i4 i5
  clear j0 j1 j2 j3 j4 j5
  refine (o2 _ _ _ H_a H_b).mono ?_; rintro e w5 ⟨A5a, c5a, D5a, d5a, A5b, c5b, D5b, d5b, rfl, O5a, O5b, O5c, O5d, B5⟩
  try dsimp only at O5a O5b O5c O5d
  have H_z : VN w5 w5.heap.size (.agg #[.bool sr.s, .slice A5a sr.a.length c5a, .slice D5a sr.b.length d5a, .bool si.s, .slice A5b si.a.length c5b, .slice D5b si.b.length d5b]) sr si := ⟨A5a, c5a, D5a, d5a, A5b, c5b, D5b, d5b, rfl, O5a.rw, O5b.rw, O5c.rw, O5d.rw⟩
  clear O5a O5b O5c O5d
  have S_a := S_a.nx B5
  have H_a := H_a.st B5
  have S_b := S_b.nx B5
  have H_b := H_b.st B5
  have S_x := S_x.nx B5
  have H_x := H_x.st B5
  have S_y := S_y.nx B5
  have H_y := H_y.st B5
  have C0 := bt C0 B5
  have L5 := bal w5 (.cells #[.bool sr.s, .slice A5a sr.a.length c5a, .slice D5a sr.b.length d5a, .bool si.s, .slice A5b si.a.length c5b, .slice D5b si.b.length d5b] 26)
  have S_z := SB.new w5 [.bool sr.s, .slice A5a sr.a.length c5a, .slice D5a sr.b.length d5a, .bool si.s, .slice A5b si.a.length c5b, .slice D5b si.b.length d5b] 26
  have S_a := S_a.nx L5
  have H_a := H_a.st L5
  have S_b := S_b.nx L5
  have H_b := H_b.st L5
  have S_x := S_x.nx L5
  have H_x := H_x.st L5
  have S_y := S_y.nx L5
  have H_y := H_y.st L5
  have H_z := H_z.st L5
  have C0 := bt C0 L5
  go_wp2_with fail
  refine (awake4_any _).mono ?_; rintro e w6 ⟨rfl, B6⟩
  have S_a := S_a.nx B6
  have H_a := H_a.st B6
  have S_b := S_b.nx B6
  have H_b := H_b.st B6
  have S_x := S_x.nx B6
  have H_x := H_x.st B6
  have S_y := S_y.nx B6
  have H_y := H_y.st B6
  have S_z := S_z.nx B6
  have H_z := H_z.st B6
  have C0 := bt C0 B6
  have i0 := S_x.cell 0
  have i1 := S_x.cell 1
  have i2 := S_x.cell 2
  have i3 := S_x.cell 3
  have i4 := S_x.cell 4
  have i5 := S_x.cell 5
  have j0 := S_y.cell 0
  have j1 := S_y.cell 1
  have j2 := S_y.cell 2
  have j3 := S_y.cell 3
  have j4 := S_y.cell 4
  have j5 := S_y.cell 5
  go_wp2_with fail
  clear i0 i1 i2 i3 i4 i5
  clear j0 j1 j2 j3 j4 j5
  refine (o3 _ _ _ H_x H_y).mono ?_; rintro e w7 ⟨A7a, c7a, D7a, d7a, A7b, c7b, D7b, d7b, rfl, O7a, O7b, O7c, O7d, B7⟩
  try dsimp only at O7a O7b O7c O7d
  have H_l : VN w7 w7.heap.size (.agg #[.bool lr.s, .slice A7a lr.a.length c7a, .slice D7a lr.b.length d7a, .bool li.s, .slice A7b li.a.length c7b, .slice D7b li.b.length d7b]) lr li := ⟨A7a, c7a, D7a, d7a, A7b, c7b, D7b, d7b, rfl, O7a.rw, O7b.rw, O7c.rw, O7d.rw⟩
  clear O7a O7b O7c O7d
  have S_a := S_a.nx B7
  have H_a := H_a.st B7
  have S_b := S_b.nx B7
  have H_b := H_b.st B7
  have S_x := S_x.nx B7
  have H_x := H_x.st B7
  have S_y := S_y.nx B7
  have H_y := H_y.st B7
  have S_z := S_z.nx B7
  have H_z := H_z.st B7
  have C0 := bt C0 B7
  have L7 := bal w7 (.cells #[.bool lr.s, .slice A7a lr.a.length c7a, .slice D7a lr.b.length d7a, .bool li.s, .slice A7b li.a.length c7b, .slice D7b li.b.length d7b] 26)
  have S_l := SB.new w7 [.bool lr.s, .slice A7a lr.a.length c7a, .slice D7a lr.b.length d7a, .bool li.s, .slice A7b li.a.length c7b, .slice D7b li.b.length d7b] 26
  have S_a := S_a.nx L7
  have H_a := H_a.st L7
  have S_b := S_b.nx L7
  have H_b := H_b.st L7
  have S_x := S_x.nx L7
  have H_x := H_x.st L7
  have S_y := S_y.nx L7
  have H_y := H_y.st L7
  have S_z := S_z.nx L7
  have H_z := H_z.st L7
  have H_l := H_l.st L7
  have C0 := bt C0 L7
  have i0 := S_a.cell 0
  have i1 := S_a.cell 1
  have i2 := S_a.cell 2
  have i3 := S_a.cell 3
  have i4 := S_a.cell 4
  have i5 := S_a.cell 5
  have j0 := S_b.cell 0
  have j1 := S_b.cell 1
  have j2 := S_b.cell 2
  have j3 := S_b.cell 3
  have j4 := S_b.cell 4
  have j5 := S_b.cell 5
  go_wp2_with fail
  clear i0 i1 i2 i3 i4 i5
  clear j0 j1 j2 j3 j4 j5
  refine (o4 _ _ _ H_a H_b).mono ?_; rintro e w8 ⟨A8a, c8a, D8a, d8a, A8b, c8b, D8b, d8b, rfl, O8a, O8b, O8c, O8d, B8⟩
  try dsimp only at O8a O8b O8c O8d
  have H_r : VN w8 w8.heap.size (.agg #[.bool lr.s, .slice A8a lr.a.length c8a, .slice D8a lr.b.length d8a, .bool li.s, .slice A8b li.a.length c8b, .slice D8b li.b.length d8b]) lr li := ⟨A8a, c8a, D8a, d8a, A8b, c8b, D8b, d8b, rfl, O8a.rw, O8b.rw, O8c.rw, O8d.rw⟩
  clear O8a O8b O8c O8d
  have S_a := S_a.nx B8
  have H_a := H_a.st B8
  have S_b := S_b.nx B8
  have H_b := H_b.st B8
  have S_x := S_x.nx B8
  have H_x := H_x.st B8
  have S_y := S_y.nx B8
  have H_y := H_y.st B8
  have S_z := S_z.nx B8
  have H_z := H_z.st B8
  have S_l := S_l.nx B8
  have H_l := H_l.st B8
  have C0 := bt C0 B8
  have L8 := bal w8 (.cells #[.bool lr.s, .slice A8a lr.a.length c8a, .slice D8a lr.b.length d8a, .bool li.s, .slice A8b li.a.length c8b, .slice D8b li.b.length d8b] 26)
  have S_r := SB.new w8 [.bool lr.s, .slice A8a lr.a.length c8a, .slice D8a lr.b.length d8a, .bool li.s, .slice A8b li.a.length c8b, .slice D8b li.b.length d8b] 26
  have S_a := S_a.nx L8
  have H_a := H_a.st L8
  have S_b := S_b.nx L8
  have H_b := H_b.st L8
  have S_x := S_x.nx L8
  have H_x := H_x.st L8
  have S_y := S_y.nx L8
  have H_y := H_y.st L8
  have S_z := S_z.nx L8
  have H_z := H_z.st L8
  have S_l := S_l.nx L8
  have H_l := H_l.st L8
  have H_r := H_r.st L8
  have C0 := bt C0 L8
  have i0 := S_y.cell 0
  have i1 := S_y.cell 1
  have i2 := S_y.cell 2
  have i3 := S_y.cell 3
  have i4 := S_y.cell 4
  have i5 := S_y.cell 5
  have j0 := S_x.cell 0
  have j1 := S_x.cell 1
  have j2 := S_x.cell 2
  have j3 := S_x.cell 3
  have j4 := S_x.cell 4
  have j5 := S_x.cell 5
  go_wp2_with fail
  clear i0 i1 i2 i3 i4 i5
  clear j0 j1 j2 j3 j4 j5
  refine (o5 _ _ _ H_y H_x).mono ?_; rintro e w9 ⟨A9a, c9a, D9a, d9a, A9b, c9b, D9b, d9b, rfl, O9a, O9b, O9c, O9d, B9⟩
  try dsimp only at O9a O9b O9c O9d
  have H_d : VN w9 w9.heap.size (.agg #[.bool sr.s, .slice A9a sr.a.length c9a, .slice D9a sr.b.length d9a, .bool si.s, .slice A9b si.a.length c9b, .slice D9b si.b.length d9b]) sr si := ⟨A9a, c9a, D9a, d9a, A9b, c9b, D9b, d9b, rfl, O9a.rw, O9b.rw, O9c.rw, O9d.rw⟩
  clear O9a O9b O9c O9d
  have S_a := S_a.nx B9
  have H_a := H_a.st B9
  have S_b := S_b.nx B9
  have H_b := H_b.st B9
  have S_x := S_x.nx B9
  have H_x := H_x.st B9
  have S_y := S_y.nx B9
  have H_y := H_y.st B9
  have S_z := S_z.nx B9
  have H_z := H_z.st B9
  have S_l := S_l.nx B9
  have H_l := H_l.st B9
  have S_r := S_r.nx B9
  have H_r := H_r.st B9
  have C0 := bt C0 B9
  have L9 := bal w9 (.cells #[.bool sr.s, .slice A9a sr.a.length c9a, .slice D9a sr.b.length d9a, .bool si.s, .slice A9b si.a.length c9b, .slice D9b si.b.length d9b] 26)
  have S_d := SB.new w9 [.bool sr.s, .slice A9a sr.a.length c9a, .slice D9a sr.b.length d9a, .bool si.s, .slice A9b si.a.length c9b, .slice D9b si.b.length d9b] 26
  have S_a := S_a.nx L9
  have H_a := H_a.st L9
  have S_b := S_b.nx L9
  have H_b := H_b.st L9
  have S_x := S_x.nx L9
  have H_x := H_x.st L9
  have S_y := S_y.nx L9
  have H_y := H_y.st L9
  have S_z := S_z.nx L9
  have H_z := H_z.st L9
  have S_l := S_l.nx L9
  have H_l := H_l.st L9
  have S_r := S_r.nx L9
  have H_r := H_r.st L9
  have H_d := H_d.st L9
  have C0 := bt C0 L9
  have i0 := S_l.cell 0
  have i1 := S_l.cell 1
  have i2 := S_l.cell 2
  have i3 := S_l.cell 3
  have i4 := S_l.cell 4
  have i5 := S_l.cell 5
  have j0 := S_r.cell 0
  have j1 := S_r.cell 1
  have j2 := S_r.cell 2
  have j3 := S_r.cell 3
  have j4 := S_r.cell 4
  have j5 := S_r.cell 5
  go_wp2_with fail
  refine (l1 _ _ _ H_l H_r).mono ?_; rintro e w10 ⟨rfl, B10⟩
  have S_a := S_a.nx B10
  have H_a := H_a.st B10
  have S_b := S_b.nx B10
  have H_b := H_b.st B10
  have S_x := S_x.nx B10
  have H_x := H_x.st B10
  have S_y := S_y.nx B10
  have H_y := H_y.st B10
  have S_z := S_z.nx B10
  have H_z := H_z.st B10
  have S_l := S_l.nx B10
  have H_l := H_l.st B10
  have S_r := S_r.nx B10
  have H_r := H_r.st B10
  have S_d := S_d.nx B10
  have H_d := H_d.st B10
  have C0 := bt C0 B10
  clear i0 i1 i2 i3 i4 i5
  clear j0 j1 j2 j3 j4 j5
  have i0 := S_d.cell 0
  have i1 := S_d.cell 1
  have i2 := S_d.cell 2
  have i3 := S_d.cell 3
  have i4 := S_d.cell 4
  have i5 := S_d.cell 5
  have j0 := S_z.cell 0
  have j1 := S_z.cell 1
  have j2 := S_z.cell 2
  have j3 := S_z.cell 3
  have j4 := S_z.cell 4
  have j5 := S_z.cell 5
  go_wp2_with fail
  refine (l0 _ _ _ H_d H_z).mono ?_; rintro e w11 ⟨rfl, B11⟩
  have S_a := S_a.nx B11
  have H_a := H_a.st B11
  have S_b := S_b.nx B11
  have H_b := H_b.st B11
  have S_x := S_x.nx B11
  have H_x := H_x.st B11
  have S_y := S_y.nx B11
  have H_y := H_y.st B11
  have S_z := S_z.nx B11
  have H_z := H_z.st B11
  have S_l := S_l.nx B11
  have H_l := H_l.st B11
  have S_r := S_r.nx B11
  have H_r := H_r.st B11
  have S_d := S_d.nx B11
  have H_d := H_d.st B11
  have C0 := bt C0 B11
  clear i0 i1 i2 i3 i4 i5
  clear j0 j1 j2 j3 j4 j5
  have i0 := S_a.cell 0
  have i1 := S_a.cell 1
  have i2 := S_a.cell 2
  have i3 := S_a.cell 3
  have i4 := S_a.cell 4
  have i5 := S_a.cell 5
  go_wp2_with fail
  clear i0 i1 i2 i3 i4 i5
  refine (o6 _ _ H_a).mono ?_; rintro e w12 ⟨A12a, c12a, D12a, d12a, A12b, c12b, D12b, d12b, rfl, O12a, O12b, O12c, O12d, B12⟩
  try dsimp only at O12a O12b O12c O12d
  have H_na : VN w12 w12.heap.size (.agg #[.bool nar.s, .slice A12a nar.a.length c12a, .slice D12a nar.b.length d12a, .bool nai.s, .slice A12b nai.a.length c12b, .slice D12b nai.b.length d12b]) nar nai := ⟨A12a, c12a, D12a, d12a, A12b, c12b, D12b, d12b, rfl, O12a.rw, O12b.rw, O12c.rw, O12d.rw⟩
  clear O12a O12b O12c O12d
  have S_a := S_a.nx B12
  have H_a := H_a.st B12
  have S_b := S_b.nx B12
  have H_b := H_b.st B12
  have S_x := S_x.nx B12
  have H_x := H_x.st B12
  have S_y := S_y.nx B12
  have H_y := H_y.st B12
  have S_z := S_z.nx B12
  have H_z := H_z.st B12
  have S_l := S_l.nx B12
  have H_l := H_l.st B12
  have S_r := S_r.nx B12
  have H_r := H_r.st B12
  have S_d := S_d.nx B12
  have H_d := H_d.st B12
  have C0 := bt C0 B12
  have L12 := bal w12 (.cells #[.bool nar.s, .slice A12a nar.a.length c12a, .slice D12a nar.b.length d12a, .bool nai.s, .slice A12b nai.a.length c12b, .slice D12b nai.b.length d12b] 26)
  have S_na := SB.new w12 [.bool nar.s, .slice A12a nar.a.length c12a, .slice D12a nar.b.length d12a, .bool nai.s, .slice A12b nai.a.length c12b, .slice D12b nai.b.length d12b] 26
  have S_a := S_a.nx L12
  have H_a := H_a.st L12
  have S_b := S_b.nx L12
  have H_b := H_b.st L12
  have S_x := S_x.nx L12
  have H_x := H_x.st L12
  have S_y := S_y.nx L12
  have H_y := H_y.st L12
  have S_z := S_z.nx L12
  have H_z := H_z.st L12
  have S_l := S_l.nx L12
  have H_l := H_l.st L12
  have S_r := S_r.nx L12
  have H_r := H_r.st L12
  have S_d := S_d.nx L12
  have H_d := H_d.st L12
  have H_na := H_na.st L12
  have C0 := bt C0 L12
  have i0 := S_b.cell 0
  have i1 := S_b.cell 1
  have i2 := S_b.cell 2
  have i3 := S_b.cell 3
  have i4 := S_b.cell 4
  have i5 := S_b.cell 5
  go_wp2_with fail
  clear i0 i1 i2 i3 i4 i5
  refine (o7 _ _ H_b).mono ?_; rintro e w13 ⟨A13a, c13a, D13a, d13a, A13b, c13b, D13b, d13b, rfl, O13a, O13b, O13c, O13d, B13⟩
  try dsimp only at O13a O13b O13c O13d
  have H_nb : VN w13 w13.heap.size (.agg #[.bool nbr.s, .slice A13a nbr.a.length c13a, .slice D13a nbr.b.length d13a, .bool nbi.s, .slice A13b nbi.a.length c13b, .slice D13b nbi.b.length d13b]) nbr nbi := ⟨A13a, c13a, D13a, d13a, A13b, c13b, D13b, d13b, rfl, O13a.rw, O13b.rw, O13c.rw, O13d.rw⟩
  clear O13a O13b O13c O13d
  have S_a := S_a.nx B13
  have H_a := H_a.st B13
  have S_b := S_b.nx B13
  have H_b := H_b.st B13
  have S_x := S_x.nx B13
  have H_x := H_x.st B13
  have S_y := S_y.nx B13
  have H_y := H_y.st B13
  have S_z := S_z.nx B13
  have H_z := H_z.st B13
  have S_l := S_l.nx B13
  have H_l := H_l.st B13
  have S_r := S_r.nx B13
  have H_r := H_r.st B13
  have S_d := S_d.nx B13
  have H_d := H_d.st B13
  have S_na := S_na.nx B13
  have H_na := H_na.st B13
  have C0 := bt C0 B13
  have L13 := bal w13 (.cells #[.bool nbr.s, .slice A13a nbr.a.length c13a, .slice D13a nbr.b.length d13a, .bool nbi.s, .slice A13b nbi.a.length c13b, .slice D13b nbi.b.length d13b] 26)
  have S_nb := SB.new w13 [.bool nbr.s, .slice A13a nbr.a.length c13a, .slice D13a nbr.b.length d13a, .bool nbi.s, .slice A13b nbi.a.length c13b, .slice D13b nbi.b.length d13b] 26
  have S_a := S_a.nx L13
  have H_a := H_a.st L13
  have S_b := S_b.nx L13
  have H_b := H_b.st L13
  have S_x := S_x.nx L13
  have H_x := H_x.st L13
  have S_y := S_y.nx L13
  have H_y := H_y.st L13
  have S_z := S_z.nx L13
  have H_z := H_z.st L13
  have S_l := S_l.nx L13
  have H_l := H_l.st L13
  have S_r := S_r.nx L13
  have H_r := H_r.st L13
  have S_d := S_d.nx L13
  have H_d := H_d.st L13
  have S_na := S_na.nx L13
  have H_na := H_na.st L13
  have H_nb := H_nb.st L13
  have C0 := bt C0 L13
  have i0 := S_na.cell 0
  have i1 := S_na.cell 1
  have i2 := S_na.cell 2
  have i3 := S_na.cell 3
  have i4 := S_na.cell 4
  have i5 := S_na.cell 5
  go_wp2_with fail
  clear i0 i1 i2 i3 i4 i5
  refine (o8 _ _ H_na).mono ?_; rintro e w14 ⟨A14a, c14a, D14a, d14a, A14b, c14b, D14b, d14b, rfl, O14a, O14b, O14c, O14d, B14⟩
  try dsimp only at O14a O14b O14c O14d
  have H_nn : VN w14 w14.heap.size (.agg #[.bool nnr.s, .slice A14a nnr.a.length c14a, .slice D14a nnr.b.length d14a, .bool nni.s, .slice A14b nni.a.length c14b, .slice D14b nni.b.length d14b]) nnr nni := ⟨A14a, c14a, D14a, d14a, A14b, c14b, D14b, d14b, rfl, O14a.rw, O14b.rw, O14c.rw, O14d.rw⟩
  clear O14a O14b O14c O14d
  have S_a := S_a.nx B14
  have H_a := H_a.st B14
  have S_b := S_b.nx B14
  have H_b := H_b.st B14
  have S_x := S_x.nx B14
  have H_x := H_x.st B14
  have S_y := S_y.nx B14
  have H_y := H_y.st B14
  have S_z := S_z.nx B14
  have H_z := H_z.st B14
  have S_l := S_l.nx B14
  have H_l := H_l.st B14
  have S_r := S_r.nx B14
  have H_r := H_r.st B14
  have S_d := S_d.nx B14
  have H_d := H_d.st B14
  have S_na := S_na.nx B14
  have H_na := H_na.st B14
  have S_nb := S_nb.nx B14
  have H_nb := H_nb.st B14
  have C0 := bt C0 B14
  have L14 := bal w14 (.cells #[.bool nnr.s, .slice A14a nnr.a.length c14a, .slice D14a nnr.b.length d14a, .bool nni.s, .slice A14b nni.a.length c14b, .slice D14b nni.b.length d14b] 26)
  have S_nn := SB.new w14 [.bool nnr.s, .slice A14a nnr.a.length c14a, .slice D14a nnr.b.length d14a, .bool nni.s, .slice A14b nni.a.length c14b, .slice D14b nni.b.length d14b] 26
  have S_a := S_a.nx L14
  have H_a := H_a.st L14
  have S_b := S_b.nx L14
  have H_b := H_b.st L14
  have S_x := S_x.nx L14
  have H_x := H_x.st L14
  have S_y := S_y.nx L14
  have H_y := H_y.st L14
  have S_z := S_z.nx L14
  have H_z := H_z.st L14
  have S_l := S_l.nx L14
  have H_l := H_l.st L14
  have S_r := S_r.nx L14
  have H_r := H_r.st L14
  have S_d := S_d.nx L14
  have H_d := H_d.st L14
  have S_na := S_na.nx L14
  have H_na := H_na.st L14
  have S_nb := S_nb.nx L14
  have H_nb := H_nb.st L14
  have H_nn := H_nn.st L14
  have C0 := bt C0 L14
  have i0 := S_na.cell 0
  have i1 := S_na.cell 1
  have i2 := S_na.cell 2
  have i3 := S_na.cell 3
  have i4 := S_na.cell 4
  have i5 := S_na.cell 5
  have j0 := S_nb.cell 0
  have j1 := S_nb.cell 1
  have j2 := S_nb.cell 2
  have j3 := S_nb.cell 3
  have j4 := S_nb.cell 4
  have j5 := S_nb.cell 5
  go_wp2_with fail
  clear i0 i1 i2 i3 i4 i5
  clear j0 j1 j2 j3 j4 j5
  refine (o9 _ _ _ H_na H_nb).mono ?_; rintro e w15 ⟨A15a, c15a, D15a, d15a, A15b, c15b, D15b, d15b, rfl, O15a, O15b, O15c, O15d, B15⟩
  try dsimp only at O15a O15b O15c O15d
  have H_bo : VN w15 w15.heap.size (.agg #[.bool br.s, .slice A15a br.a.length c15a, .slice D15a br.b.length d15a, .bool bi.s, .slice A15b bi.a.length c15b, .slice D15b bi.b.length d15b]) br bi := ⟨A15a, c15a, D15a, d15a, A15b, c15b, D15b, d15b, rfl, O15a.rw, O15b.rw, O15c.rw, O15d.rw⟩
  clear O15a O15b O15c O15d
  have S_a := S_a.nx B15
  have H_a := H_a.st B15
  have S_b := S_b.nx B15
  have H_b := H_b.st B15
  have S_x := S_x.nx B15
  have H_x := H_x.st B15
  have S_y := S_y.nx B15
  have H_y := H_y.st B15
  have S_z := S_z.nx B15
  have H_z := H_z.st B15
  have S_l := S_l.nx B15
  have H_l := H_l.st B15
  have S_r := S_r.nx B15
  have H_r := H_r.st B15
  have S_d := S_d.nx B15
  have H_d := H_d.st B15
  have S_na := S_na.nx B15
  have H_na := H_na.st B15
  have S_nb := S_nb.nx B15
  have H_nb := H_nb.st B15
  have S_nn := S_nn.nx B15
  have H_nn := H_nn.st B15
  have C0 := bt C0 B15
  have L15 := bal w15 (.cells #[.bool br.s, .slice A15a br.a.length c15a, .slice D15a br.b.length d15a, .bool bi.s, .slice A15b bi.a.length c15b, .slice D15b bi.b.length d15b] 26)
  have S_bo := SB.new w15 [.bool br.s, .slice A15a br.a.length c15a, .slice D15a br.b.length d15a, .bool bi.s, .slice A15b bi.a.length c15b, .slice D15b bi.b.length d15b] 26
  have S_a := S_a.nx L15
  have H_a := H_a.st L15
  have S_b := S_b.nx L15
  have H_b := H_b.st L15
  have S_x := S_x.nx L15
  have H_x := H_x.st L15
  have S_y := S_y.nx L15
  have H_y := H_y.st L15
  have S_z := S_z.nx L15
  have H_z := H_z.st L15
  have S_l := S_l.nx L15
  have H_l := H_l.st L15
  have S_r := S_r.nx L15
  have H_r := H_r.st L15
  have S_d := S_d.nx L15
  have H_d := H_d.st L15
  have S_na := S_na.nx L15
  have H_na := H_na.st L15
  have S_nb := S_nb.nx L15
  have H_nb := H_nb.st L15
  have S_nn := S_nn.nx L15
  have H_nn := H_nn.st L15
  have H_bo := H_bo.st L15
  have C0 := bt C0 L15
  have i0 := S_x.cell 0
  have i1 := S_x.cell 1
  have i2 := S_x.cell 2
  have i3 := S_x.cell 3
  have i4 := S_x.cell 4
  have i5 := S_x.cell 5
  go_wp2_with fail
  clear i0 i1 i2 i3 i4 i5
  refine (o10 _ _ H_x).mono ?_; rintro e w16 ⟨A16a, c16a, D16a, d16a, A16b, c16b, D16b, d16b, rfl, O16a, O16b, O16c, O16d, B16⟩
  try dsimp only at O16a O16b O16c O16d
  have H_no : VN w16 w16.heap.size (.agg #[.bool nr.s, .slice A16a nr.a.length c16a, .slice D16a nr.b.length d16a, .bool ni.s, .slice A16b ni.a.length c16b, .slice D16b ni.b.length d16b]) nr ni := ⟨A16a, c16a, D16a, d16a, A16b, c16b, D16b, d16b, rfl, O16a.rw, O16b.rw, O16c.rw, O16d.rw⟩
  clear O16a O16b O16c O16d
  have S_a := S_a.nx B16
  have H_a := H_a.st B16
  have S_b := S_b.nx B16
  have H_b := H_b.st B16
  have S_x := S_x.nx B16
  have H_x := H_x.st B16
  have S_y := S_y.nx B16
  have H_y := H_y.st B16
  have S_z := S_z.nx B16
  have H_z := H_z.st B16
  have S_l := S_l.nx B16
  have H_l := H_l.st B16
  have S_r := S_r.nx B16
  have H_r := H_r.st B16
  have S_d := S_d.nx B16
  have H_d := H_d.st B16
  have S_na := S_na.nx B16
  have H_na := H_na.st B16
  have S_nb := S_nb.nx B16
  have H_nb := H_nb.st B16
  have S_nn := S_nn.nx B16
  have H_nn := H_nn.st B16
  have S_bo := S_bo.nx B16
  have H_bo := H_bo.st B16
  have C0 := bt C0 B16
  have L16 := bal w16 (.cells #[.bool nr.s, .slice A16a nr.a.length c16a, .slice D16a nr.b.length d16a, .bool ni.s, .slice A16b ni.a.length c16b, .slice D16b ni.b.length d16b] 26)
  have S_no := SB.new w16 [.bool nr.s, .slice A16a nr.a.length c16a, .slice D16a nr.b.length d16a, .bool ni.s, .slice A16b ni.a.length c16b, .slice D16b ni.b.length d16b] 26
  have S_a := S_a.nx L16
  have H_a := H_a.st L16
  have S_b := S_b.nx L16
  have H_b := H_b.st L16
  have S_x := S_x.nx L16
  have H_x := H_x.st L16
  have S_y := S_y.nx L16
  have H_y := H_y.st L16
  have S_z := S_z.nx L16
  have H_z := H_z.st L16
  have S_l := S_l.nx L16
  have H_l := H_l.st L16
  have S_r := S_r.nx L16
  have H_r := H_r.st L16
  have S_d := S_d.nx L16
  have H_d := H_d.st L16
  have S_na := S_na.nx L16
  have H_na := H_na.st L16
  have S_nb := S_nb.nx L16
  have H_nb := H_nb.st L16
  have S_nn := S_nn.nx L16
  have H_nn := H_nn.st L16
  have S_bo := S_bo.nx L16
  have H_bo := H_bo.st L16
  have H_no := H_no.st L16
  have C0 := bt C0 L16
  go_wp2_with fail
  go_ret
  exact ⟨rfl, C0⟩
set_option maxRecDepth 100000 in
set_option maxHeartbeats 16000000 in
theorem bitsLaws_good01 (V : Value) (ra ia : Rw) (U : Value) (rb ib : Rw) (w : World) (hV : VN w w.heap.size V ra ia) (hU : VN w w.heap.size U rb ib) (mr mi dr di sr si : Rw) (mk dk sk : Int) (em : qbothA (· &&& ·) ra ia rb ib = (mr, mi, mk)) (ed : qbothA (· ||| ·) ra ia rb ib = (dr, di, dk)) (es : qbothA (· ^^^ ·) ra ia rb ib = (sr, si, sk)) (hm : mk = 0) (hd : dk = 0) (hs : sk = 0) (lr li : Rw) (lk : Int) (el : qaddA ra ia rb ib = (lr, li, lk)) (hl : lk = 0)
    (nar nai nbr nbi nnr nni br bi nr ni : Rw) (nak nbk nnk hk ik : Int) (ena : qnotA ra ia = (nar, nai, nak)) (enb : qnotA rb ib = (nbr, nbi, nbk)) (enn : qnotA nar nai = (nnr, nni, nnk)) (ebo : qbothA (· ||| ·) nar nai nbr nbi = (br, bi, hk)) (eno : qnotA mr mi = (nr, ni, ik)) (hq : nak = 0 ∧ nbk ≠ 0) : Calls Try.prog 6 #[V, U] w fun e w' => e = .returned (.bool true) ∧ Below w.heap.size w w' := by
  subst hm hd hs
  have o0 := fun V U w' h1 h2 => band_any V U ra ia rb ib w' h1 h2
  have o1 := fun V U w' h1 h2 => bor_any V U ra ia rb ib w' h1 h2
  have o2 := fun V U w' h1 h2 => bxor_any V U ra ia rb ib w' h1 h2
  rw [em] at o0
  rw [ed] at o1
  rw [es] at o2
  obtain ⟨g1, g2, g3, g4, g5, g6, g7⟩ := laws_good em ed es
  have o3 := fun V U w' h1 h2 => eadd_any (V := V) (U := U) (r := mr) (i := mi) (r' := dr) (i' := di) (w := w') h1 h2
  have o4 := fun V U w' h1 h2 => eadd_any (V := V) (U := U) (r := ra) (i := ia) (r' := rb) (i' := ib) (w := w') h1 h2
  have o5 := fun V U w' h1 h2 => esub_any (V := V) (U := U) (r := dr) (i := di) (r' := mr) (i' := mi) (w := w') h1 h2
  have o6 := fun V w' h1 => bnot_any V ra ia w' h1
  have o7 := fun V w' h1 => bnot_any V rb ib w' h1
  have o8 := fun V w' h1 => bnot_any V nar nai w' h1
  have o9 := fun V U w' h1 h2 => bor_any V U nar nai nbr nbi w' h1 h2
  have o10 := fun V w' h1 => bnot_any V mr mi w' h1
  rw [g1, el] at o3
  rw [el] at o4
  rw [g2] at o5
  rw [qboth_not, ena] at o6
  rw [qboth_not, enb] at o7
  rw [qboth_not, enn] at o8
  rw [ebo] at o9
  rw [qboth_not, eno] at o10
  have l0 := fun V U w' h1 h2 => esame_any V U sr si sr si w' h1 h2
  rw [g3] at l0
  subst hl
  have l1 := fun V U w' h1 h2 => esame_any V U lr li lr li w' h1 h2
  rw [g5 lr li el] at l1
  obtain ⟨q1, q2⟩ := hq
  subst q1
  have n5 : (nbk != 0) = true := bne_iff_ne.2 q2
  clear g1 g2 g3 g4 g5 g6 g7 em ed es el ena enb enn ebo eno q2
  obtain ⟨A1, c1, D1, d1, A2, c2, D2, d2, rfl, p1, p2, p3, p4⟩ := hV
  obtain ⟨A3, c3, D3, d3, A4, c4, D4, d4, rfl, p5, p6, p7, p8⟩ := hU
  obtain ⟨S_a, S_b, C0⟩ := T2.new w [.bool ra.s, .slice A1 ra.a.length c1, .slice D1 ra.b.length d1, .bool ia.s, .slice A2 ia.a.length c2, .slice D2 ia.b.length d2] [.bool rb.s, .slice A3 rb.a.length c3, .slice D3 rb.b.length d3, .bool ib.s, .slice A4 ib.a.length c4, .slice D4 ib.b.length d4] 26 26
  have H_a : VN w w.heap.size (.agg #[.bool ra.s, .slice A1 ra.a.length c1, .slice D1 ra.b.length d1, .bool ia.s, .slice A2 ia.a.length c2, .slice D2 ia.b.length d2]) ra ia := ⟨A1, c1, D1, d1, A2, c2, D2, d2, rfl, p1, p2, p3, p4⟩
  have H_a := H_a.st C0
  have H_b : VN w w.heap.size (.agg #[.bool rb.s, .slice A3 rb.a.length c3, .slice D3 rb.b.length d3, .bool ib.s, .slice A4 ib.a.length c4, .slice D4 ib.b.length d4]) rb ib := ⟨A3, c3, D3, d3, A4, c4, D4, d4, rfl, p5, p6, p7, p8⟩
  have H_b := H_b.st C0
  clear p1 p2 p3 p4 p5 p6 p7 p8
  obtain ⟨W0, hW0⟩ : ∃ W0, W0 = (w.alloc (.cells #[.bool ra.s, .slice A1 ra.a.length c1, .slice D1 ra.b.length d1, .bool ia.s, .slice A2 ia.a.length c2, .slice D2 ia.b.length d2] 26)).alloc (.cells #[.bool rb.s, .slice A3 rb.a.length c3, .slice D3 rb.b.length d3, .bool ib.s, .slice A4 ib.a.length c4, .slice D4 ib.b.length d4] 26) := ⟨_, rfl⟩
  go_enter Try.func6, Try.ntmps6
  have i0 := S_a.cell 0
  have i1 := S_a.cell 1
  have i2 := S_a.cell 2
  have i3 := S_a.cell 3
  have i4 := S_a.cell 4
  have i5 := S_a.cell 5
  have j0 := S_b.cell 0
  have j1 := S_b.cell 1
  have j2 := S_b.cell 2
  have j3 := S_b.cell 3
  have j4 := S_b.cell 4
  have j5 := S_b.cell 5
  go_wp2_with fail
  rw [← hW0] at S_a S_b C0 H_a H_b ⊢
  clear hW0
  clear i0 i1 i2 i3 i4 i5
  clear j0 j1 j2 j3 j4 j5
  refine (o0 _ _ _ H_a H_b).mono ?_; rintro e w3 ⟨A3a, c3a, D3a, d3a, A3b, c3b, D3b, d3b, rfl, O3a, O3b, O3c, O3d, B3⟩
  try dsimp only at O3a O3b O3c O3d
  have H_x : VN w3 w3.heap.size (.agg #[.bool mr.s, .slice A3a mr.a.length c3a, .slice D3a mr.b.length d3a, .bool mi.s, .slice A3b mi.a.length c3b, .slice D3b mi.b.length d3b]) mr mi := ⟨A3a, c3a, D3a, d3a, A3b, c3b, D3b, d3b, rfl, O3a.rw, O3b.rw, O3c.rw, O3d.rw⟩
  clear O3a O3b O3c O3d
  have S_a := S_a.nx B3
  have H_a := H_a.st B3
  have S_b := S_b.nx B3
  have H_b := H_b.st B3
  have C0 := bt C0 B3
  have L3 := bal w3 (.cells #[.bool mr.s, .slice A3a mr.a.length c3a, .slice D3a mr.b.length d3a, .bool mi.s, .slice A3b mi.a.length c3b, .slice D3b mi.b.length d3b] 26)
  have S_x := SB.new w3 [.bool mr.s, .slice A3a mr.a.length c3a, .slice D3a mr.b.length d3a, .bool mi.s, .slice A3b mi.a.length c3b, .slice D3b mi.b.length d3b] 26
  have S_a := S_a.nx L3
  have H_a := H_a.st L3
  have S_b := S_b.nx L3
  have H_b := H_b.st L3
  have H_x := H_x.st L3
  have C0 := bt C0 L3
  have i0 := S_a.cell 0
  have i1 := S_a.cell 1
  have i2 := S_a.cell 2
  have i3 := S_a.cell 3
  have i4 := S_a.cell 4
  have i5 := S_a.cell 5
  have j0 := S_b.cell 0
  have j1 := S_b.cell 1
  have j2 := S_b.cell 2
  have j3 := S_b.cell 3
  have j4 := S_b.cell 4
  have j5 := S_b.cell 5
  go_wp2_with fail
  clear i0 i1 i2 i3 i4 i5
  clear j0 j1 j2 j3 j4 j5
  refine (o1 _ _ _ H_a H_b).mono ?_; rintro e w4 ⟨A4a, c4a, D4a, d4a, A4b, c4b, D4b, d4b, rfl, O4a, O4b, O4c, O4d, B4⟩
  try dsimp only at O4a O4b O4c O4d
  have H_y : VN w4 w4.heap.size (.agg #[.bool dr.s, .slice A4a dr.a.length c4a, .slice D4a dr.b.length d4a, .bool di.s, .slice A4b di.a.length c4b, .slice D4b di.b.length d4b]) dr di := ⟨A4a, c4a, D4a, d4a, A4b, c4b, D4b, d4b, rfl, O4a.rw, O4b.rw, O4c.rw, O4d.rw⟩
  clear O4a O4b O4c O4d
  have S_a := S_a.nx B4
  have H_a := H_a.st B4
  have S_b := S_b.nx B4
  have H_b := H_b.st B4
  have S_x := S_x.nx B4
  have H_x := H_x.st B4
  have C0 := bt C0 B4
  have L4 := bal w4 (.cells #[.bool dr.s, .slice A4a dr.a.length c4a, .slice D4a dr.b.length d4a, .bool di.s, .slice A4b di.a.length c4b, .slice D4b di.b.length d4b] 26)
  have S_y := SB.new w4 [.bool dr.s, .slice A4a dr.a.length c4a, .slice D4a dr.b.length d4a, .bool di.s, .slice A4b di.a.length c4b, .slice D4b di.b.length d4b] 26
  have S_a := S_a.nx L4
  have H_a := H_a.st L4
  have S_b := S_b.nx L4
  have H_b := H_b.st L4
  have S_x := S_x.nx L4
  have H_x := H_x.st L4
  have H_y := H_y.st L4
  have C0 := bt C0 L4
  have i0 := S_a.cell 0
  have i1 := S_a.cell 1
  have i2 := S_a.cell 2
  have i3 := S_a.cell 3
  have i4 := S_a.cell 4
  have i5 := S_a.cell 5
  have j0 := S_b.cell 0
  have j1 := S_b.cell 1
  have j2 := S_b.cell 2
  have j3 := S_b.cell 3
  have j4 := S_b.cell 4
  have j5 := S_b.cell 5
  go_wp2_with fail
  clear i0 i1 i2 i3 i4 i5
  clear j0 j1 j2 j3 j4 j5
  refine (o2 _ _ _ H_a H_b).mono ?_; rintro e w5 ⟨A5a, c5a, D5a, d5a, A5b, c5b, D5b, d5b, rfl, O5a, O5b, O5c, O5d, B5⟩
  try dsimp only at O5a O5b O5c O5d
  have H_z : VN w5 w5.heap.size (.agg #[.bool sr.s, .slice A5a sr.a.length c5a, .slice D5a sr.b.length d5a, .bool si.s, .slice A5b si.a.length c5b, .slice D5b si.b.length d5b]) sr si := ⟨A5a, c5a, D5a, d5a, A5b, c5b, D5b, d5b, rfl, O5a.rw, O5b.rw, O5c.rw, O5d.rw⟩
  clear O5a O5b O5c O5d
  have S_a := S_a.nx B5
  have H_a := H_a.st B5
  have S_b := S_b.nx B5
  have H_b := H_b.st B5
  have S_x := S_x.nx B5
  have H_x := H_x.st B5
  have S_y := S_y.nx B5
  have H_y := H_y.st B5
  have C0 := bt C0 B5
  have L5 := bal w5 (.cells #[.bool sr.s, .slice A5a sr.a.length c5a, .slice D5a sr.b.length d5a, .bool si.s, .slice A5b si.a.length c5b, .slice D5b si.b.length d5b] 26)
  have S_z := SB.new w5 [.bool sr.s, .slice A5a sr.a.length c5a, .slice D5a sr.b.length d5a, .bool si.s, .slice A5b si.a.length c5b, .slice D5b si.b.length d5b] 26
  have S_a := S_a.nx L5
  have H_a := H_a.st L5
  have S_b := S_b.nx L5
  have H_b := H_b.st L5
  have S_x := S_x.nx L5
  have H_x := H_x.st L5
  have S_y := S_y.nx L5
  have H_y := H_y.st L5
  have H_z := H_z.st L5
  have C0 := bt C0 L5
  go_wp2_with fail
  refine (awake4_any _).mono ?_; rintro e w6 ⟨rfl, B6⟩
  have S_a := S_a.nx B6
  have H_a := H_a.st B6
  have S_b := S_b.nx B6
  have H_b := H_b.st B6
  have S_x := S_x.nx B6
  have H_x := H_x.st B6
  have S_y := S_y.nx B6
  have H_y := H_y.st B6
  have S_z := S_z.nx B6
  have H_z := H_z.st B6
  have C0 := bt C0 B6
  have i0 := S_x.cell 0
  have i1 := S_x.cell 1
  have i2 := S_x.cell 2
  have i3 := S_x.cell 3
  have i4 := S_x.cell 4
  have i5 := S_x.cell 5
  have j0 := S_y.cell 0
  have j1 := S_y.cell 1
  have j2 := S_y.cell 2
  have j3 := S_y.cell 3
  have j4 := S_y.cell 4
  have j5 := S_y.cell 5
  go_wp2_with fail
  clear i0 i1 i2 i3 i4 i5
  clear j0 j1 j2 j3 j4 j5
  refine (o3 _ _ _ H_x H_y).mono ?_; rintro e w7 ⟨A7a, c7a, D7a, d7a, A7b, c7b, D7b, d7b, rfl, O7a, O7b, O7c, O7d, B7⟩
  try dsimp only at O7a O7b O7c O7d
  have H_l : VN w7 w7.heap.size (.agg #[.bool lr.s, .slice A7a lr.a.length c7a, .slice D7a lr.b.length d7a, .bool li.s, .slice A7b li.a.length c7b, .slice D7b li.b.length d7b]) lr li := ⟨A7a, c7a, D7a, d7a, A7b, c7b, D7b, d7b, rfl, O7a.rw, O7b.rw, O7c.rw, O7d.rw⟩
  clear O7a O7b O7c O7d
  have S_a := S_a.nx B7
  have H_a := H_a.st B7
  have S_b := S_b.nx B7
  have H_b := H_b.st B7
  have S_x := S_x.nx B7
  have H_x := H_x.st B7
  have S_y := S_y.nx B7
  have H_y := H_y.st B7
  have S_z := S_z.nx B7
  have H_z := H_z.st B7
  have C0 := bt C0 B7
  have L7 := bal w7 (.cells #[.bool lr.s, .slice A7a lr.a.length c7a, .slice D7a lr.b.length d7a, .bool li.s, .slice A7b li.a.length c7b, .slice D7b li.b.length d7b] 26)
  have S_l := SB.new w7 [.bool lr.s, .slice A7a lr.a.length c7a, .slice D7a lr.b.length d7a, .bool li.s, .slice A7b li.a.length c7b, .slice D7b li.b.length d7b] 26
  have S_a := S_a.nx L7
  have H_a := H_a.st L7
  have S_b := S_b.nx L7
  have H_b := H_b.st L7
  have S_x := S_x.nx L7
  have H_x := H_x.st L7
  have S_y := S_y.nx L7
  have H_y := H_y.st L7
  have S_z := S_z.nx L7
  have H_z := H_z.st L7
  have H_l := H_l.st L7
  have C0 := bt C0 L7
  have i0 := S_a.cell 0
  have i1 := S_a.cell 1
  have i2 := S_a.cell 2
  have i3 := S_a.cell 3
  have i4 := S_a.cell 4
  have i5 := S_a.cell 5
  have j0 := S_b.cell 0
  have j1 := S_b.cell 1
  have j2 := S_b.cell 2
  have j3 := S_b.cell 3
  have j4 := S_b.cell 4
  have j5 := S_b.cell 5
  go_wp2_with fail
  clear i0 i1 i2 i3 i4 i5
  clear j0 j1 j2 j3 j4 j5
  refine (o4 _ _ _ H_a H_b).mono ?_; rintro e w8 ⟨A8a, c8a, D8a, d8a, A8b, c8b, D8b, d8b, rfl, O8a, O8b, O8c, O8d, B8⟩
  try dsimp only at O8a O8b O8c O8d
  have H_r : VN w8 w8.heap.size (.agg #[.bool lr.s, .slice A8a lr.a.length c8a, .slice D8a lr.b.length d8a, .bool li.s, .slice A8b li.a.length c8b, .slice D8b li.b.length d8b]) lr li := ⟨A8a, c8a, D8a, d8a, A8b, c8b, D8b, d8b, rfl, O8a.rw, O8b.rw, O8c.rw, O8d.rw⟩
  clear O8a O8b O8c O8d
  have S_a := S_a.nx B8
  have H_a := H_a.st B8
  have S_b := S_b.nx B8
  have H_b := H_b.st B8
  have S_x := S_x.nx B8
  have H_x := H_x.st B8
  have S_y := S_y.nx B8
  have H_y := H_y.st B8
  have S_z := S_z.nx B8
  have H_z := H_z.st B8
  have S_l := S_l.nx B8
  have H_l := H_l.st B8
  have C0 := bt C0 B8
  have L8 := bal w8 (.cells #[.bool lr.s, .slice A8a lr.a.length c8a, .slice D8a lr.b.length d8a, .bool li.s, .slice A8b li.a.length c8b, .slice D8b li.b.length d8b] 26)
  have S_r := SB.new w8 [.bool lr.s, .slice A8a lr.a.length c8a, .slice D8a lr.b.length d8a, .bool li.s, .slice A8b li.a.length c8b, .slice D8b li.b.length d8b] 26
  have S_a := S_a.nx L8
  have H_a := H_a.st L8
  have S_b := S_b.nx L8
  have H_b := H_b.st L8
  have S_x := S_x.nx L8
  have H_x := H_x.st L8
  have S_y := S_y.nx L8
  have H_y := H_y.st L8
  have S_z := S_z.nx L8
  have H_z := H_z.st L8
  have S_l := S_l.nx L8
  have H_l := H_l.st L8
  have H_r := H_r.st L8
  have C0 := bt C0 L8
  have i0 := S_y.cell 0
  have i1 := S_y.cell 1
  have i2 := S_y.cell 2
  have i3 := S_y.cell 3
  have i4 := S_y.cell 4
  have i5 := S_y.cell 5
  have j0 := S_x.cell 0
  have j1 := S_x.cell 1
  have j2 := S_x.cell 2
  have j3 := S_x.cell 3
  have j4 := S_x.cell 4
  have j5 := S_x.cell 5
  go_wp2_with fail
  clear i0 i1 i2 i3 i4 i5
  clear j0 j1 j2 j3 j4 j5
  refine (o5 _ _ _ H_y H_x).mono ?_; rintro e w9 ⟨A9a, c9a, D9a, d9a, A9b, c9b, D9b, d9b, rfl, O9a, O9b, O9c, O9d, B9⟩
  try dsimp only at O9a O9b O9c O9d
  have H_d : VN w9 w9.heap.size (.agg #[.bool sr.s, .slice A9a sr.a.length c9a, .slice D9a sr.b.length d9a, .bool si.s, .slice A9b si.a.length c9b, .slice D9b si.b.length d9b]) sr si := ⟨A9a, c9a, D9a, d9a, A9b, c9b, D9b, d9b, rfl, O9a.rw, O9b.rw, O9c.rw, O9d.rw⟩
  clear O9a O9b O9c O9d
  have S_a := S_a.nx B9
  have H_a := H_a.st B9
  have S_b := S_b.nx B9
  have H_b := H_b.st B9
  have S_x := S_x.nx B9
  have H_x := H_x.st B9
  have S_y := S_y.nx B9
  have H_y := H_y.st B9
  have S_z := S_z.nx B9
  have H_z := H_z.st B9
  have S_l := S_l.nx B9
  have H_l := H_l.st B9
  have S_r := S_r.nx B9
  have H_r := H_r.st B9
  have C0 := bt C0 B9
  have L9 := bal w9 (.cells #[.bool sr.s, .slice A9a sr.a.length c9a, .slice D9a sr.b.length d9a, .bool si.s, .slice A9b si.a.length c9b, .slice D9b si.b.length d9b] 26)
  have S_d := SB.new w9 [.bool sr.s, .slice A9a sr.a.length c9a, .slice D9a sr.b.length d9a, .bool si.s, .slice A9b si.a.length c9b, .slice D9b si.b.length d9b] 26
  have S_a := S_a.nx L9
  have H_a := H_a.st L9
  have S_b := S_b.nx L9
  have H_b := H_b.st L9
  have S_x := S_x.nx L9
  have H_x := H_x.st L9
  have S_y := S_y.nx L9
  have H_y := H_y.st L9
  have S_z := S_z.nx L9
  have H_z := H_z.st L9
  have S_l := S_l.nx L9
  have H_l := H_l.st L9
  have S_r := S_r.nx L9
  have H_r := H_r.st L9
  have H_d := H_d.st L9
  have C0 := bt C0 L9
  have i0 := S_l.cell 0
  have i1 := S_l.cell 1
  have i2 := S_l.cell 2
  have i3 := S_l.cell 3
  have i4 := S_l.cell 4
  have i5 := S_l.cell 5
  have j0 := S_r.cell 0
  have j1 := S_r.cell 1
  have j2 := S_r.cell 2
  have j3 := S_r.cell 3
  have j4 := S_r.cell 4
  have j5 := S_r.cell 5
  go_wp2_with fail
  refine (l1 _ _ _ H_l H_r).mono ?_; rintro e w10 ⟨rfl, B10⟩
  have S_a := S_a.nx B10
  have H_a := H_a.st B10
  have S_b := S_b.nx B10
  have H_b := H_b.st B10
  have S_x := S_x.nx B10
  have H_x := H_x.st B10
  have S_y := S_y.nx B10
  have H_y := H_y.st B10
  have S_z := S_z.nx B10
  have H_z := H_z.st B10
  have S_l := S_l.nx B10
  have H_l := H_l.st B10
  have S_r := S_r.nx B10
  have H_r := H_r.st B10
  have S_d := S_d.nx B10
  have H_d := H_d.st B10
  have C0 := bt C0 B10
  clear i0 i1 i2 i3 i4 i5
  clear j0 j1 j2 j3 j4 j5
  have i0 := S_d.cell 0
  have i1 := S_d.cell 1
  have i2 := S_d.cell 2
  have i3 := S_d.cell 3
  have i4 := S_d.cell 4
  have i5 := S_d.cell 5
  have j0 := S_z.cell 0
  have j1 := S_z.cell 1
  have j2 := S_z.cell 2
  have j3 := S_z.cell 3
  have j4 := S_z.cell 4
  have j5 := S_z.cell 5
  go_wp2_with fail
  refine (l0 _ _ _ H_d H_z).mono ?_; rintro e w11 ⟨rfl, B11⟩
  have S_a := S_a.nx B11
  have H_a := H_a.st B11
  have S_b := S_b.nx B11
  have H_b := H_b.st B11
  have S_x := S_x.nx B11
  have H_x := H_x.st B11
  have S_y := S_y.nx B11
  have H_y := H_y.st B11
  have S_z := S_z.nx B11
  have H_z := H_z.st B11
  have S_l := S_l.nx B11
  have H_l := H_l.st B11
  have S_r := S_r.nx B11
  have H_r := H_r.st B11
  have S_d := S_d.nx B11
  have H_d := H_d.st B11
  have C0 := bt C0 B11
  clear i0 i1 i2 i3 i4 i5
  clear j0 j1 j2 j3 j4 j5
  have i0 := S_a.cell 0
  have i1 := S_a.cell 1
  have i2 := S_a.cell 2
  have i3 := S_a.cell 3
  have i4 := S_a.cell 4
  have i5 := S_a.cell 5
  go_wp2_with fail
  clear i0 i1 i2 i3 i4 i5
  refine (o6 _ _ H_a).mono ?_; rintro e w12 ⟨A12a, c12a, D12a, d12a, A12b, c12b, D12b, d12b, rfl, O12a, O12b, O12c, O12d, B12⟩
  try dsimp only at O12a O12b O12c O12d
  have H_na : VN w12 w12.heap.size (.agg #[.bool nar.s, .slice A12a nar.a.length c12a, .slice D12a nar.b.length d12a, .bool nai.s, .slice A12b nai.a.length c12b, .slice D12b nai.b.length d12b]) nar nai := ⟨A12a, c12a, D12a, d12a, A12b, c12b, D12b, d12b, rfl, O12a.rw, O12b.rw, O12c.rw, O12d.rw⟩
  clear O12a O12b O12c O12d
  have S_a := S_a.nx B12
  have H_a := H_a.st B12
  have S_b := S_b.nx B12
  have H_b := H_b.st B12
  have S_x := S_x.nx B12
  have H_x := H_x.st B12
  have S_y := S_y.nx B12
  have H_y := H_y.st B12
  have S_z := S_z.nx B12
  have H_z := H_z.st B12
  have S_l := S_l.nx B12
  have H_l := H_l.st B12
  have S_r := S_r.nx B12
  have H_r := H_r.st B12
  have S_d := S_d.nx B12
  have H_d := H_d.st B12
  have C0 := bt C0 B12
  have L12 := bal w12 (.cells #[.bool nar.s, .slice A12a nar.a.length c12a, .slice D12a nar.b.length d12a, .bool nai.s, .slice A12b nai.a.length c12b, .slice D12b nai.b.length d12b] 26)
  have S_na := SB.new w12 [.bool nar.s, .slice A12a nar.a.length c12a, .slice D12a nar.b.length d12a, .bool nai.s, .slice A12b nai.a.length c12b, .slice D12b nai.b.length d12b] 26
  have S_a := S_a.nx L12
  have H_a := H_a.st L12
  have S_b := S_b.nx L12
  have H_b := H_b.st L12
  have S_x := S_x.nx L12
  have H_x := H_x.st L12
  have S_y := S_y.nx L12
  have H_y := H_y.st L12
  have S_z := S_z.nx L12
  have H_z := H_z.st L12
  have S_l := S_l.nx L12
  have H_l := H_l.st L12
  have S_r := S_r.nx L12
  have H_r := H_r.st L12
  have S_d := S_d.nx L12
  have H_d := H_d.st L12
  have H_na := H_na.st L12
  have C0 := bt C0 L12
  have i0 := S_b.cell 0
  have i1 := S_b.cell 1
  have i2 := S_b.cell 2
  have i3 := S_b.cell 3
  have i4 := S_b.cell 4
  have i5 := S_b.cell 5
  go_wp2_with fail
  clear i0 i1 i2 i3 i4 i5
  refine (o7 _ _ H_b).mono ?_; rintro e w13 ⟨A13a, c13a, D13a, d13a, A13b, c13b, D13b, d13b, rfl, O13a, O13b, O13c, O13d, B13⟩
  try dsimp only at O13a O13b O13c O13d
  have H_nb : VN w13 w13.heap.size (.agg #[.bool nbr.s, .slice A13a nbr.a.length c13a, .slice D13a nbr.b.length d13a, .bool nbi.s, .slice A13b nbi.a.length c13b, .slice D13b nbi.b.length d13b]) nbr nbi := ⟨A13a, c13a, D13a, d13a, A13b, c13b, D13b, d13b, rfl, O13a.rw, O13b.rw, O13c.rw, O13d.rw⟩
  clear O13a O13b O13c O13d
  have S_a := S_a.nx B13
  have H_a := H_a.st B13
  have S_b := S_b.nx B13
  have H_b := H_b.st B13
  have S_x := S_x.nx B13
  have H_x := H_x.st B13
  have S_y := S_y.nx B13
  have H_y := H_y.st B13
  have S_z := S_z.nx B13
  have H_z := H_z.st B13
  have S_l := S_l.nx B13
  have H_l := H_l.st B13
  have S_r := S_r.nx B13
  have H_r := H_r.st B13
  have S_d := S_d.nx B13
  have H_d := H_d.st B13
  have S_na := S_na.nx B13
  have H_na := H_na.st B13
  have C0 := bt C0 B13
  have L13 := bal w13 (.cells #[.bool nbr.s, .slice A13a nbr.a.length c13a, .slice D13a nbr.b.length d13a, .bool nbi.s, .slice A13b nbi.a.length c13b, .slice D13b nbi.b.length d13b] 26)
  have S_nb := SB.new w13 [.bool nbr.s, .slice A13a nbr.a.length c13a, .slice D13a nbr.b.length d13a, .bool nbi.s, .slice A13b nbi.a.length c13b, .slice D13b nbi.b.length d13b] 26
  have S_a := S_a.nx L13
  have H_a := H_a.st L13
  have S_b := S_b.nx L13
  have H_b := H_b.st L13
  have S_x := S_x.nx L13
  have H_x := H_x.st L13
  have S_y := S_y.nx L13
  have H_y := H_y.st L13
  have S_z := S_z.nx L13
  have H_z := H_z.st L13
  have S_l := S_l.nx L13
  have H_l := H_l.st L13
  have S_r := S_r.nx L13
  have H_r := H_r.st L13
  have S_d := S_d.nx L13
  have H_d := H_d.st L13
  have S_na := S_na.nx L13
  have H_na := H_na.st L13
  have H_nb := H_nb.st L13
  have C0 := bt C0 L13
  have i0 := S_na.cell 0
  have i1 := S_na.cell 1
  have i2 := S_na.cell 2
  have i3 := S_na.cell 3
  have i4 := S_na.cell 4
  have i5 := S_na.cell 5
  go_wp2_with fail
  clear i0 i1 i2 i3 i4 i5
  refine (o8 _ _ H_na).mono ?_; rintro e w14 ⟨A14a, c14a, D14a, d14a, A14b, c14b, D14b, d14b, rfl, O14a, O14b, O14c, O14d, B14⟩
  try dsimp only at O14a O14b O14c O14d
  have H_nn : VN w14 w14.heap.size (.agg #[.bool nnr.s, .slice A14a nnr.a.length c14a, .slice D14a nnr.b.length d14a, .bool nni.s, .slice A14b nni.a.length c14b, .slice D14b nni.b.length d14b]) nnr nni := ⟨A14a, c14a, D14a, d14a, A14b, c14b, D14b, d14b, rfl, O14a.rw, O14b.rw, O14c.rw, O14d.rw⟩
  clear O14a O14b O14c O14d
  have S_a := S_a.nx B14
  have H_a := H_a.st B14
  have S_b := S_b.nx B14
  have H_b := H_b.st B14
  have S_x := S_x.nx B14
  have H_x := H_x.st B14
  have S_y := S_y.nx B14
  have H_y := H_y.st B14
  have S_z := S_z.nx B14
  have H_z := H_z.st B14
  have S_l := S_l.nx B14
  have H_l := H_l.st B14
  have S_r := S_r.nx B14
  have H_r := H_r.st B14
  have S_d := S_d.nx B14
  have H_d := H_d.st B14
  have S_na := S_na.nx B14
  have H_na := H_na.st B14
  have S_nb := S_nb.nx B14
  have H_nb := H_nb.st B14
  have C0 := bt C0 B14
  have L14 := bal w14 (.cells #[.bool nnr.s, .slice A14a nnr.a.length c14a, .slice D14a nnr.b.length d14a, .bool nni.s, .slice A14b nni.a.length c14b, .slice D14b nni.b.length d14b] 26)
  have S_nn := SB.new w14 [.bool nnr.s, .slice A14a nnr.a.length c14a, .slice D14a nnr.b.length d14a, .bool nni.s, .slice A14b nni.a.length c14b, .slice D14b nni.b.length d14b] 26
  have S_a := S_a.nx L14
  have H_a := H_a.st L14
  have S_b := S_b.nx L14
  have H_b := H_b.st L14
  have S_x := S_x.nx L14
  have H_x := H_x.st L14
  have S_y := S_y.nx L14
  have H_y := H_y.st L14
  have S_z := S_z.nx L14
  have H_z := H_z.st L14
  have S_l := S_l.nx L14
  have H_l := H_l.st L14
  have S_r := S_r.nx L14
  have H_r := H_r.st L14
  have S_d := S_d.nx L14
  have H_d := H_d.st L14
  have S_na := S_na.nx L14
  have H_na := H_na.st L14
  have S_nb := S_nb.nx L14
  have H_nb := H_nb.st L14
  have H_nn := H_nn.st L14
  have C0 := bt C0 L14
  have i0 := S_na.cell 0
  have i1 := S_na.cell 1
  have i2 := S_na.cell 2
  have i3 := S_na.cell 3
  have i4 := S_na.cell 4
  have i5 := S_na.cell 5
  have j0 := S_nb.cell 0
  have j1 := S_nb.cell 1
  have j2 := S_nb.cell 2
  have j3 := S_nb.cell 3
  have j4 := S_nb.cell 4
  have j5 := S_nb.cell 5
  go_wp2_with fail
  clear i0 i1 i2 i3 i4 i5
  clear j0 j1 j2 j3 j4 j5
  refine (o9 _ _ _ H_na H_nb).mono ?_; rintro e w15 ⟨A15a, c15a, D15a, d15a, A15b, c15b, D15b, d15b, rfl, O15a, O15b, O15c, O15d, B15⟩
  try dsimp only at O15a O15b O15c O15d
  have H_bo : VN w15 w15.heap.size (.agg #[.bool br.s, .slice A15a br.a.length c15a, .slice D15a br.b.length d15a, .bool bi.s, .slice A15b bi.a.length c15b, .slice D15b bi.b.length d15b]) br bi := ⟨A15a, c15a, D15a, d15a, A15b, c15b, D15b, d15b, rfl, O15a.rw, O15b.rw, O15c.rw, O15d.rw⟩
  clear O15a O15b O15c O15d
  have S_a := S_a.nx B15
  have H_a := H_a.st B15
  have S_b := S_b.nx B15
  have H_b := H_b.st B15
  have S_x := S_x.nx B15
  have H_x := H_x.st B15
  have S_y := S_y.nx B15
  have H_y := H_y.st B15
  have S_z := S_z.nx B15
  have H_z := H_z.st B15
  have S_l := S_l.nx B15
  have H_l := H_l.st B15
  have S_r := S_r.nx B15
  have H_r := H_r.st B15
  have S_d := S_d.nx B15
  have H_d := H_d.st B15
  have S_na := S_na.nx B15
  have H_na := H_na.st B15
  have S_nb := S_nb.nx B15
  have H_nb := H_nb.st B15
  have S_nn := S_nn.nx B15
  have H_nn := H_nn.st B15
  have C0 := bt C0 B15
  have L15 := bal w15 (.cells #[.bool br.s, .slice A15a br.a.length c15a, .slice D15a br.b.length d15a, .bool bi.s, .slice A15b bi.a.length c15b, .slice D15b bi.b.length d15b] 26)
  have S_bo := SB.new w15 [.bool br.s, .slice A15a br.a.length c15a, .slice D15a br.b.length d15a, .bool bi.s, .slice A15b bi.a.length c15b, .slice D15b bi.b.length d15b] 26
  have S_a := S_a.nx L15
  have H_a := H_a.st L15
  have S_b := S_b.nx L15
  have H_b := H_b.st L15
  have S_x := S_x.nx L15
  have H_x := H_x.st L15
  have S_y := S_y.nx L15
  have H_y := H_y.st L15
  have S_z := S_z.nx L15
  have H_z := H_z.st L15
  have S_l := S_l.nx L15
  have H_l := H_l.st L15
  have S_r := S_r.nx L15
  have H_r := H_r.st L15
  have S_d := S_d.nx L15
  have H_d := H_d.st L15
  have S_na := S_na.nx L15
  have H_na := H_na.st L15
  have S_nb := S_nb.nx L15
  have H_nb := H_nb.st L15
  have S_nn := S_nn.nx L15
  have H_nn := H_nn.st L15
  have H_bo := H_bo.st L15
  have C0 := bt C0 L15
  have i0 := S_x.cell 0
  have i1 := S_x.cell 1
  have i2 := S_x.cell 2
  have i3 := S_x.cell 3
  have i4 := S_x.cell 4
  have i5 := S_x.cell 5
  go_wp2_with fail
  clear i0 i1 i2 i3 i4 i5
  refine (o10 _ _ H_x).mono ?_; rintro e w16 ⟨A16a, c16a, D16a, d16a, A16b, c16b, D16b, d16b, rfl, O16a, O16b, O16c, O16d, B16⟩
  try dsimp only at O16a O16b O16c O16d
  have H_no : VN w16 w16.heap.size (.agg #[.bool nr.s, .slice A16a nr.a.length c16a, .slice D16a nr.b.length d16a, .bool ni.s, .slice A16b ni.a.length c16b, .slice D16b ni.b.length d16b]) nr ni := ⟨A16a, c16a, D16a, d16a, A16b, c16b, D16b, d16b, rfl, O16a.rw, O16b.rw, O16c.rw, O16d.rw⟩
  clear O16a O16b O16c O16d
  have S_a := S_a.nx B16
  have H_a := H_a.st B16
  have S_b := S_b.nx B16
  have H_b := H_b.st B16
  have S_x := S_x.nx B16
  have H_x := H_x.st B16
  have S_y := S_y.nx B16
  have H_y := H_y.st B16
  have S_z := S_z.nx B16
  have H_z := H_z.st B16
  have S_l := S_l.nx B16
  have H_l := H_l.st B16
  have S_r := S_r.nx B16
  have H_r := H_r.st B16
  have S_d := S_d.nx B16
  have H_d := H_d.st B16
  have S_na := S_na.nx B16
  have H_na := H_na.st B16
  have S_nb := S_nb.nx B16
  have H_nb := H_nb.st B16
  have S_nn := S_nn.nx B16
  have H_nn := H_nn.st B16
  have S_bo := S_bo.nx B16
  have H_bo := H_bo.st B16
  have C0 := bt C0 B16
  have L16 := bal w16 (.cells #[.bool nr.s, .slice A16a nr.a.length c16a, .slice D16a nr.b.length d16a, .bool ni.s, .slice A16b ni.a.length c16b, .slice D16b ni.b.length d16b] 26)
  have S_no := SB.new w16 [.bool nr.s, .slice A16a nr.a.length c16a, .slice D16a nr.b.length d16a, .bool ni.s, .slice A16b ni.a.length c16b, .slice D16b ni.b.length d16b] 26
  have S_a := S_a.nx L16
  have H_a := H_a.st L16
  have S_b := S_b.nx L16
  have H_b := H_b.st L16
  have S_x := S_x.nx L16
  have H_x := H_x.st L16
  have S_y := S_y.nx L16
  have H_y := H_y.st L16
  have S_z := S_z.nx L16
  have H_z := H_z.st L16
  have S_l := S_l.nx L16
  have H_l := H_l.st L16
  have S_r := S_r.nx L16
  have H_r := H_r.st L16
  have S_d := S_d.nx L16
  have H_d := H_d.st L16
  have S_na := S_na.nx L16
  have H_na := H_na.st L16
  have S_nb := S_nb.nx L16
  have H_nb := H_nb.st L16
  have S_nn := S_nn.nx L16
  have H_nn := H_nn.st L16
  have S_bo := S_bo.nx L16
  have H_bo := H_bo.st L16
  have H_no := H_no.st L16
  have C0 := bt C0 L16
  go_wp2_with fail
  go_ret
  exact ⟨rfl, C0⟩
set_option maxRecDepth 100000 in
set_option maxHeartbeats 16000000 in
theorem bitsLaws_good02 (V : Value) (ra ia : Rw) (U : Value) (rb ib : Rw) (w : World) (hV : VN w w.heap.size V ra ia) (hU : VN w w.heap.size U rb ib) (mr mi dr di sr si : Rw) (mk dk sk : Int) (em : qbothA (· &&& ·) ra ia rb ib = (mr, mi, mk)) (ed : qbothA (· ||| ·) ra ia rb ib = (dr, di, dk)) (es : qbothA (· ^^^ ·) ra ia rb ib = (sr, si, sk)) (hm : mk = 0) (hd : dk = 0) (hs : sk = 0) (lr li : Rw) (lk : Int) (el : qaddA ra ia rb ib = (lr, li, lk)) (hl : lk = 0)
    (nar nai nbr nbi nnr nni br bi nr ni : Rw) (nak nbk nnk hk ik : Int) (ena : qnotA ra ia = (nar, nai, nak)) (enb : qnotA rb ib = (nbr, nbi, nbk)) (enn : qnotA nar nai = (nnr, nni, nnk)) (ebo : qbothA (· ||| ·) nar nai nbr nbi = (br, bi, hk)) (eno : qnotA mr mi = (nr, ni, ik)) (hq : nak = 0 ∧ nbk = 0 ∧ hk ≠ 0) : Calls Try.prog 6 #[V, U] w fun e w' => e = .returned (.bool true) ∧ Below w.heap.size w w' := by
  subst hm hd hs
  have o0 := fun V U w' h1 h2 => band_any V U ra ia rb ib w' h1 h2
  have o1 := fun V U w' h1 h2 => bor_any V U ra ia rb ib w' h1 h2
  have o2 := fun V U w' h1 h2 => bxor_any V U ra ia rb ib w' h1 h2
  rw [em] at o0
  rw [ed] at o1
  rw [es] at o2
  obtain ⟨g1, g2, g3, g4, g5, g6, g7⟩ := laws_good em ed es
  have o3 := fun V U w' h1 h2 => eadd_any (V := V) (U := U) (r := mr) (i := mi) (r' := dr) (i' := di) (w := w') h1 h2
  have o4 := fun V U w' h1 h2 => eadd_any (V := V) (U := U) (r := ra) (i := ia) (r' := rb) (i' := ib) (w := w') h1 h2
  have o5 := fun V U w' h1 h2 => esub_any (V := V) (U := U) (r := dr) (i := di) (r' := mr) (i' := mi) (w := w') h1 h2
  have o6 := fun V w' h1 => bnot_any V ra ia w' h1
  have o7 := fun V w' h1 => bnot_any V rb ib w' h1
  have o8 := fun V w' h1 => bnot_any V nar nai w' h1
  have o9 := fun V U w' h1 h2 => bor_any V U nar nai nbr nbi w' h1 h2
  have o10 := fun V w' h1 => bnot_any V mr mi w' h1
  rw [g1, el] at o3
  rw [el] at o4
  rw [g2] at o5
  rw [qboth_not, ena] at o6
  rw [qboth_not, enb] at o7
  rw [qboth_not, enn] at o8
  rw [ebo] at o9
  rw [qboth_not, eno] at o10
  have l0 := fun V U w' h1 h2 => esame_any V U sr si sr si w' h1 h2
  rw [g3] at l0
  subst hl
  have l1 := fun V U w' h1 h2 => esame_any V U lr li lr li w' h1 h2
  rw [g5 lr li el] at l1
  obtain ⟨q1, q2, q3⟩ := hq
  subst q1 q2
  obtain ⟨g8, g9⟩ := g6 nar nai nbr nbi ena enb
  rw [enn] at g8
  rw [ebo, eno] at g9
  simp only [Prod.mk.injEq] at g8 g9
  obtain ⟨r1, r2, r3⟩ := g8
  obtain ⟨r4, r5, r6⟩ := g9
  have r1 := r1.symm
  have r2 := r2.symm
  subst r1 r2 r3 r4 r5 r6
  have n6 : (hk != 0) = true := bne_iff_ne.2 q3
  clear g1 g2 g3 g4 g5 g6 g7 em ed es el ena enb enn ebo eno q3
  obtain ⟨A1, c1, D1, d1, A2, c2, D2, d2, rfl, p1, p2, p3, p4⟩ := hV
  obtain ⟨A3, c3, D3, d3, A4, c4, D4, d4, rfl, p5, p6, p7, p8⟩ := hU
  obtain ⟨S_a, S_b, C0⟩ := T2.new w [.bool ra.s, .slice A1 ra.a.length c1, .slice D1 ra.b.length d1, .bool ia.s, .slice A2 ia.a.length c2, .slice D2 ia.b.length d2] [.bool rb.s, .slice A3 rb.a.length c3, .slice D3 rb.b.length d3, .bool ib.s, .slice A4 ib.a.length c4, .slice D4 ib.b.length d4] 26 26
  have H_a : VN w w.heap.size (.agg #[.bool ra.s, .slice A1 ra.a.length c1, .slice D1 ra.b.length d1, .bool ia.s, .slice A2 ia.a.length c2, .slice D2 ia.b.length d2]) ra ia := ⟨A1, c1, D1, d1, A2, c2, D2, d2, rfl, p1, p2, p3, p4⟩
  have H_a := H_a.st C0
  have H_b : VN w w.heap.size (.agg #[.bool rb.s, .slice A3 rb.a.length c3, .slice D3 rb.b.length d3, .bool ib.s, .slice A4 ib.a.length c4, .slice D4 ib.b.length d4]) rb ib := ⟨A3, c3, D3, d3, A4, c4, D4, d4, rfl, p5, p6, p7, p8⟩
  have H_b := H_b.st C0
  clear p1 p2 p3 p4 p5 p6 p7 p8
  obtain ⟨W0, hW0⟩ : ∃ W0, W0 = (w.alloc (.cells #[.bool ra.s, .slice A1 ra.a.length c1, .slice D1 ra.b.length d1, .bool ia.s, .slice A2 ia.a.length c2, .slice D2 ia.b.length d2] 26)).alloc (.cells #[.bool rb.s, .slice A3 rb.a.length c3, .slice D3 rb.b.length d3, .bool ib.s, .slice A4 ib.a.length c4, .slice D4 ib.b.length d4] 26) := ⟨_, rfl⟩
  go_enter Try.func6, Try.ntmps6
  have i0 := S_a.cell 0
  have i1 := S_a.cell 1
  have i2 := S_a.cell 2
  have i3 := S_a.cell 3
  have i4 := S_a.cell 4
  have i5 := S_a.cell 5
  have j0 := S_b.cell 0
  have j1 := S_b.cell 1
  have j2 := S_b.cell 2
  have j3 := S_b.cell 3
  have j4 := S_b.cell 4
  have j5 := S_b.cell 5
  go_wp2_with fail
  rw [← hW0] at S_a S_b C0 H_a H_b ⊢
  clear hW0
  clear i0 i1 i2 i3 i4 i5
  clear j0 j1 j2 j3 j4 j5
  refine (o0 _ _ _ H_a H_b).mono ?_; rintro e w3 ⟨A3a, c3a, D3a, d3a, A3b, c3b, D3b, d3b, rfl, O3a, O3b, O3c, O3d, B3⟩
  try dsimp only at O3a O3b O3c O3d
  have H_x : VN w3 w3.heap.size (.agg #[.bool mr.s, .slice A3a mr.a.length c3a, .slice D3a mr.b.length d3a, .bool mi.s, .slice A3b mi.a.length c3b, .slice D3b mi.b.length d3b]) mr mi := ⟨A3a, c3a, D3a, d3a, A3b, c3b, D3b, d3b, rfl, O3a.rw, O3b.rw, O3c.rw, O3d.rw⟩
  clear O3a O3b O3c O3d
  have S_a := S_a.nx B3
  have H_a := H_a.st B3
  have S_b := S_b.nx B3
  have H_b := H_b.st B3
  have C0 := bt C0 B3
  have L3 := bal w3 (.cells #[.bool mr.s, .slice A3a mr.a.length c3a, .slice D3a mr.b.length d3a, .bool mi.s, .slice A3b mi.a.length c3b, .slice D3b mi.b.length d3b] 26)
  have S_x := SB.new w3 [.bool mr.s, .slice A3a mr.a.length c3a, .slice D3a mr.b.length d3a, .bool mi.s, .slice A3b mi.a.length c3b, .slice D3b mi.b.length d3b] 26
  have S_a := S_a.nx L3
  have H_a := H_a.st L3
  have S_b := S_b.nx L3
  have H_b := H_b.st L3
  have H_x := H_x.st L3
  have C0 := bt C0 L3
  have i0 := S_a.cell 0
  have i1 := S_a.cell 1
  have i2 := S_a.cell 2
  have i3 := S_a.cell 3
  have i4 := S_a.cell 4
  have i5 := S_a.cell 5
  have j0 := S_b.cell 0
  have j1 := S_b.cell 1
  have j2 := S_b.cell 2
  have j3 := S_b.cell 3
  have j4 := S_b.cell 4
  have j5 := S_b.cell 5
  go_wp2_with fail
  clear i0 i1 i2 i3 i4 i5
  clear j0 j1 j2 j3 j4 j5
  refine (o1 _ _ _ H_a H_b).mono ?_; rintro e w4 ⟨A4a, c4a, D4a, d4a, A4b, c4b, D4b, d4b, rfl, O4a, O4b, O4c, O4d, B4⟩
  try dsimp only at O4a O4b O4c O4d
  have H_y : VN w4 w4.heap.size (.agg #[.bool dr.s, .slice A4a dr.a.length c4a, .slice D4a dr.b.length d4a, .bool di.s, .slice A4b di.a.length c4b, .slice D4b di.b.length d4b]) dr di := ⟨A4a, c4a, D4a, d4a, A4b, c4b, D4b, d4b, rfl, O4a.rw, O4b.rw, O4c.rw, O4d.rw⟩
  clear O4a O4b O4c O4d
  have S_a := S_a.nx B4
  have H_a := H_a.st B4
  have S_b := S_b.nx B4
  have H_b := H_b.st B4
  have S_x := S_x.nx B4
  have H_x := H_x.st B4
  have C0 := bt C0 B4
  have L4 := bal w4 (.cells #[.bool dr.s, .slice A4a dr.a.length c4a, .slice D4a dr.b.length d4a, .bool di.s, .slice A4b di.a.length c4b, .slice D4b di.b.length d4b] 26)
  have S_y := SB.new w4 [.bool dr.s, .slice A4a dr.a.length c4a, .slice D4a dr.b.length d4a, .bool di.s, .slice A4b di.a.length c4b, .slice D4b di.b.length d4b] 26
  have S_a := S_a.nx L4
  have H_a := H_a.st L4
  have S_b := S_b.nx L4
  have H_b := H_b.st L4
  have S_x := S_x.nx L4
  have H_x := H_x.st L4
  have H_y := H_y.st L4
  have C0 := bt C0 L4
  have i0 := S_a.cell 0
  have i1 := S_a.cell 1
  have i2 := S_a.cell 2
  have i3 := S_a.cell 3
  have i4 := S_a.cell 4
  have i5 := S_a.cell 5
  have j0 := S_b.cell 0
  have j1 := S_b.cell 1
  have j2 := S_b.cell 2
  have j3 := S_b.cell 3
  have j4 := S_b.cell 4
  have j5 := S_b.cell 5
  go_wp2_with fail
  clear i0 i1 i2 i3 i4 i5
  clear j0 j1 j2 j3 j4 j5
  refine (o2 _ _ _ H_a H_b).mono ?_; rintro e w5 ⟨A5a, c5a, D5a, d5a, A5b, c5b, D5b, d5b, rfl, O5a, O5b, O5c, O5d, B5⟩
  try dsimp only at O5a O5b O5c O5d
  have H_z : VN w5 w5.heap.size (.agg #[.bool sr.s, .slice A5a sr.a.length c5a, .slice D5a sr.b.length d5a, .bool si.s, .slice A5b si.a.length c5b, .slice D5b si.b.length d5b]) sr si := ⟨A5a, c5a, D5a, d5a, A5b, c5b, D5b, d5b, rfl, O5a.rw, O5b.rw, O5c.rw, O5d.rw⟩
  clear O5a O5b O5c O5d
  have S_a := S_a.nx B5
  have H_a := H_a.st B5
  have S_b := S_b.nx B5
  have H_b := H_b.st B5
  have S_x := S_x.nx B5
  have H_x := H_x.st B5
  have S_y := S_y.nx B5
  have H_y := H_y.st B5
  have C0 := bt C0 B5
  have L5 := bal w5 (.cells #[.bool sr.s, .slice A5a sr.a.length c5a, .slice D5a sr.b.length d5a, .bool si.s, .slice A5b si.a.length c5b, .slice D5b si.b.length d5b] 26)
  have S_z := SB.new w5 [.bool sr.s, .slice A5a sr.a.length c5a, .slice D5a sr.b.length d5a, .bool si.s, .slice A5b si.a.length c5b, .slice D5b si.b.length d5b] 26
  have S_a := S_a.nx L5
  have H_a := H_a.st L5
  have S_b := S_b.nx L5
  have H_b := H_b.st L5
  have S_x := S_x.nx L5
  have H_x := H_x.st L5
  have S_y := S_y.nx L5
  have H_y := H_y.st L5
  have H_z := H_z.st L5
  have C0 := bt C0 L5
  go_wp2_with fail
  refine (awake4_any _).mono ?_; rintro e w6 ⟨rfl, B6⟩
  have S_a := S_a.nx B6
  have H_a := H_a.st B6
  have S_b := S_b.nx B6
  have H_b := H_b.st B6
  have S_x := S_x.nx B6
  have H_x := H_x.st B6
  have S_y := S_y.nx B6
  have H_y := H_y.st B6
  have S_z := S_z.nx B6
  have H_z := H_z.st B6
  have C0 := bt C0 B6
  have i0 := S_x.cell 0
  have i1 := S_x.cell 1
  have i2 := S_x.cell 2
  have i3 := S_x.cell 3
  have i4 := S_x.cell 4
  have i5 := S_x.cell 5
  have j0 := S_y.cell 0
  have j1 := S_y.cell 1
  have j2 := S_y.cell 2
  have j3 := S_y.cell 3
  have j4 := S_y.cell 4
  have j5 := S_y.cell 5
  go_wp2_with fail
  clear i0 i1 i2 i3 i4 i5
  clear j0 j1 j2 j3 j4 j5
  refine (o3 _ _ _ H_x H_y).mono ?_; rintro e w7 ⟨A7a, c7a, D7a, d7a, A7b, c7b, D7b, d7b, rfl, O7a, O7b, O7c, O7d, B7⟩
  try dsimp only at O7a O7b O7c O7d
  have H_l : VN w7 w7.heap.size (.agg #[.bool lr.s, .slice A7a lr.a.length c7a, .slice D7a lr.b.length d7a, .bool li.s, .slice A7b li.a.length c7b, .slice D7b li.b.length d7b]) lr li := ⟨A7a, c7a, D7a, d7a, A7b, c7b, D7b, d7b, rfl, O7a.rw, O7b.rw, O7c.rw, O7d.rw⟩
  clear O7a O7b O7c O7d
  have S_a := S_a.nx B7
  have H_a := H_a.st B7
  have S_b := S_b.nx B7
  have H_b := H_b.st B7
  have S_x := S_x.nx B7
  have H_x := H_x.st B7
  have S_y := S_y.nx B7
  have H_y := H_y.st B7
  have S_z := S_z.nx B7
  have H_z := H_z.st B7
  have C0 := bt C0 B7
  have L7 := bal w7 (.cells #[.bool lr.s, .slice A7a lr.a.length c7a, .slice D7a lr.b.length d7a, .bool li.s, .slice A7b li.a.length c7b, .slice D7b li.b.length d7b] 26)
  have S_l := SB.new w7 [.bool lr.s, .slice A7a lr.a.length c7a, .slice D7a lr.b.length d7a, .bool li.s, .slice A7b li.a.length c7b, .slice D7b li.b.length d7b] 26
  have S_a := S_a.nx L7
  have H_a := H_a.st L7
  have S_b := S_b.nx L7
  have H_b := H_b.st L7
  have S_x := S_x.nx L7
  have H_x := H_x.st L7
  have S_y := S_y.nx L7
  have H_y := H_y.st L7
  have S_z := S_z.nx L7
  have H_z := H_z.st L7
  have H_l := H_l.st L7
  have C0 := bt C0 L7
  have i0 := S_a.cell 0
  have i1 := S_a.cell 1
  have i2 := S_a.cell 2
  have i3 := S_a.cell 3
  have i4 := S_a.cell 4
  have i5 := S_a.cell 5
  have j0 := S_b.cell 0
  have j1 := S_b.cell 1
  have j2 := S_b.cell 2
  have j3 := S_b.cell 3
  have j4 := S_b.cell 4
  have j5 := S_b.cell 5
  go_wp2_with fail
  clear i0 i1 i2 i3 i4 i5
  clear j0 j1 j2 j3 j4 j5
  refine (o4 _ _ _ H_a H_b).mono ?_; rintro e w8 ⟨A8a, c8a, D8a, d8a, A8b, c8b, D8b, d8b, rfl, O8a, O8b, O8c, O8d, B8⟩
  try dsimp only at O8a O8b O8c O8d
  have H_r : VN w8 w8.heap.size (.agg #[.bool lr.s, .slice A8a lr.a.length c8a, .slice D8a lr.b.length d8a, .bool li.s, .slice A8b li.a.length c8b, .slice D8b li.b.length d8b]) lr li := ⟨A8a, c8a, D8a, d8a, A8b, c8b, D8b, d8b, rfl, O8a.rw, O8b.rw, O8c.rw, O8d.rw⟩
  clear O8a O8b O8c O8d
  have S_a := S_a.nx B8
  have H_a := H_a.st B8
  have S_b := S_b.nx B8
  have H_b := H_b.st B8
  have S_x := S_x.nx B8
  have H_x := H_x.st B8
  have S_y := S_y.nx B8
  have H_y := H_y.st B8
  have S_z := S_z.nx B8
  have H_z := H_z.st B8
  have S_l := S_l.nx B8
  have H_l := H_l.st B8
  have C0 := bt C0 B8
  have L8 := bal w8 (.cells #[.bool lr.s, .slice A8a lr.a.length c8a, .slice D8a lr.b.length d8a, .bool li.s, .slice A8b li.a.length c8b, .slice D8b li.b.length d8b] 26)
  have S_r := SB.new w8 [.bool lr.s, .slice A8a lr.a.length c8a, .slice D8a lr.b.length d8a, .bool li.s, .slice A8b li.a.length c8b, .slice D8b li.b.length d8b] 26
  have S_a := S_a.nx L8
  have H_a := H_a.st L8
  have S_b := S_b.nx L8
  have H_b := H_b.st L8
  have S_x := S_x.nx L8
  have H_x := H_x.st L8
  have S_y := S_y.nx L8
  have H_y := H_y.st L8
  have S_z := S_z.nx L8
  have H_z := H_z.st L8
  have S_l := S_l.nx L8
  have H_l := H_l.st L8
  have H_r := H_r.st L8
  have C0 := bt C0 L8
  have i0 := S_y.cell 0
  have i1 := S_y.cell 1
  have i2 := S_y.cell 2
  have i3 := S_y.cell 3
  have i4 := S_y.cell 4
  have i5 := S_y.cell 5
  have j0 := S_x.cell 0
  have j1 := S_x.cell 1
  have j2 := S_x.cell 2
  have j3 := S_x.cell 3
  have j4 := S_x.cell 4
  have j5 := S_x.cell 5
  go_wp2_with fail
  clear i0 i1 i2 i3 i4 i5
  clear j0 j1 j2 j3 j4 j5
  refine (o5 _ _ _ H_y H_x).mono ?_; rintro e w9 ⟨A9a, c9a, D9a, d9a, A9b, c9b, D9b, d9b, rfl, O9a, O9b, O9c, O9d, B9⟩
  try dsimp only at O9a O9b O9c O9d
  have H_d : VN w9 w9.heap.size (.agg #[.bool sr.s, .slice A9a sr.a.length c9a, .slice D9a sr.b.length d9a, .bool si.s, .slice A9b si.a.length c9b, .slice D9b si.b.length d9b]) sr si := ⟨A9a, c9a, D9a, d9a, A9b, c9b, D9b, d9b, rfl, O9a.rw, O9b.rw, O9c.rw, O9d.rw⟩
  clear O9a O9b O9c O9d
  have S_a := S_a.nx B9
  have H_a := H_a.st B9
  have S_b := S_b.nx B9
  have H_b := H_b.st B9
  have S_x := S_x.nx B9
  have H_x := H_x.st B9
  have S_y := S_y.nx B9
  have H_y := H_y.st B9
  have S_z := S_z.nx B9
  have H_z := H_z.st B9
  have S_l := S_l.nx B9
  have H_l := H_l.st B9
  have S_r := S_r.nx B9
  have H_r := H_r.st B9
  have C0 := bt C0 B9
  have L9 := bal w9 (.cells #[.bool sr.s, .slice A9a sr.a.length c9a, .slice D9a sr.b.length d9a, .bool si.s, .slice A9b si.a.length c9b, .slice D9b si.b.length d9b] 26)
  have S_d := SB.new w9 [.bool sr.s, .slice A9a sr.a.length c9a, .slice D9a sr.b.length d9a, .bool si.s, .slice A9b si.a.length c9b, .slice D9b si.b.length d9b] 26
  have S_a := S_a.nx L9
  have H_a := H_a.st L9
  have S_b := S_b.nx L9
  have H_b := H_b.st L9
  have S_x := S_x.nx L9
  have H_x := H_x.st L9
  have S_y := S_y.nx L9
  have H_y := H_y.st L9
  have S_z := S_z.nx L9
  have H_z := H_z.st L9
  have S_l := S_l.nx L9
  have H_l := H_l.st L9
  have S_r := S_r.nx L9
  have H_r := H_r.st L9
  have H_d := H_d.st L9
  have C0 := bt C0 L9
  have i0 := S_l.cell 0
  have i1 := S_l.cell 1
  have i2 := S_l.cell 2
  have i3 := S_l.cell 3
  have i4 := S_l.cell 4
  have i5 := S_l.cell 5
  have j0 := S_r.cell 0
  have j1 := S_r.cell 1
  have j2 := S_r.cell 2
  have j3 := S_r.cell 3
  have j4 := S_r.cell 4
  have j5 := S_r.cell 5
  go_wp2_with fail
  refine (l1 _ _ _ H_l H_r).mono ?_; rintro e w10 ⟨rfl, B10⟩
  have S_a := S_a.nx B10
  have H_a := H_a.st B10
  have S_b := S_b.nx B10
  have H_b := H_b.st B10
  have S_x := S_x.nx B10
  have H_x := H_x.st B10
  have S_y := S_y.nx B10
  have H_y := H_y.st B10
  have S_z := S_z.nx B10
  have H_z := H_z.st B10
  have S_l := S_l.nx B10
  have H_l := H_l.st B10
  have S_r := S_r.nx B10
  have H_r := H_r.st B10
  have S_d := S_d.nx B10
  have H_d := H_d.st B10
  have C0 := bt C0 B10
  clear i0 i1 i2 i3 i4 i5
  clear j0 j1 j2 j3 j4 j5
  have i0 := S_d.cell 0
  have i1 := S_d.cell 1
  have i2 := S_d.cell 2
  have i3 := S_d.cell 3
  have i4 := S_d.cell 4
  have i5 := S_d.cell 5
  have j0 := S_z.cell 0
  have j1 := S_z.cell 1
  have j2 := S_z.cell 2
  have j3 := S_z.cell 3
  have j4 := S_z.cell 4
  have j5 := S_z.cell 5
  go_wp2_with fail
  refine (l0 _ _ _ H_d H_z).mono ?_; rintro e w11 ⟨rfl, B11⟩
  have S_a := S_a.nx B11
  have H_a := H_a.st B11
  have S_b := S_b.nx B11
  have H_b := H_b.st B11
  have S_x := S_x.nx B11
  have H_x := H_x.st B11
  have S_y := S_y.nx B11
  have H_y := H_y.st B11
  have S_z := S_z.nx B11
  have H_z := H_z.st B11
  have S_l := S_l.nx B11
  have H_l := H_l.st B11
  have S_r := S_r.nx B11
  have H_r := H_r.st B11
  have S_d := S_d.nx B11
  have H_d := H_d.st B11
  have C0 := bt C0 B11
  clear i0 i1 i2 i3 i4 i5
  clear j0 j1 j2 j3 j4 j5
  have i0 := S_a.cell 0
  have i1 := S_a.cell 1
  have i2 := S_a.cell 2
  have i3 := S_a.cell 3
  have i4 := S_a.cell 4
  have i5 := S_a.cell 5
  go_wp2_with fail
  clear i0 i1 i2 i3 i4 i5
  refine (o6 _ _ H_a).mono ?_; rintro e w12 ⟨A12a, c12a, D12a, d12a, A12b, c12b, D12b, d12b, rfl, O12a, O12b, O12c, O12d, B12⟩
  try dsimp only at O12a O12b O12c O12d
  have H_na : VN w12 w12.heap.size (.agg #[.bool nar.s, .slice A12a nar.a.length c12a, .slice D12a nar.b.length d12a, .bool nai.s, .slice A12b nai.a.length c12b, .slice D12b nai.b.length d12b]) nar nai := ⟨A12a, c12a, D12a, d12a, A12b, c12b, D12b, d12b, rfl, O12a.rw, O12b.rw, O12c.rw, O12d.rw⟩
  clear O12a O12b O12c O12d
  have S_a := S_a.nx B12
  have H_a := H_a.st B12
  have S_b := S_b.nx B12
  have H_b := H_b.st B12
  have S_x := S_x.nx B12
  have H_x := H_x.st B12
  have S_y := S_y.nx B12
  have H_y := H_y.st B12
  have S_z := S_z.nx B12
  have H_z := H_z.st B12
  have S_l := S_l.nx B12
  have H_l := H_l.st B12
  have S_r := S_r.nx B12
  have H_r := H_r.st B12
  have S_d := S_d.nx B12
  have H_d := H_d.st B12
  have C0 := bt C0 B12
  have L12 := bal w12 (.cells #[.bool nar.s, .slice A12a nar.a.length c12a, .slice D12a nar.b.length d12a, .bool nai.s, .slice A12b nai.a.length c12b, .slice D12b nai.b.length d12b] 26)
  have S_na := SB.new w12 [.bool nar.s, .slice A12a nar.a.length c12a, .slice D12a nar.b.length d12a, .bool nai.s, .slice A12b nai.a.length c12b, .slice D12b nai.b.length d12b] 26
  have S_a := S_a.nx L12
  have H_a := H_a.st L12
  have S_b := S_b.nx L12
  have H_b := H_b.st L12
  have S_x := S_x.nx L12
  have H_x := H_x.st L12
  have S_y := S_y.nx L12
  have H_y := H_y.st L12
  have S_z := S_z.nx L12
  have H_z := H_z.st L12
  have S_l := S_l.nx L12
  have H_l := H_l.st L12
  have S_r := S_r.nx L12
  have H_r := H_r.st L12
  have S_d := S_d.nx L12
  have H_d := H_d.st L12
  have H_na := H_na.st L12
  have C0 := bt C0 L12
  have i0 := S_b.cell 0
  have i1 := S_b.cell 1
  have i2 := S_b.cell 2
  have i3 := S_b.cell 3
  have i4 := S_b.cell 4
  have i5 := S_b.cell 5
  go_wp2_with fail
  clear i0 i1 i2 i3 i4 i5
  refine (o7 _ _ H_b).mono ?_; rintro e w13 ⟨A13a, c13a, D13a, d13a, A13b, c13b, D13b, d13b, rfl, O13a, O13b, O13c, O13d, B13⟩
  try dsimp only at O13a O13b O13c O13d
  have H_nb : VN w13 w13.heap.size (.agg #[.bool nbr.s, .slice A13a nbr.a.length c13a, .slice D13a nbr.b.length d13a, .bool nbi.s, .slice A13b nbi.a.length c13b, .slice D13b nbi.b.length d13b]) nbr nbi := ⟨A13a, c13a, D13a, d13a, A13b, c13b, D13b, d13b, rfl, O13a.rw, O13b.rw, O13c.rw, O13d.rw⟩
  clear O13a O13b O13c O13d
  have S_a := S_a.nx B13
  have H_a := H_a.st B13
  have S_b := S_b.nx B13
  have H_b := H_b.st B13
  have S_x := S_x.nx B13
  have H_x := H_x.st B13
  have S_y := S_y.nx B13
  have H_y := H_y.st B13
  have S_z := S_z.nx B13
  have H_z := H_z.st B13
  have S_l := S_l.nx B13
  have H_l := H_l.st B13
  have S_r := S_r.nx B13
  have H_r := H_r.st B13
  have S_d := S_d.nx B13
  have H_d := H_d.st B13
  have S_na := S_na.nx B13
  have H_na := H_na.st B13
  have C0 := bt C0 B13
  have L13 := bal w13 (.cells #[.bool nbr.s, .slice A13a nbr.a.length c13a, .slice D13a nbr.b.length d13a, .bool nbi.s, .slice A13b nbi.a.length c13b, .slice D13b nbi.b.length d13b] 26)
  have S_nb := SB.new w13 [.bool nbr.s, .slice A13a nbr.a.length c13a, .slice D13a nbr.b.length d13a, .bool nbi.s, .slice A13b nbi.a.length c13b, .slice D13b nbi.b.length d13b] 26
  have S_a := S_a.nx L13
  have H_a := H_a.st L13
  have S_b := S_b.nx L13
  have H_b := H_b.st L13
  have S_x := S_x.nx L13
  have H_x := H_x.st L13
  have S_y := S_y.nx L13
  have H_y := H_y.st L13
  have S_z := S_z.nx L13
  have H_z := H_z.st L13
  have S_l := S_l.nx L13
  have H_l := H_l.st L13
  have S_r := S_r.nx L13
  have H_r := H_r.st L13
  have S_d := S_d.nx L13
  have H_d := H_d.st L13
  have S_na := S_na.nx L13
  have H_na := H_na.st L13
  have H_nb := H_nb.st L13
  have C0 := bt C0 L13
  have i0 := S_na.cell 0
  have i1 := S_na.cell 1
  have i2 := S_na.cell 2
  have i3 := S_na.cell 3
  have i4 := S_na.cell 4
  have i5 := S_na.cell 5
  go_wp2_with fail
  clear i0 i1 i2 i3 i4 i5
  refine (o8 _ _ H_na).mono ?_; rintro e w14 ⟨A14a, c14a, D14a, d14a, A14b, c14b, D14b, d14b, rfl, O14a, O14b, O14c, O14d, B14⟩
  try dsimp only at O14a O14b O14c O14d
  have H_nn : VN w14 w14.heap.size (.agg #[.bool ra.s, .slice A14a ra.a.length c14a, .slice D14a ra.b.length d14a, .bool ia.s, .slice A14b ia.a.length c14b, .slice D14b ia.b.length d14b]) ra ia := ⟨A14a, c14a, D14a, d14a, A14b, c14b, D14b, d14b, rfl, O14a.rw, O14b.rw, O14c.rw, O14d.rw⟩
  clear O14a O14b O14c O14d
  have S_a := S_a.nx B14
  have H_a := H_a.st B14
  have S_b := S_b.nx B14
  have H_b := H_b.st B14
  have S_x := S_x.nx B14
  have H_x := H_x.st B14
  have S_y := S_y.nx B14
  have H_y := H_y.st B14
  have S_z := S_z.nx B14
  have H_z := H_z.st B14
  have S_l := S_l.nx B14
  have H_l := H_l.st B14
  have S_r := S_r.nx B14
  have H_r := H_r.st B14
  have S_d := S_d.nx B14
  have H_d := H_d.st B14
  have S_na := S_na.nx B14
  have H_na := H_na.st B14
  have S_nb := S_nb.nx B14
  have H_nb := H_nb.st B14
  have C0 := bt C0 B14
  have L14 := bal w14 (.cells #[.bool ra.s, .slice A14a ra.a.length c14a, .slice D14a ra.b.length d14a, .bool ia.s, .slice A14b ia.a.length c14b, .slice D14b ia.b.length d14b] 26)
  have S_nn := SB.new w14 [.bool ra.s, .slice A14a ra.a.length c14a, .slice D14a ra.b.length d14a, .bool ia.s, .slice A14b ia.a.length c14b, .slice D14b ia.b.length d14b] 26
  have S_a := S_a.nx L14
  have H_a := H_a.st L14
  have S_b := S_b.nx L14
  have H_b := H_b.st L14
  have S_x := S_x.nx L14
  have H_x := H_x.st L14
  have S_y := S_y.nx L14
  have H_y := H_y.st L14
  have S_z := S_z.nx L14
  have H_z := H_z.st L14
  have S_l := S_l.nx L14
  have H_l := H_l.st L14
  have S_r := S_r.nx L14
  have H_r := H_r.st L14
  have S_d := S_d.nx L14
  have H_d := H_d.st L14
  have S_na := S_na.nx L14
  have H_na := H_na.st L14
  have S_nb := S_nb.nx L14
  have H_nb := H_nb.st L14
  have H_nn := H_nn.st L14
  have C0 := bt C0 L14
  have i0 := S_na.cell 0
  have i1 := S_na.cell 1
  have i2 := S_na.cell 2
  have i3 := S_na.cell 3
  have i4 := S_na.cell 4
  have i5 := S_na.cell 5
  have j0 := S_nb.cell 0
  have j1 := S_nb.cell 1
  have j2 := S_nb.cell 2
  have j3 := S_nb.cell 3
  have j4 := S_nb.cell 4
  have j5 := S_nb.cell 5
  go_wp2_with fail
  clear i0 i1 i2 i3 i4 i5
  clear j0 j1 j2 j3 j4 j5
  refine (o9 _ _ _ H_na H_nb).mono ?_; rintro e w15 ⟨A15a, c15a, D15a, d15a, A15b, c15b, D15b, d15b, rfl, O15a, O15b, O15c, O15d, B15⟩
  try dsimp only at O15a O15b O15c O15d
  have H_bo : VN w15 w15.heap.size (.agg #[.bool br.s, .slice A15a br.a.length c15a, .slice D15a br.b.length d15a, .bool bi.s, .slice A15b bi.a.length c15b, .slice D15b bi.b.length d15b]) br bi := ⟨A15a, c15a, D15a, d15a, A15b, c15b, D15b, d15b, rfl, O15a.rw, O15b.rw, O15c.rw, O15d.rw⟩
  clear O15a O15b O15c O15d
  have S_a := S_a.nx B15
  have H_a := H_a.st B15
  have S_b := S_b.nx B15
  have H_b := H_b.st B15
  have S_x := S_x.nx B15
  have H_x := H_x.st B15
  have S_y := S_y.nx B15
  have H_y := H_y.st B15
  have S_z := S_z.nx B15
  have H_z := H_z.st B15
  have S_l := S_l.nx B15
  have H_l := H_l.st B15
  have S_r := S_r.nx B15
  have H_r := H_r.st B15
  have S_d := S_d.nx B15
  have H_d := H_d.st B15
  have S_na := S_na.nx B15
  have H_na := H_na.st B15
  have S_nb := S_nb.nx B15
  have H_nb := H_nb.st B15
  have S_nn := S_nn.nx B15
  have H_nn := H_nn.st B15
  have C0 := bt C0 B15
  have L15 := bal w15 (.cells #[.bool br.s, .slice A15a br.a.length c15a, .slice D15a br.b.length d15a, .bool bi.s, .slice A15b bi.a.length c15b, .slice D15b bi.b.length d15b] 26)
  have S_bo := SB.new w15 [.bool br.s, .slice A15a br.a.length c15a, .slice D15a br.b.length d15a, .bool bi.s, .slice A15b bi.a.length c15b, .slice D15b bi.b.length d15b] 26
  have S_a := S_a.nx L15
  have H_a := H_a.st L15
  have S_b := S_b.nx L15
  have H_b := H_b.st L15
  have S_x := S_x.nx L15
  have H_x := H_x.st L15
  have S_y := S_y.nx L15
  have H_y := H_y.st L15
  have S_z := S_z.nx L15
  have H_z := H_z.st L15
  have S_l := S_l.nx L15
  have H_l := H_l.st L15
  have S_r := S_r.nx L15
  have H_r := H_r.st L15
  have S_d := S_d.nx L15
  have H_d := H_d.st L15
  have S_na := S_na.nx L15
  have H_na := H_na.st L15
  have S_nb := S_nb.nx L15
  have H_nb := H_nb.st L15
  have S_nn := S_nn.nx L15
  have H_nn := H_nn.st L15
  have H_bo := H_bo.st L15
  have C0 := bt C0 L15
  have i0 := S_x.cell 0
  have i1 := S_x.cell 1
  have i2 := S_x.cell 2
  have i3 := S_x.cell 3
  have i4 := S_x.cell 4
  have i5 := S_x.cell 5
  go_wp2_with fail
  clear i0 i1 i2 i3 i4 i5
  refine (o10 _ _ H_x).mono ?_; rintro e w16 ⟨A16a, c16a, D16a, d16a, A16b, c16b, D16b, d16b, rfl, O16a, O16b, O16c, O16d, B16⟩
  try dsimp only at O16a O16b O16c O16d
  have H_no : VN w16 w16.heap.size (.agg #[.bool br.s, .slice A16a br.a.length c16a, .slice D16a br.b.length d16a, .bool bi.s, .slice A16b bi.a.length c16b, .slice D16b bi.b.length d16b]) br bi := ⟨A16a, c16a, D16a, d16a, A16b, c16b, D16b, d16b, rfl, O16a.rw, O16b.rw, O16c.rw, O16d.rw⟩
  clear O16a O16b O16c O16d
  have S_a := S_a.nx B16
  have H_a := H_a.st B16
  have S_b := S_b.nx B16
  have H_b := H_b.st B16
  have S_x := S_x.nx B16
  have H_x := H_x.st B16
  have S_y := S_y.nx B16
  have H_y := H_y.st B16
  have S_z := S_z.nx B16
  have H_z := H_z.st B16
  have S_l := S_l.nx B16
  have H_l := H_l.st B16
  have S_r := S_r.nx B16
  have H_r := H_r.st B16
  have S_d := S_d.nx B16
  have H_d := H_d.st B16
  have S_na := S_na.nx B16
  have H_na := H_na.st B16
  have S_nb := S_nb.nx B16
  have H_nb := H_nb.st B16
  have S_nn := S_nn.nx B16
  have H_nn := H_nn.st B16
  have S_bo := S_bo.nx B16
  have H_bo := H_bo.st B16
  have C0 := bt C0 B16
  have L16 := bal w16 (.cells #[.bool br.s, .slice A16a br.a.length c16a, .slice D16a br.b.length d16a, .bool bi.s, .slice A16b bi.a.length c16b, .slice D16b bi.b.length d16b] 26)
  have S_no := SB.new w16 [.bool br.s, .slice A16a br.a.length c16a, .slice D16a br.b.length d16a, .bool bi.s, .slice A16b bi.a.length c16b, .slice D16b bi.b.length d16b] 26
  have S_a := S_a.nx L16
  have H_a := H_a.st L16
  have S_b := S_b.nx L16
  have H_b := H_b.st L16
  have S_x := S_x.nx L16
  have H_x := H_x.st L16
  have S_y := S_y.nx L16
  have H_y := H_y.st L16
  have S_z := S_z.nx L16
  have H_z := H_z.st L16
  have S_l := S_l.nx L16
  have H_l := H_l.st L16
  have S_r := S_r.nx L16
  have H_r := H_r.st L16
  have S_d := S_d.nx L16
  have H_d := H_d.st L16
  have S_na := S_na.nx L16
  have H_na := H_na.st L16
  have S_nb := S_nb.nx L16
  have H_nb := H_nb.st L16
  have S_nn := S_nn.nx L16
  have H_nn := H_nn.st L16
  have S_bo := S_bo.nx L16
  have H_bo := H_bo.st L16
  have H_no := H_no.st L16
  have C0 := bt C0 L16
  go_wp2_with fail
  go_ret
  exact ⟨rfl, C0⟩
set_option maxRecDepth 100000 in
set_option maxHeartbeats 16000000 in
theorem bitsLaws_good03 (V : Value) (ra ia : Rw) (U : Value) (rb ib : Rw) (w : World) (hV : VN w w.heap.size V ra ia) (hU : VN w w.heap.size U rb ib) (mr mi dr di sr si : Rw) (mk dk sk : Int) (em : qbothA (· &&& ·) ra ia rb ib = (mr, mi, mk)) (ed : qbothA (· ||| ·) ra ia rb ib = (dr, di, dk)) (es : qbothA (· ^^^ ·) ra ia rb ib = (sr, si, sk)) (hm : mk = 0) (hd : dk = 0) (hs : sk = 0) (lr li : Rw) (lk : Int) (el : qaddA ra ia rb ib = (lr, li, lk)) (hl : lk = 0)
    (nar nai nbr nbi nnr nni br bi nr ni : Rw) (nak nbk nnk hk ik : Int) (ena : qnotA ra ia = (nar, nai, nak)) (enb : qnotA rb ib = (nbr, nbi, nbk)) (enn : qnotA nar nai = (nnr, nni, nnk)) (ebo : qbothA (· ||| ·) nar nai nbr nbi = (br, bi, hk)) (eno : qnotA mr mi = (nr, ni, ik)) (hq : nak = 0 ∧ nbk = 0 ∧ hk = 0) : Calls Try.prog 6 #[V, U] w fun e w' => e = .returned (.bool true) ∧ Below w.heap.size w w' := by
  subst hm hd hs
  have o0 := fun V U w' h1 h2 => band_any V U ra ia rb ib w' h1 h2
  have o1 := fun V U w' h1 h2 => bor_any V U ra ia rb ib w' h1 h2
  have o2 := fun V U w' h1 h2 => bxor_any V U ra ia rb ib w' h1 h2
  rw [em] at o0
  rw [ed] at o1
  rw [es] at o2
  obtain ⟨g1, g2, g3, g4, g5, g6, g7⟩ := laws_good em ed es
  have o3 := fun V U w' h1 h2 => eadd_any (V := V) (U := U) (r := mr) (i := mi) (r' := dr) (i' := di) (w := w') h1 h2
  have o4 := fun V U w' h1 h2 => eadd_any (V := V) (U := U) (r := ra) (i := ia) (r' := rb) (i' := ib) (w := w') h1 h2
  have o5 := fun V U w' h1 h2 => esub_any (V := V) (U := U) (r := dr) (i := di) (r' := mr) (i' := mi) (w := w') h1 h2
  have o6 := fun V w' h1 => bnot_any V ra ia w' h1
  have o7 := fun V w' h1 => bnot_any V rb ib w' h1
  have o8 := fun V w' h1 => bnot_any V nar nai w' h1
  have o9 := fun V U w' h1 h2 => bor_any V U nar nai nbr nbi w' h1 h2
  have o10 := fun V w' h1 => bnot_any V mr mi w' h1
  rw [g1, el] at o3
  rw [el] at o4
  rw [g2] at o5
  rw [qboth_not, ena] at o6
  rw [qboth_not, enb] at o7
  rw [qboth_not, enn] at o8
  rw [ebo] at o9
  rw [qboth_not, eno] at o10
  have l0 := fun V U w' h1 h2 => esame_any V U sr si sr si w' h1 h2
  rw [g3] at l0
  subst hl
  have l1 := fun V U w' h1 h2 => esame_any V U lr li lr li w' h1 h2
  rw [g5 lr li el] at l1
  obtain ⟨q1, q2, q3⟩ := hq
  subst q1 q2
  obtain ⟨g8, g9⟩ := g6 nar nai nbr nbi ena enb
  rw [enn] at g8
  rw [ebo, eno] at g9
  simp only [Prod.mk.injEq] at g8 g9
  obtain ⟨r1, r2, r3⟩ := g8
  obtain ⟨r4, r5, r6⟩ := g9
  have r1 := r1.symm
  have r2 := r2.symm
  subst r1 r2 r3 r4 r5 r6
  subst q3
  have l2 := fun V U w' h1 h2 => esame_any V U ra ia ra ia w' h1 h2
  rw [g4] at l2
  have l3 := fun V U w' h1 h2 => esame_any V U br bi br bi w' h1 h2
  rw [g7 br bi eno] at l3
  clear g1 g2 g3 g4 g5 g6 g7 em ed es el ena enb enn ebo eno 
  obtain ⟨A1, c1, D1, d1, A2, c2, D2, d2, rfl, p1, p2, p3, p4⟩ := hV
  obtain ⟨A3, c3, D3, d3, A4, c4, D4, d4, rfl, p5, p6, p7, p8⟩ := hU
  obtain ⟨S_a, S_b, C0⟩ := T2.new w [.bool ra.s, .slice A1 ra.a.length c1, .slice D1 ra.b.length d1, .bool ia.s, .slice A2 ia.a.length c2, .slice D2 ia.b.length d2] [.bool rb.s, .slice A3 rb.a.length c3, .slice D3 rb.b.length d3, .bool ib.s, .slice A4 ib.a.length c4, .slice D4 ib.b.length d4] 26 26
  have H_a : VN w w.heap.size (.agg #[.bool ra.s, .slice A1 ra.a.length c1, .slice D1 ra.b.length d1, .bool ia.s, .slice A2 ia.a.length c2, .slice D2 ia.b.length d2]) ra ia := ⟨A1, c1, D1, d1, A2, c2, D2, d2, rfl, p1, p2, p3, p4⟩
  have H_a := H_a.st C0
  have H_b : VN w w.heap.size (.agg #[.bool rb.s, .slice A3 rb.a.length c3, .slice D3 rb.b.length d3, .bool ib.s, .slice A4 ib.a.length c4, .slice D4 ib.b.length d4]) rb ib := ⟨A3, c3, D3, d3, A4, c4, D4, d4, rfl, p5, p6, p7, p8⟩
  have H_b := H_b.st C0
  clear p1 p2 p3 p4 p5 p6 p7 p8
  obtain ⟨W0, hW0⟩ : ∃ W0, W0 = (w.alloc (.cells #[.bool ra.s, .slice A1 ra.a.length c1, .slice D1 ra.b.length d1, .bool ia.s, .slice A2 ia.a.length c2, .slice D2 ia.b.length d2] 26)).alloc (.cells #[.bool rb.s, .slice A3 rb.a.length c3, .slice D3 rb.b.length d3, .bool ib.s, .slice A4 ib.a.length c4, .slice D4 ib.b.length d4] 26) := ⟨_, rfl⟩
  go_enter Try.func6, Try.ntmps6
  have i0 := S_a.cell 0
  have i1 := S_a.cell 1
  have i2 := S_a.cell 2
  have i3 := S_a.cell 3
  have i4 := S_a.cell 4
  have i5 := S_a.cell 5
  have j0 := S_b.cell 0
  have j1 := S_b.cell 1
  have j2 := S_b.cell 2
  have j3 := S_b.cell 3
  have j4 := S_b.cell 4
  have j5 := S_b.cell 5
  go_wp2_with fail
  rw [← hW0] at S_a S_b C0 H_a H_b ⊢
  clear hW0
  clear i0 i1 i2 i3 i4 i5
  clear j0 j1 j2 j3 j4 j5
  refine (o0 _ _ _ H_a H_b).mono ?_; rintro e w3 ⟨A3a, c3a, D3a, d3a, A3b, c3b, D3b, d3b, rfl, O3a, O3b, O3c, O3d, B3⟩
  try dsimp only at O3a O3b O3c O3d
  have H_x : VN w3 w3.heap.size (.agg #[.bool mr.s, .slice A3a mr.a.length c3a, .slice D3a mr.b.length d3a, .bool mi.s, .slice A3b mi.a.length c3b, .slice D3b mi.b.length d3b]) mr mi := ⟨A3a, c3a, D3a, d3a, A3b, c3b, D3b, d3b, rfl, O3a.rw, O3b.rw, O3c.rw, O3d.rw⟩
  clear O3a O3b O3c O3d
  have S_a := S_a.nx B3
  have H_a := H_a.st B3
  have S_b := S_b.nx B3
  have H_b := H_b.st B3
  have C0 := bt C0 B3
  have L3 := bal w3 (.cells #[.bool mr.s, .slice A3a mr.a.length c3a, .slice D3a mr.b.length d3a, .bool mi.s, .slice A3b mi.a.length c3b, .slice D3b mi.b.length d3b] 26)
  have S_x := SB.new w3 [.bool mr.s, .slice A3a mr.a.length c3a, .slice D3a mr.b.length d3a, .bool mi.s, .slice A3b mi.a.length c3b, .slice D3b mi.b.length d3b] 26
  have S_a := S_a.nx L3
  have H_a := H_a.st L3
  have S_b := S_b.nx L3
  have H_b := H_b.st L3
  have H_x := H_x.st L3
  have C0 := bt C0 L3
  have i0 := S_a.cell 0
  have i1 := S_a.cell 1
  have i2 := S_a.cell 2
  have i3 := S_a.cell 3
  have i4 := S_a.cell 4
  have i5 := S_a.cell 5
  have j0 := S_b.cell 0
  have j1 := S_b.cell 1
  have j2 := S_b.cell 2
  have j3 := S_b.cell 3
  have j4 := S_b.cell 4
  have j5 := S_b.cell 5
  go_wp2_with fail
  clear i0 i1 i2 i3 i4 i5
  clear j0 j1 j2 j3 j4 j5
  refine (o1 _ _ _ H_a H_b).mono ?_; rintro e w4 ⟨A4a, c4a, D4a, d4a, A4b, c4b, D4b, d4b, rfl, O4a, O4b, O4c, O4d, B4⟩
  try dsimp only at O4a O4b O4c O4d
  have H_y : VN w4 w4.heap.size (.agg #[.bool dr.s, .slice A4a dr.a.length c4a, .slice D4a dr.b.length d4a, .bool di.s, .slice A4b di.a.length c4b, .slice D4b di.b.length d4b]) dr di := ⟨A4a, c4a, D4a, d4a, A4b, c4b, D4b, d4b, rfl, O4a.rw, O4b.rw, O4c.rw, O4d.rw⟩
  clear O4a O4b O4c O4d
  have S_a := S_a.nx B4
  have H_a := H_a.st B4
  have S_b := S_b.nx B4
  have H_b := H_b.st B4
  have S_x := S_x.nx B4
  have H_x := H_x.st B4
  have C0 := bt C0 B4
  have L4 := bal w4 (.cells #[.bool dr.s, .slice A4a dr.a.length c4a, .slice D4a dr.b.length d4a, .bool di.s, .slice A4b di.a.length c4b, .slice D4b di.b.length d4b] 26)
  have S_y := SB.new w4 [.bool dr.s, .slice A4a dr.a.length c4a, .slice D4a dr.b.length d4a, .bool di.s, .slice A4b di.a.length c4b, .slice D4b di.b.length d4b] 26
  have S_a := S_a.nx L4
  have H_a := H_a.st L4
  have S_b := S_b.nx L4
  have H_b := H_b.st L4
  have S_x := S_x.nx L4
  have H_x := H_x.st L4
  have H_y := H_y.st L4
  have C0 := bt C0 L4
  have i0 := S_a.cell 0
  have i1 := S_a.cell 1
  have i2 := S_a.cell 2
  have i3 := S_a.cell 3
  have i4 := S_a.cell 4
  have i5 := S_a.cell 5
  have j0 := S_b.cell 0
  have j1 := S_b.cell 1
  have j2 := S_b.cell 2
  have j3 := S_b.cell 3
  have j4 := S_b.cell 4
  have j5 := S_b.cell 5
  go_wp2_with fail
  clear i0 i1 i2 i3 i4 i5
  clear j0 j1 j2 j3 j4 j5
  refine (o2 _ _ _ H_a H_b).mono ?_; rintro e w5 ⟨A5a, c5a, D5a, d5a, A5b, c5b, D5b, d5b, rfl, O5a, O5b, O5c, O5d, B5⟩
  try dsimp only at O5a O5b O5c O5d
  have H_z : VN w5 w5.heap.size (.agg #[.bool sr.s, .slice A5a sr.a.length c5a, .slice D5a sr.b.length d5a, .bool si.s, .slice A5b si.a.length c5b, .slice D5b si.b.length d5b]) sr si := ⟨A5a, c5a, D5a, d5a, A5b, c5b, D5b, d5b, rfl, O5a.rw, O5b.rw, O5c.rw, O5d.rw⟩
  clear O5a O5b O5c O5d
  have S_a := S_a.nx B5
  have H_a := H_a.st B5
  have S_b := S_b.nx B5
  have H_b := H_b.st B5
  have S_x := S_x.nx B5
  have H_x := H_x.st B5
  have S_y := S_y.nx B5
  have H_y := H_y.st B5
  have C0 := bt C0 B5
  have L5 := bal w5 (.cells #[.bool sr.s, .slice A5a sr.a.length c5a, .slice D5a sr.b.length d5a, .bool si.s, .slice A5b si.a.length c5b, .slice D5b si.b.length d5b] 26)
  have S_z := SB.new w5 [.bool sr.s, .slice A5a sr.a.length c5a, .slice D5a sr.b.length d5a, .bool si.s, .slice A5b si.a.length c5b, .slice D5b si.b.length d5b] 26
  have S_a := S_a.nx L5
  have H_a := H_a.st L5
  have S_b := S_b.nx L5
  have H_b := H_b.st L5
  have S_x := S_x.nx L5
  have H_x := H_x.st L5
  have S_y := S_y.nx L5
  have H_y := H_y.st L5
  have H_z := H_z.st L5
  have C0 := bt C0 L5
  go_wp2_with fail
  refine (awake4_any _).mono ?_; rintro e w6 ⟨rfl, B6⟩
  have S_a := S_a.nx B6
  have H_a := H_a.st B6
  have S_b := S_b.nx B6
  have H_b := H_b.st B6
  have S_x := S_x.nx B6
  have H_x := H_x.st B6
  have S_y := S_y.nx B6
  have H_y := H_y.st B6
  have S_z := S_z.nx B6
  have H_z := H_z.st B6
  have C0 := bt C0 B6
  have i0 := S_x.cell 0
  have i1 := S_x.cell 1
  have i2 := S_x.cell 2
  have i3 := S_x.cell 3
  have i4 := S_x.cell 4
  have i5 := S_x.cell 5
  have j0 := S_y.cell 0
  have j1 := S_y.cell 1
  have j2 := S_y.cell 2
  have j3 := S_y.cell 3
  have j4 := S_y.cell 4
  have j5 := S_y.cell 5
  go_wp2_with fail
  clear i0 i1 i2 i3 i4 i5
  clear j0 j1 j2 j3 j4 j5
  refine (o3 _ _ _ H_x H_y).mono ?_; rintro e w7 ⟨A7a, c7a, D7a, d7a, A7b, c7b, D7b, d7b, rfl, O7a, O7b, O7c, O7d, B7⟩
  try dsimp only at O7a O7b O7c O7d
  have H_l : VN w7 w7.heap.size (.agg #[.bool lr.s, .slice A7a lr.a.length c7a, .slice D7a lr.b.length d7a, .bool li.s, .slice A7b li.a.length c7b, .slice D7b li.b.length d7b]) lr li := ⟨A7a, c7a, D7a, d7a, A7b, c7b, D7b, d7b, rfl, O7a.rw, O7b.rw, O7c.rw, O7d.rw⟩
  clear O7a O7b O7c O7d
  have S_a := S_a.nx B7
  have H_a := H_a.st B7
  have S_b := S_b.nx B7
  have H_b := H_b.st B7
  have S_x := S_x.nx B7
  have H_x := H_x.st B7
  have S_y := S_y.nx B7
  have H_y := H_y.st B7
  have S_z := S_z.nx B7
  have H_z := H_z.st B7
  have C0 := bt C0 B7
  have L7 := bal w7 (.cells #[.bool lr.s, .slice A7a lr.a.length c7a, .slice D7a lr.b.length d7a, .bool li.s, .slice A7b li.a.length c7b, .slice D7b li.b.length d7b] 26)
  have S_l := SB.new w7 [.bool lr.s, .slice A7a lr.a.length c7a, .slice D7a lr.b.length d7a, .bool li.s, .slice A7b li.a.length c7b, .slice D7b li.b.length d7b] 26
  have S_a := S_a.nx L7
  have H_a := H_a.st L7
  have S_b := S_b.nx L7
  have H_b := H_b.st L7
  have S_x := S_x.nx L7
  have H_x := H_x.st L7
  have S_y := S_y.nx L7
  have H_y := H_y.st L7
  have S_z := S_z.nx L7
  have H_z := H_z.st L7
  have H_l := H_l.st L7
  have C0 := bt C0 L7
  have i0 := S_a.cell 0
  have i1 := S_a.cell 1
  have i2 := S_a.cell 2
  have i3 := S_a.cell 3
  have i4 := S_a.cell 4
  have i5 := S_a.cell 5
  have j0 := S_b.cell 0
  have j1 := S_b.cell 1
  have j2 := S_b.cell 2
  have j3 := S_b.cell 3
  have j4 := S_b.cell 4
  have j5 := S_b.cell 5
  go_wp2_with fail
  clear i0 i1 i2 i3 i4 i5
  clear j0 j1 j2 j3 j4 j5
  refine (o4 _ _ _ H_a H_b).mono ?_; rintro e w8 ⟨A8a, c8a, D8a, d8a, A8b, c8b, D8b, d8b, rfl, O8a, O8b, O8c, O8d, B8⟩
  try dsimp only at O8a O8b O8c O8d
  have H_r : VN w8 w8.heap.size (.agg #[.bool lr.s, .slice A8a lr.a.length c8a, .slice D8a lr.b.length d8a, .bool li.s, .slice A8b li.a.length c8b, .slice D8b li.b.length d8b]) lr li := ⟨A8a, c8a, D8a, d8a, A8b, c8b, D8b, d8b, rfl, O8a.rw, O8b.rw, O8c.rw, O8d.rw⟩
  clear O8a O8b O8c O8d
  have S_a := S_a.nx B8
  have H_a := H_a.st B8
  have S_b := S_b.nx B8
  have H_b := H_b.st B8
  have S_x := S_x.nx B8
  have H_x := H_x.st B8
  have S_y := S_y.nx B8
  have H_y := H_y.st B8
  have S_z := S_z.nx B8
  have H_z := H_z.st B8
  have S_l := S_l.nx B8
  have H_l := H_l.st B8
  have C0 := bt C0 B8
  have L8 := bal w8 (.cells #[.bool lr.s, .slice A8a lr.a.length c8a, .slice D8a lr.b.length d8a, .bool li.s, .slice A8b li.a.length c8b, .slice D8b li.b.length d8b] 26)
  have S_r := SB.new w8 [.bool lr.s, .slice A8a lr.a.length c8a, .slice D8a lr.b.length d8a, .bool li.s, .slice A8b li.a.length c8b, .slice D8b li.b.length d8b] 26
  have S_a := S_a.nx L8
  have H_a := H_a.st L8
  have S_b := S_b.nx L8
  have H_b := H_b.st L8
  have S_x := S_x.nx L8
  have H_x := H_x.st L8
  have S_y := S_y.nx L8
  have H_y := H_y.st L8
  have S_z := S_z.nx L8
  have H_z := H_z.st L8
  have S_l := S_l.nx L8
  have H_l := H_l.st L8
  have H_r := H_r.st L8
  have C0 := bt C0 L8
  have i0 := S_y.cell 0
  have i1 := S_y.cell 1
  have i2 := S_y.cell 2
  have i3 := S_y.cell 3
  have i4 := S_y.cell 4
  have i5 := S_y.cell 5
  have j0 := S_x.cell 0
  have j1 := S_x.cell 1
  have j2 := S_x.cell 2
  have j3 := S_x.cell 3
  have j4 := S_x.cell 4
  have j5 := S_x.cell 5
  go_wp2_with fail
  clear i0 i1 i2 i3 i4 i5
  clear j0 j1 j2 j3 j4 j5
  refine (o5 _ _ _ H_y H_x).mono ?_; rintro e w9 ⟨A9a, c9a, D9a, d9a, A9b, c9b, D9b, d9b, rfl, O9a, O9b, O9c, O9d, B9⟩
  try dsimp only at O9a O9b O9c O9d
  have H_d : VN w9 w9.heap.size (.agg #[.bool sr.s, .slice A9a sr.a.length c9a, .slice D9a sr.b.length d9a, .bool si.s, .slice A9b si.a.length c9b, .slice D9b si.b.length d9b]) sr si := ⟨A9a, c9a, D9a, d9a, A9b, c9b, D9b, d9b, rfl, O9a.rw, O9b.rw, O9c.rw, O9d.rw⟩
  clear O9a O9b O9c O9d
  have S_a := S_a.nx B9
  have H_a := H_a.st B9
  have S_b := S_b.nx B9
  have H_b := H_b.st B9
  have S_x := S_x.nx B9
  have H_x := H_x.st B9
  have S_y := S_y.nx B9
  have H_y := H_y.st B9
  have S_z := S_z.nx B9
  have H_z := H_z.st B9
  have S_l := S_l.nx B9
  have H_l := H_l.st B9
  have S_r := S_r.nx B9
  have H_r := H_r.st B9
  have C0 := bt C0 B9
  have L9 := bal w9 (.cells #[.bool sr.s, .slice A9a sr.a.length c9a, .slice D9a sr.b.length d9a, .bool si.s, .slice A9b si.a.length c9b, .slice D9b si.b.length d9b] 26)
  have S_d := SB.new w9 [.bool sr.s, .slice A9a sr.a.length c9a, .slice D9a sr.b.length d9a, .bool si.s, .slice A9b si.a.length c9b, .slice D9b si.b.length d9b] 26
  have S_a := S_a.nx L9
  have H_a := H_a.st L9
  have S_b := S_b.nx L9
  have H_b := H_b.st L9
  have S_x := S_x.nx L9
  have H_x := H_x.st L9
  have S_y := S_y.nx L9
  have H_y := H_y.st L9
  have S_z := S_z.nx L9
  have H_z := H_z.st L9
  have S_l := S_l.nx L9
  have H_l := H_l.st L9
  have S_r := S_r.nx L9
  have H_r := H_r.st L9
  have H_d := H_d.st L9
  have C0 := bt C0 L9
  have i0 := S_l.cell 0
  have i1 := S_l.cell 1
  have i2 := S_l.cell 2
  have i3 := S_l.cell 3
  have i4 := S_l.cell 4
  have i5 := S_l.cell 5
  have j0 := S_r.cell 0
  have j1 := S_r.cell 1
  have j2 := S_r.cell 2
  have j3 := S_r.cell 3
  have j4 := S_r.cell 4
  have j5 := S_r.cell 5
  go_wp2_with fail
  refine (l1 _ _ _ H_l H_r).mono ?_; rintro e w10 ⟨rfl, B10⟩
  have S_a := S_a.nx B10
  have H_a := H_a.st B10
  have S_b := S_b.nx B10
  have H_b := H_b.st B10
  have S_x := S_x.nx B10
  have H_x := H_x.st B10
  have S_y := S_y.nx B10
  have H_y := H_y.st B10
  have S_z := S_z.nx B10
  have H_z := H_z.st B10
  have S_l := S_l.nx B10
  have H_l := H_l.st B10
  have S_r := S_r.nx B10
  have H_r := H_r.st B10
  have S_d := S_d.nx B10
  have H_d := H_d.st B10
  have C0 := bt C0 B10
  clear i0 i1 i2 i3 i4 i5
  clear j0 j1 j2 j3 j4 j5
  have i0 := S_d.cell 0
  have i1 := S_d.cell 1
  have i2 := S_d.cell 2
  have i3 := S_d.cell 3
  have i4 := S_d.cell 4
  have i5 := S_d.cell 5
  have j0 := S_z.cell 0
  have j1 := S_z.cell 1
  have j2 := S_z.cell 2
  have j3 := S_z.cell 3
  have j4 := S_z.cell 4
  have j5 := S_z.cell 5
  go_wp2_with fail
  refine (l0 _ _ _ H_d H_z).mono ?_; rintro e w11 ⟨rfl, B11⟩
  have S_a := S_a.nx B11
  have H_a := H_a.st B11
  have S_b := S_b.nx B11
  have H_b := H_b.st B11
  have S_x := S_x.nx B11
  have H_x := H_x.st B11
  have S_y := S_y.nx B11
  have H_y := H_y.st B11
  have S_z := S_z.nx B11
  have H_z := H_z.st B11
  have S_l := S_l.nx B11
  have H_l := H_l.st B11
  have S_r := S_r.nx B11
  have H_r := H_r.st B11
  have S_d := S_d.nx B11
  have H_d := H_d.st B11
  have C0 := bt C0 B11
  clear i0 i1 i2 i3 i4 i5
  clear j0 j1 j2 j3 j4 j5
  have i0 := S_a.cell 0
  have i1 := S_a.cell 1
  have i2 := S_a.cell 2
  have i3 := S_a.cell 3
  have i4 := S_a.cell 4
  have i5 := S_a.cell 5
  go_wp2_with fail
  clear i0 i1 i2 i3 i4 i5
  refine (o6 _ _ H_a).mono ?_; rintro e w12 ⟨A12a, c12a, D12a, d12a, A12b, c12b, D12b, d12b, rfl, O12a, O12b, O12c, O12d, B12⟩
  try dsimp only at O12a O12b O12c O12d
  have H_na : VN w12 w12.heap.size (.agg #[.bool nar.s, .slice A12a nar.a.length c12a, .slice D12a nar.b.length d12a, .bool nai.s, .slice A12b nai.a.length c12b, .slice D12b nai.b.length d12b]) nar nai := ⟨A12a, c12a, D12a, d12a, A12b, c12b, D12b, d12b, rfl, O12a.rw, O12b.rw, O12c.rw, O12d.rw⟩
  clear O12a O12b O12c O12d
  have S_a := S_a.nx B12
  have H_a := H_a.st B12
  have S_b := S_b.nx B12
  have H_b := H_b.st B12
  have S_x := S_x.nx B12
  have H_x := H_x.st B12
  have S_y := S_y.nx B12
  have H_y := H_y.st B12
  have S_z := S_z.nx B12
  have H_z := H_z.st B12
  have S_l := S_l.nx B12
  have H_l := H_l.st B12
  have S_r := S_r.nx B12
  have H_r := H_r.st B12
  have S_d := S_d.nx B12
  have H_d := H_d.st B12
  have C0 := bt C0 B12
  have L12 := bal w12 (.cells #[.bool nar.s, .slice A12a nar.a.length c12a, .slice D12a nar.b.length d12a, .bool nai.s, .slice A12b nai.a.length c12b, .slice D12b nai.b.length d12b] 26)
  have S_na := SB.new w12 [.bool nar.s, .slice A12a nar.a.length c12a, .slice D12a nar.b.length d12a, .bool nai.s, .slice A12b nai.a.length c12b, .slice D12b nai.b.length d12b] 26
  have S_a := S_a.nx L12
  have H_a := H_a.st L12
  have S_b := S_b.nx L12
  have H_b := H_b.st L12
  have S_x := S_x.nx L12
  have H_x := H_x.st L12
  have S_y := S_y.nx L12
  have H_y := H_y.st L12
  have S_z := S_z.nx L12
  have H_z := H_z.st L12
  have S_l := S_l.nx L12
  have H_l := H_l.st L12
  have S_r := S_r.nx L12
  have H_r := H_r.st L12
  have S_d := S_d.nx L12
  have H_d := H_d.st L12
  have H_na := H_na.st L12
  have C0 := bt C0 L12
  have i0 := S_b.cell 0
  have i1 := S_b.cell 1
  have i2 := S_b.cell 2
  have i3 := S_b.cell 3
  have i4 := S_b.cell 4
  have i5 := S_b.cell 5
  go_wp2_with fail
  clear i0 i1 i2 i3 i4 i5
  refine (o7 _ _ H_b).mono ?_; rintro e w13 ⟨A13a, c13a, D13a, d13a, A13b, c13b, D13b, d13b, rfl, O13a, O13b, O13c, O13d, B13⟩
  try dsimp only at O13a O13b O13c O13d
  have H_nb : VN w13 w13.heap.size (.agg #[.bool nbr.s, .slice A13a nbr.a.length c13a, .slice D13a nbr.b.length d13a, .bool nbi.s, .slice A13b nbi.a.length c13b, .slice D13b nbi.b.length d13b]) nbr nbi := ⟨A13a, c13a, D13a, d13a, A13b, c13b, D13b, d13b, rfl, O13a.rw, O13b.rw, O13c.rw, O13d.rw⟩
  clear O13a O13b O13c O13d
  have S_a := S_a.nx B13
  have H_a := H_a.st B13
  have S_b := S_b.nx B13
  have H_b := H_b.st B13
  have S_x := S_x.nx B13
  have H_x := H_x.st B13
  have S_y := S_y.nx B13
  have H_y := H_y.st B13
  have S_z := S_z.nx B13
  have H_z := H_z.st B13
  have S_l := S_l.nx B13
  have H_l := H_l.st B13
  have S_r := S_r.nx B13
  have H_r := H_r.st B13
  have S_d := S_d.nx B13
  have H_d := H_d.st B13
  have S_na := S_na.nx B13
  have H_na := H_na.st B13
  have C0 := bt C0 B13
  have L13 := bal w13 (.cells #[.bool nbr.s, .slice A13a nbr.a.length c13a, .slice D13a nbr.b.length d13a, .bool nbi.s, .slice A13b nbi.a.length c13b, .slice D13b nbi.b.length d13b] 26)
  have S_nb := SB.new w13 [.bool nbr.s, .slice A13a nbr.a.length c13a, .slice D13a nbr.b.length d13a, .bool nbi.s, .slice A13b nbi.a.length c13b, .slice D13b nbi.b.length d13b] 26
  have S_a := S_a.nx L13
  have H_a := H_a.st L13
  have S_b := S_b.nx L13
  have H_b := H_b.st L13
  have S_x := S_x.nx L13
  have H_x := H_x.st L13
  have S_y := S_y.nx L13
  have H_y := H_y.st L13
  have S_z := S_z.nx L13
  have H_z := H_z.st L13
  have S_l := S_l.nx L13
  have H_l := H_l.st L13
  have S_r := S_r.nx L13
  have H_r := H_r.st L13
  have S_d := S_d.nx L13
  have H_d := H_d.st L13
  have S_na := S_na.nx L13
  have H_na := H_na.st L13
  have H_nb := H_nb.st L13
  have C0 := bt C0 L13
  have i0 := S_na.cell 0
  have i1 := S_na.cell 1
  have i2 := S_na.cell 2
  have i3 := S_na.cell 3
  have i4 := S_na.cell 4
  have i5 := S_na.cell 5
  go_wp2_with fail
  clear i0 i1 i2 i3 i4 i5
  refine (o8 _ _ H_na).mono ?_; rintro e w14 ⟨A14a, c14a, D14a, d14a, A14b, c14b, D14b, d14b, rfl, O14a, O14b, O14c, O14d, B14⟩
  try dsimp only at O14a O14b O14c O14d
  have H_nn : VN w14 w14.heap.size (.agg #[.bool ra.s, .slice A14a ra.a.length c14a, .slice D14a ra.b.length d14a, .bool ia.s, .slice A14b ia.a.length c14b, .slice D14b ia.b.length d14b]) ra ia := ⟨A14a, c14a, D14a, d14a, A14b, c14b, D14b, d14b, rfl, O14a.rw, O14b.rw, O14c.rw, O14d.rw⟩
  clear O14a O14b O14c O14d
  have S_a := S_a.nx B14
  have H_a := H_a.st B14
  have S_b := S_b.nx B14
  have H_b := H_b.st B14
  have S_x := S_x.nx B14
  have H_x := H_x.st B14
  have S_y := S_y.nx B14
  have H_y := H_y.st B14
  have S_z := S_z.nx B14
  have H_z := H_z.st B14
  have S_l := S_l.nx B14
  have H_l := H_l.st B14
  have S_r := S_r.nx B14
  have H_r := H_r.st B14
  have S_d := S_d.nx B14
  have H_d := H_d.st B14
  have S_na := S_na.nx B14
  have H_na := H_na.st B14
  have S_nb := S_nb.nx B14
  have H_nb := H_nb.st B14
  have C0 := bt C0 B14
  have L14 := bal w14 (.cells #[.bool ra.s, .slice A14a ra.a.length c14a, .slice D14a ra.b.length d14a, .bool ia.s, .slice A14b ia.a.length c14b, .slice D14b ia.b.length d14b] 26)
  have S_nn := SB.new w14 [.bool ra.s, .slice A14a ra.a.length c14a, .slice D14a ra.b.length d14a, .bool ia.s, .slice A14b ia.a.length c14b, .slice D14b ia.b.length d14b] 26
  have S_a := S_a.nx L14
  have H_a := H_a.st L14
  have S_b := S_b.nx L14
  have H_b := H_b.st L14
  have S_x := S_x.nx L14
  have H_x := H_x.st L14
  have S_y := S_y.nx L14
  have H_y := H_y.st L14
  have S_z := S_z.nx L14
  have H_z := H_z.st L14
  have S_l := S_l.nx L14
  have H_l := H_l.st L14
  have S_r := S_r.nx L14
  have H_r := H_r.st L14
  have S_d := S_d.nx L14
  have H_d := H_d.st L14
  have S_na := S_na.nx L14
  have H_na := H_na.st L14
  have S_nb := S_nb.nx L14
  have H_nb := H_nb.st L14
  have H_nn := H_nn.st L14
  have C0 := bt C0 L14
  have i0 := S_na.cell 0
  have i1 := S_na.cell 1
  have i2 := S_na.cell 2
  have i3 := S_na.cell 3
  have i4 := S_na.cell 4
  have i5 := S_na.cell 5
  have j0 := S_nb.cell 0
  have j1 := S_nb.cell 1
  have j2 := S_nb.cell 2
  have j3 := S_nb.cell 3
  have j4 := S_nb.cell 4
  have j5 := S_nb.cell 5
  go_wp2_with fail
  clear i0 i1 i2 i3 i4 i5
  clear j0 j1 j2 j3 j4 j5
  refine (o9 _ _ _ H_na H_nb).mono ?_; rintro e w15 ⟨A15a, c15a, D15a, d15a, A15b, c15b, D15b, d15b, rfl, O15a, O15b, O15c, O15d, B15⟩
  try dsimp only at O15a O15b O15c O15d
  have H_bo : VN w15 w15.heap.size (.agg #[.bool br.s, .slice A15a br.a.length c15a, .slice D15a br.b.length d15a, .bool bi.s, .slice A15b bi.a.length c15b, .slice D15b bi.b.length d15b]) br bi := ⟨A15a, c15a, D15a, d15a, A15b, c15b, D15b, d15b, rfl, O15a.rw, O15b.rw, O15c.rw, O15d.rw⟩
  clear O15a O15b O15c O15d
  have S_a := S_a.nx B15
  have H_a := H_a.st B15
  have S_b := S_b.nx B15
  have H_b := H_b.st B15
  have S_x := S_x.nx B15
  have H_x := H_x.st B15
  have S_y := S_y.nx B15
  have H_y := H_y.st B15
  have S_z := S_z.nx B15
  have H_z := H_z.st B15
  have S_l := S_l.nx B15
  have H_l := H_l.st B15
  have S_r := S_r.nx B15
  have H_r := H_r.st B15
  have S_d := S_d.nx B15
  have H_d := H_d.st B15
  have S_na := S_na.nx B15
  have H_na := H_na.st B15
  have S_nb := S_nb.nx B15
  have H_nb := H_nb.st B15
  have S_nn := S_nn.nx B15
  have H_nn := H_nn.st B15
  have C0 := bt C0 B15
  have L15 := bal w15 (.cells #[.bool br.s, .slice A15a br.a.length c15a, .slice D15a br.b.length d15a, .bool bi.s, .slice A15b bi.a.length c15b, .slice D15b bi.b.length d15b] 26)
  have S_bo := SB.new w15 [.bool br.s, .slice A15a br.a.length c15a, .slice D15a br.b.length d15a, .bool bi.s, .slice A15b bi.a.length c15b, .slice D15b bi.b.length d15b] 26
  have S_a := S_a.nx L15
  have H_a := H_a.st L15
  have S_b := S_b.nx L15
  have H_b := H_b.st L15
  have S_x := S_x.nx L15
  have H_x := H_x.st L15
  have S_y := S_y.nx L15
  have H_y := H_y.st L15
  have S_z := S_z.nx L15
  have H_z := H_z.st L15
  have S_l := S_l.nx L15
  have H_l := H_l.st L15
  have S_r := S_r.nx L15
  have H_r := H_r.st L15
  have S_d := S_d.nx L15
  have H_d := H_d.st L15
  have S_na := S_na.nx L15
  have H_na := H_na.st L15
  have S_nb := S_nb.nx L15
  have H_nb := H_nb.st L15
  have S_nn := S_nn.nx L15
  have H_nn := H_nn.st L15
  have H_bo := H_bo.st L15
  have C0 := bt C0 L15
  have i0 := S_x.cell 0
  have i1 := S_x.cell 1
  have i2 := S_x.cell 2
  have i3 := S_x.cell 3
  have i4 := S_x.cell 4
  have i5 := S_x.cell 5
  go_wp2_with fail
  clear i0 i1 i2 i3 i4 i5
  refine (o10 _ _ H_x).mono ?_; rintro e w16 ⟨A16a, c16a, D16a, d16a, A16b, c16b, D16b, d16b, rfl, O16a, O16b, O16c, O16d, B16⟩
  try dsimp only at O16a O16b O16c O16d
  have H_no : VN w16 w16.heap.size (.agg #[.bool br.s, .slice A16a br.a.length c16a, .slice D16a br.b.length d16a, .bool bi.s, .slice A16b bi.a.length c16b, .slice D16b bi.b.length d16b]) br bi := ⟨A16a, c16a, D16a, d16a, A16b, c16b, D16b, d16b, rfl, O16a.rw, O16b.rw, O16c.rw, O16d.rw⟩
  clear O16a O16b O16c O16d
  have S_a := S_a.nx B16
  have H_a := H_a.st B16
  have S_b := S_b.nx B16
  have H_b := H_b.st B16
  have S_x := S_x.nx B16
  have H_x := H_x.st B16
  have S_y := S_y.nx B16
  have H_y := H_y.st B16
  have S_z := S_z.nx B16
  have H_z := H_z.st B16
  have S_l := S_l.nx B16
  have H_l := H_l.st B16
  have S_r := S_r.nx B16
  have H_r := H_r.st B16
  have S_d := S_d.nx B16
  have H_d := H_d.st B16
  have S_na := S_na.nx B16
  have H_na := H_na.st B16
  have S_nb := S_nb.nx B16
  have H_nb := H_nb.st B16
  have S_nn := S_nn.nx B16
  have H_nn := H_nn.st B16
  have S_bo := S_bo.nx B16
  have H_bo := H_bo.st B16
  have C0 := bt C0 B16
  have L16 := bal w16 (.cells #[.bool br.s, .slice A16a br.a.length c16a, .slice D16a br.b.length d16a, .bool bi.s, .slice A16b bi.a.length c16b, .slice D16b bi.b.length d16b] 26)
  have S_no := SB.new w16 [.bool br.s, .slice A16a br.a.length c16a, .slice D16a br.b.length d16a, .bool bi.s, .slice A16b bi.a.length c16b, .slice D16b bi.b.length d16b] 26
  have S_a := S_a.nx L16
  have H_a := H_a.st L16
  have S_b := S_b.nx L16
  have H_b := H_b.st L16
  have S_x := S_x.nx L16
  have H_x := H_x.st L16
  have S_y := S_y.nx L16
  have H_y := H_y.st L16
  have S_z := S_z.nx L16
  have H_z := H_z.st L16
  have S_l := S_l.nx L16
  have H_l := H_l.st L16
  have S_r := S_r.nx L16
  have H_r := H_r.st L16
  have S_d := S_d.nx L16
  have H_d := H_d.st L16
  have S_na := S_na.nx L16
  have H_na := H_na.st L16
  have S_nb := S_nb.nx L16
  have H_nb := H_nb.st L16
  have S_nn := S_nn.nx L16
  have H_nn := H_nn.st L16
  have S_bo := S_bo.nx L16
  have H_bo := H_bo.st L16
  have H_no := H_no.st L16
  have C0 := bt C0 L16
  have i0 := S_nn.cell 0
  have i1 := S_nn.cell 1
  have i2 := S_nn.cell 2
  have i3 := S_nn.cell 3
  have i4 := S_nn.cell 4
  have i5 := S_nn.cell 5
  have j0 := S_a.cell 0
  have j1 := S_a.cell 1
  have j2 := S_a.cell 2
  have j3 := S_a.cell 3
  have j4 := S_a.cell 4
  have j5 := S_a.cell 5
  go_wp2_with fail
  refine (l2 _ _ _ H_nn H_a).mono ?_; rintro e w17 ⟨rfl, B17⟩
  have S_a := S_a.nx B17
  have H_a := H_a.st B17
  have S_b := S_b.nx B17
  have H_b := H_b.st B17
  have S_x := S_x.nx B17
  have H_x := H_x.st B17
  have S_y := S_y.nx B17
  have H_y := H_y.st B17
  have S_z := S_z.nx B17
  have H_z := H_z.st B17
  have S_l := S_l.nx B17
  have H_l := H_l.st B17
  have S_r := S_r.nx B17
  have H_r := H_r.st B17
  have S_d := S_d.nx B17
  have H_d := H_d.st B17
  have S_na := S_na.nx B17
  have H_na := H_na.st B17
  have S_nb := S_nb.nx B17
  have H_nb := H_nb.st B17
  have S_nn := S_nn.nx B17
  have H_nn := H_nn.st B17
  have S_bo := S_bo.nx B17
  have H_bo := H_bo.st B17
  have S_no := S_no.nx B17
  have H_no := H_no.st B17
  have C0 := bt C0 B17
  clear i0 i1 i2 i3 i4 i5
  clear j0 j1 j2 j3 j4 j5
  have i0 := S_bo.cell 0
  have i1 := S_bo.cell 1
  have i2 := S_bo.cell 2
  have i3 := S_bo.cell 3
  have i4 := S_bo.cell 4
  have i5 := S_bo.cell 5
  have j0 := S_no.cell 0
  have j1 := S_no.cell 1
  have j2 := S_no.cell 2
  have j3 := S_no.cell 3
  have j4 := S_no.cell 4
  have j5 := S_no.cell 5
  go_wp2_with fail
  refine (l3 _ _ _ H_bo H_no).mono ?_; rintro e w18 ⟨rfl, B18⟩
  have S_a := S_a.nx B18
  have H_a := H_a.st B18
  have S_b := S_b.nx B18
  have H_b := H_b.st B18
  have S_x := S_x.nx B18
  have H_x := H_x.st B18
  have S_y := S_y.nx B18
  have H_y := H_y.st B18
  have S_z := S_z.nx B18
  have H_z := H_z.st B18
  have S_l := S_l.nx B18
  have H_l := H_l.st B18
  have S_r := S_r.nx B18
  have H_r := H_r.st B18
  have S_d := S_d.nx B18
  have H_d := H_d.st B18
  have S_na := S_na.nx B18
  have H_na := H_na.st B18
  have S_nb := S_nb.nx B18
  have H_nb := H_nb.st B18
  have S_nn := S_nn.nx B18
  have H_nn := H_nn.st B18
  have S_bo := S_bo.nx B18
  have H_bo := H_bo.st B18
  have S_no := S_no.nx B18
  have H_no := H_no.st B18
  have C0 := bt C0 B18
  clear i0 i1 i2 i3 i4 i5
  clear j0 j1 j2 j3 j4 j5
  go_wp2_with fail
  go_ret
  exact ⟨rfl, C0⟩
set_option maxRecDepth 100000 in
set_option maxHeartbeats 16000000 in
theorem bitsLaws_good10 (V : Value) (ra ia : Rw) (U : Value) (rb ib : Rw) (w : World) (hV : VN w w.heap.size V ra ia) (hU : VN w w.heap.size U rb ib) (mr mi dr di sr si : Rw) (mk dk sk : Int) (em : qbothA (· &&& ·) ra ia rb ib = (mr, mi, mk)) (ed : qbothA (· ||| ·) ra ia rb ib = (dr, di, dk)) (es : qbothA (· ^^^ ·) ra ia rb ib = (sr, si, sk)) (hm : mk = 0) (hd : dk = 0) (hs : sk = 0) (lr li : Rw) (lk : Int) (el : qaddA ra ia rb ib = (lr, li, lk)) (hl : lk ≠ 0)
    (nar nai nbr nbi nnr nni br bi nr ni : Rw) (nak nbk nnk hk ik : Int) (ena : qnotA ra ia = (nar, nai, nak)) (enb : qnotA rb ib = (nbr, nbi, nbk)) (enn : qnotA nar nai = (nnr, nni, nnk)) (ebo : qbothA (· ||| ·) nar nai nbr nbi = (br, bi, hk)) (eno : qnotA mr mi = (nr, ni, ik)) (hq : nak ≠ 0) : Calls Try.prog 6 #[V, U] w fun e w' => e = .returned (.bool true) ∧ Below w.heap.size w w' := by
  subst hm hd hs
  have o0 := fun V U w' h1 h2 => band_any V U ra ia rb ib w' h1 h2
  have o1 := fun V U w' h1 h2 => bor_any V U ra ia rb ib w' h1 h2
  have o2 := fun V U w' h1 h2 => bxor_any V U ra ia rb ib w' h1 h2
  rw [em] at o0
  rw [ed] at o1
  rw [es] at o2
  obtain ⟨g1, g2, g3, g4, g5, g6, g7⟩ := laws_good em ed es
  have o3 := fun V U w' h1 h2 => eadd_any (V := V) (U := U) (r := mr) (i := mi) (r' := dr) (i' := di) (w := w') h1 h2
  have o4 := fun V U w' h1 h2 => eadd_any (V := V) (U := U) (r := ra) (i := ia) (r' := rb) (i' := ib) (w := w') h1 h2
  have o5 := fun V U w' h1 h2 => esub_any (V := V) (U := U) (r := dr) (i := di) (r' := mr) (i' := mi) (w := w') h1 h2
  have o6 := fun V w' h1 => bnot_any V ra ia w' h1
  have o7 := fun V w' h1 => bnot_any V rb ib w' h1
  have o8 := fun V w' h1 => bnot_any V nar nai w' h1
  have o9 := fun V U w' h1 h2 => bor_any V U nar nai nbr nbi w' h1 h2
  have o10 := fun V w' h1 => bnot_any V mr mi w' h1
  rw [g1, el] at o3
  rw [el] at o4
  rw [g2] at o5
  rw [qboth_not, ena] at o6
  rw [qboth_not, enb] at o7
  rw [qboth_not, enn] at o8
  rw [ebo] at o9
  rw [qboth_not, eno] at o10
  have l0 := fun V U w' h1 h2 => esame_any V U sr si sr si w' h1 h2
  rw [g3] at l0
  have n0 : (lk == 0) = false := beq_eq_false_iff_ne.2 hl
  have n4 : (nak != 0) = true := bne_iff_ne.2 hq
  clear g1 g2 g3 g4 g5 g6 g7 em ed es el ena enb enn ebo eno hl hq
  obtain ⟨A1, c1, D1, d1, A2, c2, D2, d2, rfl, p1, p2, p3, p4⟩ := hV
  obtain ⟨A3, c3, D3, d3, A4, c4, D4, d4, rfl, p5, p6, p7, p8⟩ := hU
  obtain ⟨S_a, S_b, C0⟩ := T2.new w [.bool ra.s, .slice A1 ra.a.length c1, .slice D1 ra.b.length d1, .bool ia.s, .slice A2 ia.a.length c2, .slice D2 ia.b.length d2] [.bool rb.s, .slice A3 rb.a.length c3, .slice D3 rb.b.length d3, .bool ib.s, .slice A4 ib.a.length c4, .slice D4 ib.b.length d4] 26 26
  have H_a : VN w w.heap.size (.agg #[.bool ra.s, .slice A1 ra.a.length c1, .slice D1 ra.b.length d1, .bool ia.s, .slice A2 ia.a.length c2, .slice D2 ia.b.length d2]) ra ia := ⟨A1, c1, D1, d1, A2, c2, D2, d2, rfl, p1, p2, p3, p4⟩
  have H_a := H_a.st C0
  have H_b : VN w w.heap.size (.agg #[.bool rb.s, .slice A3 rb.a.length c3, .slice D3 rb.b.length d3, .bool ib.s, .slice A4 ib.a.length c4, .slice D4 ib.b.length d4]) rb ib := ⟨A3, c3, D3, d3, A4, c4, D4, d4, rfl, p5, p6, p7, p8⟩
  have H_b := H_b.st C0
  clear p1 p2 p3 p4 p5 p6 p7 p8
  obtain ⟨W0, hW0⟩ : ∃ W0, W0 = (w.alloc (.cells #[.bool ra.s, .slice A1 ra.a.length c1, .slice D1 ra.b.length d1, .bool ia.s, .slice A2 ia.a.length c2, .slice D2 ia.b.length d2] 26)).alloc (.cells #[.bool rb.s, .slice A3 rb.a.length c3, .slice D3 rb.b.length d3, .bool ib.s, .slice A4 ib.a.length c4, .slice D4 ib.b.length d4] 26) := ⟨_, rfl⟩
  go_enter Try.func6, Try.ntmps6
  have i0 := S_a.cell 0
  have i1 := S_a.cell 1
  have i2 := S_a.cell 2
  have i3 := S_a.cell 3
  have i4 := S_a.cell 4
  have i5 := S_a.cell 5
  have j0 := S_b.cell 0
  have j1 := S_b.cell 1
  have j2 := S_b.cell 2
  have j3 := S_b.cell 3
  have j4 := S_b.cell 4
  have j5 := S_b.cell 5
  go_wp2_with fail
  rw [← hW0] at S_a S_b C0 H_a H_b ⊢
  clear hW0
  clear i0 i1 i2 i3 i4 i5
  clear j0 j1 j2 j3 j4 j5
  refine (o0 _ _ _ H_a H_b).mono ?_; rintro e w3 ⟨A3a, c3a, D3a, d3a, A3b, c3b, D3b, d3b, rfl, O3a, O3b, O3c, O3d, B3⟩
  try dsimp only at O3a O3b O3c O3d
  have H_x : VN w3 w3.heap.size (.agg #[.bool mr.s, .slice A3a mr.a.length c3a, .slice D3a mr.b.length d3a, .bool mi.s, .slice A3b mi.a.length c3b, .slice D3b mi.b.length d3b]) mr mi := ⟨A3a, c3a, D3a, d3a, A3b, c3b, D3b, d3b, rfl, O3a.rw, O3b.rw, O3c.rw, O3d.rw⟩
  clear O3a O3b O3c O3d
  have S_a := S_a.nx B3
  have H_a := H_a.st B3
  have S_b := S_b.nx B3
  have H_b := H_b.st B3
  have C0 := bt C0 B3
  have L3 := bal w3 (.cells #[.bool mr.s, .slice A3a mr.a.length c3a, .slice D3a mr.b.length d3a, .bool mi.s, .slice A3b mi.a.length c3b, .slice D3b mi.b.length d3b] 26)
  have S_x := SB.new w3 [.bool mr.s, .slice A3a mr.a.length c3a, .slice D3a mr.b.length d3a, .bool mi.s, .slice A3b mi.a.length c3b, .slice D3b mi.b.length d3b] 26
  have S_a := S_a.nx L3
  have H_a := H_a.st L3
  have S_b := S_b.nx L3
  have H_b := H_b.st L3
  have H_x := H_x.st L3
  have C0 := bt C0 L3
  have i0 := S_a.cell 0
  have i1 := S_a.cell 1
  have i2 := S_a.cell 2
  have i3 := S_a.cell 3
  have i4 := S_a.cell 4
  have i5 := S_a.cell 5
  have j0 := S_b.cell 0
  have j1 := S_b.cell 1
  have j2 := S_b.cell 2
  have j3 := S_b.cell 3
  have j4 := S_b.cell 4
  have j5 := S_b.cell 5
  go_wp2_with fail
  clear i0 i1 i2 i3 i4 i5
  clear j0 j1 j2 j3 j4 j5
  refine (o1 _ _ _ H_a H_b).mono ?_; rintro e w4 ⟨A4a, c4a, D4a, d4a, A4b, c4b, D4b, d4b, rfl, O4a, O4b, O4c, O4d, B4⟩
  try dsimp only at O4a O4b O4c O4d
  have H_y : VN w4 w4.heap.size (.agg #[.bool dr.s, .slice A4a dr.a.length c4a, .slice D4a dr.b.length d4a, .bool di.s, .slice A4b di.a.length c4b, .slice D4b di.b.length d4b]) dr di := ⟨A4a, c4a, D4a, d4a, A4b, c4b, D4b, d4b, rfl, O4a.rw, O4b.rw, O4c.rw, O4d.rw⟩
  clear O4a O4b O4c O4d
  have S_a := S_a.nx B4
  have H_a := H_a.st B4
  have S_b := S_b.nx B4
  have H_b := H_b.st B4
  have S_x := S_x.nx B4
  have H_x := H_x.st B4
  have C0 := bt C0 B4
  have L4 := bal w4 (.cells #[.bool dr.s, .slice A4a dr.a.length c4a, .slice D4a dr.b.length d4a, .bool di.s, .slice A4b di.a.length c4b, .slice D4b di.b.length d4b] 26)
  have S_y := SB.new w4 [.bool dr.s, .slice A4a dr.a.length c4a, .slice D4a dr.b.length d4a, .bool di.s, .slice A4b di.a.length c4b, .slice D4b di.b.length d4b] 26
  have S_a := S_a.nx L4
  have H_a := H_a.st L4
  have S_b := S_b.nx L4
  have H_b := H_b.st L4
  have S_x := S_x.nx L4
  have H_x := H_x.st L4
  have H_y := H_y.st L4
  have C0 := bt C0 L4
  have i0 := S_a.cell 0
  have i1 := S_a.cell 1
  have i2 := S_a.cell 2
  have i3 := S_a.cell 3
  have i4 := S_a.cell 4
  have i5 := S_a.cell 5
  have j0 := S_b.cell 0
  have j1 := S_b.cell 1
  have j2 := S_b.cell 2
  have j3 := S_b.cell 3
  have j4 := S_b.cell 4
  have j5 := S_b.cell 5
  go_wp2_with fail
  clear i0 i1 i2 i3 i4 i5
  clear j0 j1 j2 j3 j4 j5
  refine (o2 _ _ _ H_a H_b).mono ?_; rintro e w5 ⟨A5a, c5a, D5a, d5a, A5b, c5b, D5b, d5b, rfl, O5a, O5b, O5c, O5d, B5⟩
  try dsimp only at O5a O5b O5c O5d
  have H_z : VN w5 w5.heap.size (.agg #[.bool sr.s, .slice A5a sr.a.length c5a, .slice D5a sr.b.length d5a, .bool si.s, .slice A5b si.a.length c5b, .slice D5b si.b.length d5b]) sr si := ⟨A5a, c5a, D5a, d5a, A5b, c5b, D5b, d5b, rfl, O5a.rw, O5b.rw, O5c.rw, O5d.rw⟩
  clear O5a O5b O5c O5d
  have S_a := S_a.nx B5
  have H_a := H_a.st B5
  have S_b := S_b.nx B5
  have H_b := H_b.st B5
  have S_x := S_x.nx B5
  have H_x := H_x.st B5
  have S_y := S_y.nx B5
  have H_y := H_y.st B5
  have C0 := bt C0 B5
  have L5 := bal w5 (.cells #[.bool sr.s, .slice A5a sr.a.length c5a, .slice D5a sr.b.length d5a, .bool si.s, .slice A5b si.a.length c5b, .slice D5b si.b.length d5b] 26)
  have S_z := SB.new w5 [.bool sr.s, .slice A5a sr.a.length c5a, .slice D5a sr.b.length d5a, .bool si.s, .slice A5b si.a.length c5b, .slice D5b si.b.length d5b] 26
  have S_a := S_a.nx L5
  have H_a := H_a.st L5
  have S_b := S_b.nx L5
  have H_b := H_b.st L5
  have S_x := S_x.nx L5
  have H_x := H_x.st L5
  have S_y := S_y.nx L5
  have H_y := H_y.st L5
  have H_z := H_z.st L5
  have C0 := bt C0 L5
  go_wp2_with fail
  refine (awake4_any _).mono ?_; rintro e w6 ⟨rfl, B6⟩
  have S_a := S_a.nx B6
  have H_a := H_a.st B6
  have S_b := S_b.nx B6
  have H_b := H_b.st B6
  have S_x := S_x.nx B6
  have H_x := H_x.st B6
  have S_y := S_y.nx B6
  have H_y := H_y.st B6
  have S_z := S_z.nx B6
  have H_z := H_z.st B6
  have C0 := bt C0 B6
  have i0 := S_x.cell 0
  have i1 := S_x.cell 1
  have i2 := S_x.cell 2
  have i3 := S_x.cell 3
  have i4 := S_x.cell 4
  have i5 := S_x.cell 5
  have j0 := S_y.cell 0
  have j1 := S_y.cell 1
  have j2 := S_y.cell 2
  have j3 := S_y.cell 3
  have j4 := S_y.cell 4
  have j5 := S_y.cell 5
  go_wp2_with fail
  clear i0 i1 i2 i3 i4 i5
  clear j0 j1 j2 j3 j4 j5
  refine (o3 _ _ _ H_x H_y).mono ?_; rintro e w7 ⟨A7a, c7a, D7a, d7a, A7b, c7b, D7b, d7b, rfl, O7a, O7b, O7c, O7d, B7⟩
  try dsimp only at O7a O7b O7c O7d
  have H_l : VN w7 w7.heap.size (.agg #[.bool lr.s, .slice A7a lr.a.length c7a, .slice D7a lr.b.length d7a, .bool li.s, .slice A7b li.a.length c7b, .slice D7b li.b.length d7b]) lr li := ⟨A7a, c7a, D7a, d7a, A7b, c7b, D7b, d7b, rfl, O7a.rw, O7b.rw, O7c.rw, O7d.rw⟩
  clear O7a O7b O7c O7d
  have S_a := S_a.nx B7
  have H_a := H_a.st B7
  have S_b := S_b.nx B7
  have H_b := H_b.st B7
  have S_x := S_x.nx B7
  have H_x := H_x.st B7
  have S_y := S_y.nx B7
  have H_y := H_y.st B7
  have S_z := S_z.nx B7
  have H_z := H_z.st B7
  have C0 := bt C0 B7
  have L7 := bal w7 (.cells #[.bool lr.s, .slice A7a lr.a.length c7a, .slice D7a lr.b.length d7a, .bool li.s, .slice A7b li.a.length c7b, .slice D7b li.b.length d7b] 26)
  have S_l := SB.new w7 [.bool lr.s, .slice A7a lr.a.length c7a, .slice D7a lr.b.length d7a, .bool li.s, .slice A7b li.a.length c7b, .slice D7b li.b.length d7b] 26
  have S_a := S_a.nx L7
  have H_a := H_a.st L7
  have S_b := S_b.nx L7
  have H_b := H_b.st L7
  have S_x := S_x.nx L7
  have H_x := H_x.st L7
  have S_y := S_y.nx L7
  have H_y := H_y.st L7
  have S_z := S_z.nx L7
  have H_z := H_z.st L7
  have H_l := H_l.st L7
  have C0 := bt C0 L7
  have i0 := S_a.cell 0
  have i1 := S_a.cell 1
  have i2 := S_a.cell 2
  have i3 := S_a.cell 3
  have i4 := S_a.cell 4
  have i5 := S_a.cell 5
  have j0 := S_b.cell 0
  have j1 := S_b.cell 1
  have j2 := S_b.cell 2
  have j3 := S_b.cell 3
  have j4 := S_b.cell 4
  have j5 := S_b.cell 5
  go_wp2_with fail
  clear i0 i1 i2 i3 i4 i5
  clear j0 j1 j2 j3 j4 j5
  refine (o4 _ _ _ H_a H_b).mono ?_; rintro e w8 ⟨A8a, c8a, D8a, d8a, A8b, c8b, D8b, d8b, rfl, O8a, O8b, O8c, O8d, B8⟩
  try dsimp only at O8a O8b O8c O8d
  have H_r : VN w8 w8.heap.size (.agg #[.bool lr.s, .slice A8a lr.a.length c8a, .slice D8a lr.b.length d8a, .bool li.s, .slice A8b li.a.length c8b, .slice D8b li.b.length d8b]) lr li := ⟨A8a, c8a, D8a, d8a, A8b, c8b, D8b, d8b, rfl, O8a.rw, O8b.rw, O8c.rw, O8d.rw⟩
  clear O8a O8b O8c O8d
  have S_a := S_a.nx B8
  have H_a := H_a.st B8
  have S_b := S_b.nx B8
  have H_b := H_b.st B8
  have S_x := S_x.nx B8
  have H_x := H_x.st B8
  have S_y := S_y.nx B8
  have H_y := H_y.st B8
  have S_z := S_z.nx B8
  have H_z := H_z.st B8
  have S_l := S_l.nx B8
  have H_l := H_l.st B8
  have C0 := bt C0 B8
  have L8 := bal w8 (.cells #[.bool lr.s, .slice A8a lr.a.length c8a, .slice D8a lr.b.length d8a, .bool li.s, .slice A8b li.a.length c8b, .slice D8b li.b.length d8b] 26)
  have S_r := SB.new w8 [.bool lr.s, .slice A8a lr.a.length c8a, .slice D8a lr.b.length d8a, .bool li.s, .slice A8b li.a.length c8b, .slice D8b li.b.length d8b] 26
  have S_a := S_a.nx L8
  have H_a := H_a.st L8
  have S_b := S_b.nx L8
  have H_b := H_b.st L8
  have S_x := S_x.nx L8
  have H_x := H_x.st L8
  have S_y := S_y.nx L8
  have H_y := H_y.st L8
  have S_z := S_z.nx L8
  have H_z := H_z.st L8
  have S_l := S_l.nx L8
  have H_l := H_l.st L8
  have H_r := H_r.st L8
  have C0 := bt C0 L8
  have i0 := S_y.cell 0
  have i1 := S_y.cell 1
  have i2 := S_y.cell 2
  have i3 := S_y.cell 3
  have i4 := S_y.cell 4
  have i5 := S_y.cell 5
  have j0 := S_x.cell 0
  have j1 := S_x.cell 1
  have j2 := S_x.cell 2
  have j3 := S_x.cell 3
  have j4 := S_x.cell 4
  have j5 := S_x.cell 5
  go_wp2_with fail
  clear i0 i1 i2 i3 i4 i5
  clear j0 j1 j2 j3 j4 j5
  refine (o5 _ _ _ H_y H_x).mono ?_; rintro e w9 ⟨A9a, c9a, D9a, d9a, A9b, c9b, D9b, d9b, rfl, O9a, O9b, O9c, O9d, B9⟩
  try dsimp only at O9a O9b O9c O9d
  have H_d : VN w9 w9.heap.size (.agg #[.bool sr.s, .slice A9a sr.a.length c9a, .slice D9a sr.b.length d9a, .bool si.s, .slice A9b si.a.length c9b, .slice D9b si.b.length d9b]) sr si := ⟨A9a, c9a, D9a, d9a, A9b, c9b, D9b, d9b, rfl, O9a.rw, O9b.rw, O9c.rw, O9d.rw⟩
  clear O9a O9b O9c O9d
  have S_a := S_a.nx B9
  have H_a := H_a.st B9
  have S_b := S_b.nx B9
  have H_b := H_b.st B9
  have S_x := S_x.nx B9
  have H_x := H_x.st B9
  have S_y := S_y.nx B9
  have H_y := H_y.st B9
  have S_z := S_z.nx B9
  have H_z := H_z.st B9
  have S_l := S_l.nx B9
  have H_l := H_l.st B9
  have S_r := S_r.nx B9
  have H_r := H_r.st B9
  have C0 := bt C0 B9
  have L9 := bal w9 (.cells #[.bool sr.s, .slice A9a sr.a.length c9a, .slice D9a sr.b.length d9a, .bool si.s, .slice A9b si.a.length c9b, .slice D9b si.b.length d9b] 26)
  have S_d := SB.new w9 [.bool sr.s, .slice A9a sr.a.length c9a, .slice D9a sr.b.length d9a, .bool si.s, .slice A9b si.a.length c9b, .slice D9b si.b.length d9b] 26
  have S_a := S_a.nx L9
  have H_a := H_a.st L9
  have S_b := S_b.nx L9
  have H_b := H_b.st L9
  have S_x := S_x.nx L9
  have H_x := H_x.st L9
  have S_y := S_y.nx L9
  have H_y := H_y.st L9
  have S_z := S_z.nx L9
  have H_z := H_z.st L9
  have S_l := S_l.nx L9
  have H_l := H_l.st L9
  have S_r := S_r.nx L9
  have H_r := H_r.st L9
  have H_d := H_d.st L9
  have C0 := bt C0 L9
  have i0 := S_d.cell 0
  have i1 := S_d.cell 1
  have i2 := S_d.cell 2
  have i3 := S_d.cell 3
  have i4 := S_d.cell 4
  have i5 := S_d.cell 5
  have j0 := S_z.cell 0
  have j1 := S_z.cell 1
  have j2 := S_z.cell 2
  have j3 := S_z.cell 3
  have j4 := S_z.cell 4
  have j5 := S_z.cell 5
  go_wp2_with fail
  refine (l0 _ _ _ H_d H_z).mono ?_; rintro e w10 ⟨rfl, B10⟩
  have S_a := S_a.nx B10
  have H_a := H_a.st B10
  have S_b := S_b.nx B10
  have H_b := H_b.st B10
  have S_x := S_x.nx B10
  have H_x := H_x.st B10
  have S_y := S_y.nx B10
  have H_y := H_y.st B10
  have S_z := S_z.nx B10
  have H_z := H_z.st B10
  have S_l := S_l.nx B10
  have H_l := H_l.st B10
  have S_r := S_r.nx B10
  have H_r := H_r.st B10
  have S_d := S_d.nx B10
  have H_d := H_d.st B10
  have C0 := bt C0 B10
  clear i0 i1 i2 i3 i4 i5
  clear j0 j1 j2 j3 j4 j5
  have i0 := S_a.cell 0
  have i1 := S_a.cell 1
  have i2 := S_a.cell 2
  have i3 := S_a.cell 3
  have i4 := S_a.cell 4
  have i5 := S_a.cell 5
  go_wp2_with fail
  clear i0 i1 i2 i3 i4 i5
  refine (o6 _ _ H_a).mono ?_; rintro e w11 ⟨A11a, c11a, D11a, d11a, A11b, c11b, D11b, d11b, rfl, O11a, O11b, O11c, O11d, B11⟩
  try dsimp only at O11a O11b O11c O11d
  have H_na : VN w11 w11.heap.size (.agg #[.bool nar.s, .slice A11a nar.a.length c11a, .slice D11a nar.b.length d11a, .bool nai.s, .slice A11b nai.a.length c11b, .slice D11b nai.b.length d11b]) nar nai := ⟨A11a, c11a, D11a, d11a, A11b, c11b, D11b, d11b, rfl, O11a.rw, O11b.rw, O11c.rw, O11d.rw⟩
  clear O11a O11b O11c O11d
  have S_a := S_a.nx B11
  have H_a := H_a.st B11
  have S_b := S_b.nx B11
  have H_b := H_b.st B11
  have S_x := S_x.nx B11
  have H_x := H_x.st B11
  have S_y := S_y.nx B11
  have H_y := H_y.st B11
  have S_z := S_z.nx B11
  have H_z := H_z.st B11
  have S_l := S_l.nx B11
  have H_l := H_l.st B11
  have S_r := S_r.nx B11
  have H_r := H_r.st B11
  have S_d := S_d.nx B11
  have H_d := H_d.st B11
  have C0 := bt C0 B11
  have L11 := bal w11 (.cells #[.bool nar.s, .slice A11a nar.a.length c11a, .slice D11a nar.b.length d11a, .bool nai.s, .slice A11b nai.a.length c11b, .slice D11b nai.b.length d11b] 26)
  have S_na := SB.new w11 [.bool nar.s, .slice A11a nar.a.length c11a, .slice D11a nar.b.length d11a, .bool nai.s, .slice A11b nai.a.length c11b, .slice D11b nai.b.length d11b] 26
  have S_a := S_a.nx L11
  have H_a := H_a.st L11
  have S_b := S_b.nx L11
  have H_b := H_b.st L11
  have S_x := S_x.nx L11
  have H_x := H_x.st L11
  have S_y := S_y.nx L11
  have H_y := H_y.st L11
  have S_z := S_z.nx L11
  have H_z := H_z.st L11
  have S_l := S_l.nx L11
  have H_l := H_l.st L11
  have S_r := S_r.nx L11
  have H_r := H_r.st L11
  have S_d := S_d.nx L11
  have H_d := H_d.st L11
  have H_na := H_na.st L11
  have C0 := bt C0 L11
  have i0 := S_b.cell 0
  have i1 := S_b.cell 1
  have i2 := S_b.cell 2
  have i3 := S_b.cell 3
  have i4 := S_b.cell 4
  have i5 := S_b.cell 5
  go_wp2_with fail
  clear i0 i1 i2 i3 i4 i5
  refine (o7 _ _ H_b).mono ?_; rintro e w12 ⟨A12a, c12a, D12a, d12a, A12b, c12b, D12b, d12b, rfl, O12a, O12b, O12c, O12d, B12⟩
  try dsimp only at O12a O12b O12c O12d
  have H_nb : VN w12 w12.heap.size (.agg #[.bool nbr.s, .slice A12a nbr.a.length c12a, .slice D12a nbr.b.length d12a, .bool nbi.s, .slice A12b nbi.a.length c12b, .slice D12b nbi.b.length d12b]) nbr nbi := ⟨A12a, c12a, D12a, d12a, A12b, c12b, D12b, d12b, rfl, O12a.rw, O12b.rw, O12c.rw, O12d.rw⟩
  clear O12a O12b O12c O12d
  have S_a := S_a.nx B12
  have H_a := H_a.st B12
  have S_b := S_b.nx B12
  have H_b := H_b.st B12
  have S_x := S_x.nx B12
  have H_x := H_x.st B12
  have S_y := S_y.nx B12
  have H_y := H_y.st B12
  have S_z := S_z.nx B12
  have H_z := H_z.st B12
  have S_l := S_l.nx B12
  have H_l := H_l.st B12
  have S_r := S_r.nx B12
  have H_r := H_r.st B12
  have S_d := S_d.nx B12
  have H_d := H_d.st B12
  have S_na := S_na.nx B12
  have H_na := H_na.st B12
  have C0 := bt C0 B12
  have L12 := bal w12 (.cells #[.bool nbr.s, .slice A12a nbr.a.length c12a, .slice D12a nbr.b.length d12a, .bool nbi.s, .slice A12b nbi.a.length c12b, .slice D12b nbi.b.length d12b] 26)
  have S_nb := SB.new w12 [.bool nbr.s, .slice A12a nbr.a.length c12a, .slice D12a nbr.b.length d12a, .bool nbi.s, .slice A12b nbi.a.length c12b, .slice D12b nbi.b.length d12b] 26
  have S_a := S_a.nx L12
  have H_a := H_a.st L12
  have S_b := S_b.nx L12
  have H_b := H_b.st L12
  have S_x := S_x.nx L12
  have H_x := H_x.st L12
  have S_y := S_y.nx L12
  have H_y := H_y.st L12
  have S_z := S_z.nx L12
  have H_z := H_z.st L12
  have S_l := S_l.nx L12
  have H_l := H_l.st L12
  have S_r := S_r.nx L12
  have H_r := H_r.st L12
  have S_d := S_d.nx L12
  have H_d := H_d.st L12
  have S_na := S_na.nx L12
  have H_na := H_na.st L12
  have H_nb := H_nb.st L12
  have C0 := bt C0 L12
  have i0 := S_na.cell 0
  have i1 := S_na.cell 1
  have i2 := S_na.cell 2
  have i3 := S_na.cell 3
  have i4 := S_na.cell 4
  have i5 := S_na.cell 5
  go_wp2_with fail
  clear i0 i1 i2 i3 i4 i5
  refine (o8 _ _ H_na).mono ?_; rintro e w13 ⟨A13a, c13a, D13a, d13a, A13b, c13b, D13b, d13b, rfl, O13a, O13b, O13c, O13d, B13⟩
  try dsimp only at O13a O13b O13c O13d
  have H_nn : VN w13 w13.heap.size (.agg #[.bool nnr.s, .slice A13a nnr.a.length c13a, .slice D13a nnr.b.length d13a, .bool nni.s, .slice A13b nni.a.length c13b, .slice D13b nni.b.length d13b]) nnr nni := ⟨A13a, c13a, D13a, d13a, A13b, c13b, D13b, d13b, rfl, O13a.rw, O13b.rw, O13c.rw, O13d.rw⟩
  clear O13a O13b O13c O13d
  have S_a := S_a.nx B13
  have H_a := H_a.st B13
  have S_b := S_b.nx B13
  have H_b := H_b.st B13
  have S_x := S_x.nx B13
  have H_x := H_x.st B13
  have S_y := S_y.nx B13
  have H_y := H_y.st B13
  have S_z := S_z.nx B13
  have H_z := H_z.st B13
  have S_l := S_l.nx B13
  have H_l := H_l.st B13
  have S_r := S_r.nx B13
  have H_r := H_r.st B13
  have S_d := S_d.nx B13
  have H_d := H_d.st B13
  have S_na := S_na.nx B13
  have H_na := H_na.st B13
  have S_nb := S_nb.nx B13
  have H_nb := H_nb.st B13
  have C0 := bt C0 B13
  have L13 := bal w13 (.cells #[.bool nnr.s, .slice A13a nnr.a.length c13a, .slice D13a nnr.b.length d13a, .bool nni.s, .slice A13b nni.a.length c13b, .slice D13b nni.b.length d13b] 26)
  have S_nn := SB.new w13 [.bool nnr.s, .slice A13a nnr.a.length c13a, .slice D13a nnr.b.length d13a, .bool nni.s, .slice A13b nni.a.length c13b, .slice D13b nni.b.length d13b] 26
  have S_a := S_a.nx L13
  have H_a := H_a.st L13
  have S_b := S_b.nx L13
  have H_b := H_b.st L13
  have S_x := S_x.nx L13
  have H_x := H_x.st L13
  have S_y := S_y.nx L13
  have H_y := H_y.st L13
  have S_z := S_z.nx L13
  have H_z := H_z.st L13
  have S_l := S_l.nx L13
  have H_l := H_l.st L13
  have S_r := S_r.nx L13
  have H_r := H_r.st L13
  have S_d := S_d.nx L13
  have H_d := H_d.st L13
  have S_na := S_na.nx L13
  have H_na := H_na.st L13
  have S_nb := S_nb.nx L13
  have H_nb := H_nb.st L13
  have H_nn := H_nn.st L13
  have C0 := bt C0 L13
  have i0 := S_na.cell 0
  have i1 := S_na.cell 1
  have i2 := S_na.cell 2
  have i3 := S_na.cell 3
  have i4 := S_na.cell 4
  have i5 := S_na.cell 5
  have j0 := S_nb.cell 0
  have j1 := S_nb.cell 1
  have j2 := S_nb.cell 2
  have j3 := S_nb.cell 3
  have j4 := S_nb.cell 4
  have j5 := S_nb.cell 5
  go_wp2_with fail
  clear i0 i1 i2 i3 i4 i5
  clear j0 j1 j2 j3 j4 j5
  refine (o9 _ _ _ H_na H_nb).mono ?_; rintro e w14 ⟨A14a, c14a, D14a, d14a, A14b, c14b, D14b, d14b, rfl, O14a, O14b, O14c, O14d, B14⟩
  try dsimp only at O14a O14b O14c O14d
  have H_bo : VN w14 w14.heap.size (.agg #[.bool br.s, .slice A14a br.a.length c14a, .slice D14a br.b.length d14a, .bool bi.s, .slice A14b bi.a.length c14b, .slice D14b bi.b.length d14b]) br bi := ⟨A14a, c14a, D14a, d14a, A14b, c14b, D14b, d14b, rfl, O14a.rw, O14b.rw, O14c.rw, O14d.rw⟩
  clear O14a O14b O14c O14d
  have S_a := S_a.nx B14
  have H_a := H_a.st B14
  have S_b := S_b.nx B14
  have H_b := H_b.st B14
  have S_x := S_x.nx B14
  have H_x := H_x.st B14
  have S_y := S_y.nx B14
  have H_y := H_y.st B14
  have S_z := S_z.nx B14
  have H_z := H_z.st B14
  have S_l := S_l.nx B14
  have H_l := H_l.st B14
  have S_r := S_r.nx B14
  have H_r := H_r.st B14
  have S_d := S_d.nx B14
  have H_d := H_d.st B14
  have S_na := S_na.nx B14
  have H_na := H_na.st B14
  have S_nb := S_nb.nx B14
  have H_nb := H_nb.st B14
  have S_nn := S_nn.nx B14
  have H_nn := H_nn.st B14
  have C0 := bt C0 B14
  have L14 := bal w14 (.cells #[.bool br.s, .slice A14a br.a.length c14a, .slice D14a br.b.length d14a, .bool bi.s, .slice A14b bi.a.length c14b, .slice D14b bi.b.length d14b] 26)
  have S_bo := SB.new w14 [.bool br.s, .slice A14a br.a.length c14a, .slice D14a br.b.length d14a, .bool bi.s, .slice A14b bi.a.length c14b, .slice D14b bi.b.length d14b] 26
  have S_a := S_a.nx L14
  have H_a := H_a.st L14
  have S_b := S_b.nx L14
  have H_b := H_b.st L14
  have S_x := S_x.nx L14
  have H_x := H_x.st L14
  have S_y := S_y.nx L14
  have H_y := H_y.st L14
  have S_z := S_z.nx L14
  have H_z := H_z.st L14
  have S_l := S_l.nx L14
  have H_l := H_l.st L14
  have S_r := S_r.nx L14
  have H_r := H_r.st L14
  have S_d := S_d.nx L14
  have H_d := H_d.st L14
  have S_na := S_na.nx L14
  have H_na := H_na.st L14
  have S_nb := S_nb.nx L14
  have H_nb := H_nb.st L14
  have S_nn := S_nn.nx L14
  have H_nn := H_nn.st L14
  have H_bo := H_bo.st L14
  have C0 := bt C0 L14
  have i0 := S_x.cell 0
  have i1 := S_x.cell 1
  have i2 := S_x.cell 2
  have i3 := S_x.cell 3
  have i4 := S_x.cell 4
  have i5 := S_x.cell 5
  go_wp2_with fail
  clear i0 i1 i2 i3 i4 i5
  refine (o10 _ _ H_x).mono ?_; rintro e w15 ⟨A15a, c15a, D15a, d15a, A15b, c15b, D15b, d15b, rfl, O15a, O15b, O15c, O15d, B15⟩
  try dsimp only at O15a O15b O15c O15d
  have H_no : VN w15 w15.heap.size (.agg #[.bool nr.s, .slice A15a nr.a.length c15a, .slice D15a nr.b.length d15a, .bool ni.s, .slice A15b ni.a.length c15b, .slice D15b ni.b.length d15b]) nr ni := ⟨A15a, c15a, D15a, d15a, A15b, c15b, D15b, d15b, rfl, O15a.rw, O15b.rw, O15c.rw, O15d.rw⟩
  clear O15a O15b O15c O15d
  have S_a := S_a.nx B15
  have H_a := H_a.st B15
  have S_b := S_b.nx B15
  have H_b := H_b.st B15
  have S_x := S_x.nx B15
  have H_x := H_x.st B15
  have S_y := S_y.nx B15
  have H_y := H_y.st B15
  have S_z := S_z.nx B15
  have H_z := H_z.st B15
  have S_l := S_l.nx B15
  have H_l := H_l.st B15
  have S_r := S_r.nx B15
  have H_r := H_r.st B15
  have S_d := S_d.nx B15
  have H_d := H_d.st B15
  have S_na := S_na.nx B15
  have H_na := H_na.st B15
  have S_nb := S_nb.nx B15
  have H_nb := H_nb.st B15
  have S_nn := S_nn.nx B15
  have H_nn := H_nn.st B15
  have S_bo := S_bo.nx B15
  have H_bo := H_bo.st B15
  have C0 := bt C0 B15
  have L15 := bal w15 (.cells #[.bool nr.s, .slice A15a nr.a.length c15a, .slice D15a nr.b.length d15a, .bool ni.s, .slice A15b ni.a.length c15b, .slice D15b ni.b.length d15b] 26)
  have S_no := SB.new w15 [.bool nr.s, .slice A15a nr.a.length c15a, .slice D15a nr.b.length d15a, .bool ni.s, .slice A15b ni.a.length c15b, .slice D15b ni.b.length d15b] 26
  have S_a := S_a.nx L15
  have H_a := H_a.st L15
  have S_b := S_b.nx L15
  have H_b := H_b.st L15
  have S_x := S_x.nx L15
  have H_x := H_x.st L15
  have S_y := S_y.nx L15
  have H_y := H_y.st L15
  have S_z := S_z.nx L15
  have H_z := H_z.st L15
  have S_l := S_l.nx L15
  have H_l := H_l.st L15
  have S_r := S_r.nx L15
  have H_r := H_r.st L15
  have S_d := S_d.nx L15
  have H_d := H_d.st L15
  have S_na := S_na.nx L15
  have H_na := H_na.st L15
  have S_nb := S_nb.nx L15
  have H_nb := H_nb.st L15
  have S_nn := S_nn.nx L15
  have H_nn := H_nn.st L15
  have S_bo := S_bo.nx L15
  have H_bo := H_bo.st L15
  have H_no := H_no.st L15
  have C0 := bt C0 L15
  go_wp2_with fail
  go_ret
  exact ⟨rfl, C0⟩
set_option maxRecDepth 100000 in
set_option maxHeartbeats 16000000 in
theorem bitsLaws_good11 (V : Value) (ra ia : Rw) (U : Value) (rb ib : Rw) (w : World) (hV : VN w w.heap.size V ra ia) (hU : VN w w.heap.size U rb ib) (mr mi dr di sr si : Rw) (mk dk sk : Int) (em : qbothA (· &&& ·) ra ia rb ib = (mr, mi, mk)) (ed : qbothA (· ||| ·) ra ia rb ib = (dr, di, dk)) (es : qbothA (· ^^^ ·) ra ia rb ib = (sr, si, sk)) (hm : mk = 0) (hd : dk = 0) (hs : sk = 0) (lr li : Rw) (lk : Int) (el : qaddA ra ia rb ib = (lr, li, lk)) (hl : lk ≠ 0)
    (nar nai nbr nbi nnr nni br bi nr ni : Rw) (nak nbk nnk hk ik : Int) (ena : qnotA ra ia = (nar, nai, nak)) (enb : qnotA rb ib = (nbr, nbi, nbk)) (enn : qnotA nar nai = (nnr, nni, nnk)) (ebo : qbothA (· ||| ·) nar nai nbr nbi = (br, bi, hk)) (eno : qnotA mr mi = (nr, ni, ik)) (hq : nak = 0 ∧ nbk ≠ 0) : Calls Try.prog 6 #[V, U] w fun e w' => e = .returned (.bool true) ∧ Below w.heap.size w w' := by
  subst hm hd hs
  have o0 := fun V U w' h1 h2 => band_any V U ra ia rb ib w' h1 h2
  have o1 := fun V U w' h1 h2 => bor_any V U ra ia rb ib w' h1 h2
  have o2 := fun V U w' h1 h2 => bxor_any V U ra ia rb ib w' h1 h2
  rw [em] at o0
  rw [ed] at o1
  rw [es] at o2
  obtain ⟨g1, g2, g3, g4, g5, g6, g7⟩ := laws_good em ed es
  have o3 := fun V U w' h1 h2 => eadd_any (V := V) (U := U) (r := mr) (i := mi) (r' := dr) (i' := di) (w := w') h1 h2
  have o4 := fun V U w' h1 h2 => eadd_any (V := V) (U := U) (r := ra) (i := ia) (r' := rb) (i' := ib) (w := w') h1 h2
  have o5 := fun V U w' h1 h2 => esub_any (V := V) (U := U) (r := dr) (i := di) (r' := mr) (i' := mi) (w := w') h1 h2
  have o6 := fun V w' h1 => bnot_any V ra ia w' h1
  have o7 := fun V w' h1 => bnot_any V rb ib w' h1
  have o8 := fun V w' h1 => bnot_any V nar nai w' h1
  have o9 := fun V U w' h1 h2 => bor_any V U nar nai nbr nbi w' h1 h2
  have o10 := fun V w' h1 => bnot_any V mr mi w' h1
  rw [g1, el] at o3
  rw [el] at o4
  rw [g2] at o5
  rw [qboth_not, ena] at o6
  rw [qboth_not, enb] at o7
  rw [qboth_not, enn] at o8
  rw [ebo] at o9
  rw [qboth_not, eno] at o10
  have l0 := fun V U w' h1 h2 => esame_any V U sr si sr si w' h1 h2
  rw [g3] at l0
  have n0 : (lk == 0) = false := beq_eq_false_iff_ne.2 hl
  obtain ⟨q1, q2⟩ := hq
  subst q1
  have n5 : (nbk != 0) = true := bne_iff_ne.2 q2
  clear g1 g2 g3 g4 g5 g6 g7 em ed es el ena enb enn ebo eno hl q2
  obtain ⟨A1, c1, D1, d1, A2, c2, D2, d2, rfl, p1, p2, p3, p4⟩ := hV
  obtain ⟨A3, c3, D3, d3, A4, c4, D4, d4, rfl, p5, p6, p7, p8⟩ := hU
  obtain ⟨S_a, S_b, C0⟩ := T2.new w [.bool ra.s, .slice A1 ra.a.length c1, .slice D1 ra.b.length d1, .bool ia.s, .slice A2 ia.a.length c2, .slice D2 ia.b.length d2] [.bool rb.s, .slice A3 rb.a.length c3, .slice D3 rb.b.length d3, .bool ib.s, .slice A4 ib.a.length c4, .slice D4 ib.b.length d4] 26 26
  have H_a : VN w w.heap.size (.agg #[.bool ra.s, .slice A1 ra.a.length c1, .slice D1 ra.b.length d1, .bool ia.s, .slice A2 ia.a.length c2, .slice D2 ia.b.length d2]) ra ia := ⟨A1, c1, D1, d1, A2, c2, D2, d2, rfl, p1, p2, p3, p4⟩
  have H_a := H_a.st C0
  have H_b : VN w w.heap.size (.agg #[.bool rb.s, .slice A3 rb.a.length c3, .slice D3 rb.b.length d3, .bool ib.s, .slice A4 ib.a.length c4, .slice D4 ib.b.length d4]) rb ib := ⟨A3, c3, D3, d3, A4, c4, D4, d4, rfl, p5, p6, p7, p8⟩
  have H_b := H_b.st C0
  clear p1 p2 p3 p4 p5 p6 p7 p8
  obtain ⟨W0, hW0⟩ : ∃ W0, W0 = (w.alloc (.cells #[.bool ra.s, .slice A1 ra.a.length c1, .slice D1 ra.b.length d1, .bool ia.s, .slice A2 ia.a.length c2, .slice D2 ia.b.length d2] 26)).alloc (.cells #[.bool rb.s, .slice A3 rb.a.length c3, .slice D3 rb.b.length d3, .bool ib.s, .slice A4 ib.a.length c4, .slice D4 ib.b.length d4] 26) := ⟨_, rfl⟩
  go_enter Try.func6, Try.ntmps6
  have i0 := S_a.cell 0
  have i1 := S_a.cell 1
  have i2 := S_a.cell 2
  have i3 := S_a.cell 3
  have i4 := S_a.cell 4
  have i5 := S_a.cell 5
  have j0 := S_b.cell 0
  have j1 := S_b.cell 1
  have j2 := S_b.cell 2
  have j3 := S_b.cell 3
  have j4 := S_b.cell 4
  have j5 := S_b.cell 5
  go_wp2_with fail
  rw [← hW0] at S_a S_b C0 H_a H_b ⊢
  clear hW0
  clear i0 i1 i2 i3 i4 i5
  clear j0 j1 j2 j3 j4 j5
  refine (o0 _ _ _ H_a H_b).mono ?_; rintro e w3 ⟨A3a, c3a, D3a, d3a, A3b, c3b, D3b, d3b, rfl, O3a, O3b, O3c, O3d, B3⟩
  try dsimp only at O3a O3b O3c O3d
  have H_x : VN w3 w3.heap.size (.agg #[.bool mr.s, .slice A3a mr.a.length c3a, .slice D3a mr.b.length d3a, .bool mi.s, .slice A3b mi.a.length c3b, .slice D3b mi.b.length d3b]) mr mi := ⟨A3a, c3a, D3a, d3a, A3b, c3b, D3b, d3b, rfl, O3a.rw, O3b.rw, O3c.rw, O3d.rw⟩
  clear O3a O3b O3c O3d
  have S_a := S_a.nx B3
  have H_a := H_a.st B3
  have S_b := S_b.nx B3
  have H_b := H_b.st B3
  have C0 := bt C0 B3
  have L3 := bal w3 (.cells #[.bool mr.s, .slice A3a mr.a.length c3a, .slice D3a mr.b.length d3a, .bool mi.s, .slice A3b mi.a.length c3b, .slice D3b mi.b.length d3b] 26)
  have S_x := SB.new w3 [.bool mr.s, .slice A3a mr.a.length c3a, .slice D3a mr.b.length d3a, .bool mi.s, .slice A3b mi.a.length c3b, .slice D3b mi.b.length d3b] 26
  have S_a := S_a.nx L3
  have H_a := H_a.st L3
  have S_b := S_b.nx L3
  have H_b := H_b.st L3
  have H_x := H_x.st L3
  have C0 := bt C0 L3
  have i0 := S_a.cell 0
  have i1 := S_a.cell 1
  have i2 := S_a.cell 2
  have i3 := S_a.cell 3
  have i4 := S_a.cell 4
  have i5 := S_a.cell 5
  have j0 := S_b.cell 0
  have j1 := S_b.cell 1
  have j2 := S_b.cell 2
  have j3 := S_b.cell 3
  have j4 := S_b.cell 4
  have j5 := S_b.cell 5
  go_wp2_with fail
  clear i0 i1 i2 i3 i4 i5
  clear j0 j1 j2 j3 j4 j5
  refine (o1 _ _ _ H_a H_b).mono ?_; rintro e w4 ⟨A4a, c4a, D4a, d4a, A4b, c4b, D4b, d4b, rfl, O4a, O4b, O4c, O4d, B4⟩
  try dsimp only at O4a O4b O4c O4d
  have H_y : VN w4 w4.heap.size (.agg #[.bool dr.s, .slice A4a dr.a.length c4a, .slice D4a dr.b.length d4a, .bool di.s, .slice A4b di.a.length c4b, .slice D4b di.b.length d4b]) dr di := ⟨A4a, c4a, D4a, d4a, A4b, c4b, D4b, d4b, rfl, O4a.rw, O4b.rw, O4c.rw, O4d.rw⟩
  clear O4a O4b O4c O4d
  have S_a := S_a.nx B4
  have H_a := H_a.st B4
  have S_b := S_b.nx B4
  have H_b := H_b.st B4
  have S_x := S_x.nx B4
  have H_x := H_x.st B4
  have C0 := bt C0 B4
  have L4 := bal w4 (.cells #[.bool dr.s, .slice A4a dr.a.length c4a, .slice D4a dr.b.length d4a, .bool di.s, .slice A4b di.a.length c4b, .slice D4b di.b.length d4b] 26)
  have S_y := SB.new w4 [.bool dr.s, .slice A4a dr.a.length c4a, .slice D4a dr.b.length d4a, .bool di.s, .slice A4b di.a.length c4b, .slice D4b di.b.length d4b] 26
  have S_a := S_a.nx L4
  have H_a := H_a.st L4
  have S_b := S_b.nx L4
  have H_b := H_b.st L4
  have S_x := S_x.nx L4
  have H_x := H_x.st L4
  have H_y := H_y.st L4
  have C0 := bt C0 L4
  have i0 := S_a.cell 0
  have i1 := S_a.cell 1
  have i2 := S_a.cell 2
  have i3 := S_a.cell 3
  have i4 := S_a.cell 4
  have i5 := S_a.cell 5
  have j0 := S_b.cell 0
  have j1 := S_b.cell 1
  have j2 := S_b.cell 2
  have j3 := S_b.cell 3
  have j4 := S_b.cell 4
  have j5 := S_b.cell 5
  go_wp2_with fail
  clear i0 i1 i2 i3 i4 i5
  clear j0 j1 j2 j3 j4 j5
  refine (o2 _ _ _ H_a H_b).mono ?_; rintro e w5 ⟨A5a, c5a, D5a, d5a, A5b, c5b, D5b, d5b, rfl, O5a, O5b, O5c, O5d, B5⟩
  try dsimp only at O5a O5b O5c O5d
  have H_z : VN w5 w5.heap.size (.agg #[.bool sr.s, .slice A5a sr.a.length c5a, .slice D5a sr.b.length d5a, .bool si.s, .slice A5b si.a.length c5b, .slice D5b si.b.length d5b]) sr si := ⟨A5a, c5a, D5a, d5a, A5b, c5b, D5b, d5b, rfl, O5a.rw, O5b.rw, O5c.rw, O5d.rw⟩
  clear O5a O5b O5c O5d
  have S_a := S_a.nx B5
  have H_a := H_a.st B5
  have S_b := S_b.nx B5
  have H_b := H_b.st B5
  have S_x := S_x.nx B5
  have H_x := H_x.st B5
  have S_y := S_y.nx B5
  have H_y := H_y.st B5
  have C0 := bt C0 B5
  have L5 := bal w5 (.cells #[.bool sr.s, .slice A5a sr.a.length c5a, .slice D5a sr.b.length d5a, .bool si.s, .slice A5b si.a.length c5b, .slice D5b si.b.length d5b] 26)
  have S_z := SB.new w5 [.bool sr.s, .slice A5a sr.a.length c5a, .slice D5a sr.b.length d5a, .bool si.s, .slice A5b si.a.length c5b, .slice D5b si.b.length d5b] 26
  have S_a := S_a.nx L5
  have H_a := H_a.st L5
  have S_b := S_b.nx L5
  have H_b := H_b.st L5
  have S_x := S_x.nx L5
  have H_x := H_x.st L5
  have S_y := S_y.nx L5
  have H_y := H_y.st L5
  have H_z := H_z.st L5
  have C0 := bt C0 L5
  go_wp2_with fail
  refine (awake4_any _).mono ?_; rintro e w6 ⟨rfl, B6⟩
  have S_a := S_a.nx B6
  have H_a := H_a.st B6
  have S_b := S_b.nx B6
  have H_b := H_b.st B6
  have S_x := S_x.nx B6
  have H_x := H_x.st B6
  have S_y := S_y.nx B6
  have H_y := H_y.st B6
  have S_z := S_z.nx B6
  have H_z := H_z.st B6
  have C0 := bt C0 B6
  have i0 := S_x.cell 0
  have i1 := S_x.cell 1
  have i2 := S_x.cell 2
  have i3 := S_x.cell 3
  have i4 := S_x.cell 4
  have i5 := S_x.cell 5
  have j0 := S_y.cell 0
  have j1 := S_y.cell 1
  have j2 := S_y.cell 2
  have j3 := S_y.cell 3
  have j4 := S_y.cell 4
  have j5 := S_y.cell 5
  go_wp2_with fail
  clear i0 i1 i2 i3 i4 i5
  clear j0 j1 j2 j3 j4 j5
  refine (o3 _ _ _ H_x H_y).mono ?_; rintro e w7 ⟨A7a, c7a, D7a, d7a, A7b, c7b, D7b, d7b, rfl, O7a, O7b, O7c, O7d, B7⟩
  try dsimp only at O7a O7b O7c O7d
  have H_l : VN w7 w7.heap.size (.agg #[.bool lr.s, .slice A7a lr.a.length c7a, .slice D7a lr.b.length d7a, .bool li.s, .slice A7b li.a.length c7b, .slice D7b li.b.length d7b]) lr li := ⟨A7a, c7a, D7a, d7a, A7b, c7b, D7b, d7b, rfl, O7a.rw, O7b.rw, O7c.rw, O7d.rw⟩
  clear O7a O7b O7c O7d
  have S_a := S_a.nx B7
  have H_a := H_a.st B7
  have S_b := S_b.nx B7
  have H_b := H_b.st B7
  have S_x := S_x.nx B7
  have H_x := H_x.st B7
  have S_y := S_y.nx B7
  have H_y := H_y.st B7
  have S_z := S_z.nx B7
  have H_z := H_z.st B7
  have C0 := bt C0 B7
  have L7 := bal w7 (.cells #[.bool lr.s, .slice A7a lr.a.length c7a, .slice D7a lr.b.length d7a, .bool li.s, .slice A7b li.a.length c7b, .slice D7b li.b.length d7b] 26)
  have S_l := SB.new w7 [.bool lr.s, .slice A7a lr.a.length c7a, .slice D7a lr.b.length d7a, .bool li.s, .slice A7b li.a.length c7b, .slice D7b li.b.length d7b] 26
  have S_a := S_a.nx L7
  have H_a := H_a.st L7
  have S_b := S_b.nx L7
  have H_b := H_b.st L7
  have S_x := S_x.nx L7
  have H_x := H_x.st L7
  have S_y := S_y.nx L7
  have H_y := H_y.st L7
  have S_z := S_z.nx L7
  have H_z := H_z.st L7
  have H_l := H_l.st L7
  have C0 := bt C0 L7
  have i0 := S_a.cell 0
  have i1 := S_a.cell 1
  have i2 := S_a.cell 2
  have i3 := S_a.cell 3
  have i4 := S_a.cell 4
  have i5 := S_a.cell 5
  have j0 := S_b.cell 0
  have j1 := S_b.cell 1
  have j2 := S_b.cell 2
  have j3 := S_b.cell 3
  have j4 := S_b.cell 4
  have j5 := S_b.cell 5
  go_wp2_with fail
  clear i0 i1 i2 i3 i4 i5
  clear j0 j1 j2 j3 j4 j5
  refine (o4 _ _ _ H_a H_b).mono ?_; rintro e w8 ⟨A8a, c8a, D8a, d8a, A8b, c8b, D8b, d8b, rfl, O8a, O8b, O8c, O8d, B8⟩
  try dsimp only at O8a O8b O8c O8d
  have H_r : VN w8 w8.heap.size (.agg #[.bool lr.s, .slice A8a lr.a.length c8a, .slice D8a lr.b.length d8a, .bool li.s, .slice A8b li.a.length c8b, .slice D8b li.b.length d8b]) lr li := ⟨A8a, c8a, D8a, d8a, A8b, c8b, D8b, d8b, rfl, O8a.rw, O8b.rw, O8c.rw, O8d.rw⟩
  clear O8a O8b O8c O8d
  have S_a := S_a.nx B8
  have H_a := H_a.st B8
  have S_b := S_b.nx B8
  have H_b := H_b.st B8
  have S_x := S_x.nx B8
  have H_x := H_x.st B8
  have S_y := S_y.nx B8
  have H_y := H_y.st B8
  have S_z := S_z.nx B8
  have H_z := H_z.st B8
  have S_l := S_l.nx B8
  have H_l := H_l.st B8
  have C0 := bt C0 B8
  have L8 := bal w8 (.cells #[.bool lr.s, .slice A8a lr.a.length c8a, .slice D8a lr.b.length d8a, .bool li.s, .slice A8b li.a.length c8b, .slice D8b li.b.length d8b] 26)
  have S_r := SB.new w8 [.bool lr.s, .slice A8a lr.a.length c8a, .slice D8a lr.b.length d8a, .bool li.s, .slice A8b li.a.length c8b, .slice D8b li.b.length d8b] 26
  have S_a := S_a.nx L8
  have H_a := H_a.st L8
  have S_b := S_b.nx L8
  have H_b := H_b.st L8
  have S_x := S_x.nx L8
  have H_x := H_x.st L8
  have S_y := S_y.nx L8
  have H_y := H_y.st L8
  have S_z := S_z.nx L8
  have H_z := H_z.st L8
  have S_l := S_l.nx L8
  have H_l := H_l.st L8
  have H_r := H_r.st L8
  have C0 := bt C0 L8
  have i0 := S_y.cell 0
  have i1 := S_y.cell 1
  have i2 := S_y.cell 2
  have i3 := S_y.cell 3
  have i4 := S_y.cell 4
  have i5 := S_y.cell 5
  have j0 := S_x.cell 0
  have j1 := S_x.cell 1
  have j2 := S_x.cell 2
  have j3 := S_x.cell 3
  have j4 := S_x.cell 4
  have j5 := S_x.cell 5
  go_wp2_with fail
  clear i0 i1 i2 i3 i4 i5
  clear j0 j1 j2 j3 j4 j5
  refine (o5 _ _ _ H_y H_x).mono ?_; rintro e w9 ⟨A9a, c9a, D9a, d9a, A9b, c9b, D9b, d9b, rfl, O9a, O9b, O9c, O9d, B9⟩
  try dsimp only at O9a O9b O9c O9d
  have H_d : VN w9 w9.heap.size (.agg #[.bool sr.s, .slice A9a sr.a.length c9a, .slice D9a sr.b.length d9a, .bool si.s, .slice A9b si.a.length c9b, .slice D9b si.b.length d9b]) sr si := ⟨A9a, c9a, D9a, d9a, A9b, c9b, D9b, d9b, rfl, O9a.rw, O9b.rw, O9c.rw, O9d.rw⟩
  clear O9a O9b O9c O9d
  have S_a := S_a.nx B9
  have H_a := H_a.st B9
  have S_b := S_b.nx B9
  have H_b := H_b.st B9
  have S_x := S_x.nx B9
  have H_x := H_x.st B9
  have S_y := S_y.nx B9
  have H_y := H_y.st B9
  have S_z := S_z.nx B9
  have H_z := H_z.st B9
  have S_l := S_l.nx B9
  have H_l := H_l.st B9
  have S_r := S_r.nx B9
  have H_r := H_r.st B9
  have C0 := bt C0 B9
  have L9 := bal w9 (.cells #[.bool sr.s, .slice A9a sr.a.length c9a, .slice D9a sr.b.length d9a, .bool si.s, .slice A9b si.a.length c9b, .slice D9b si.b.length d9b] 26)
  have S_d := SB.new w9 [.bool sr.s, .slice A9a sr.a.length c9a, .slice D9a sr.b.length d9a, .bool si.s, .slice A9b si.a.length c9b, .slice D9b si.b.length d9b] 26
  have S_a := S_a.nx L9
  have H_a := H_a.st L9
  have S_b := S_b.nx L9
  have H_b := H_b.st L9
  have S_x := S_x.nx L9
  have H_x := H_x.st L9
  have S_y := S_y.nx L9
  have H_y := H_y.st L9
  have S_z := S_z.nx L9
  have H_z := H_z.st L9
  have S_l := S_l.nx L9
  have H_l := H_l.st L9
  have S_r := S_r.nx L9
  have H_r := H_r.st L9
  have H_d := H_d.st L9
  have C0 := bt C0 L9
  have i0 := S_d.cell 0
  have i1 := S_d.cell 1
  have i2 := S_d.cell 2
  have i3 := S_d.cell 3
  have i4 := S_d.cell 4
  have i5 := S_d.cell 5
  have j0 := S_z.cell 0
  have j1 := S_z.cell 1
  have j2 := S_z.cell 2
  have j3 := S_z.cell 3
  have j4 := S_z.cell 4
  have j5 := S_z.cell 5
  go_wp2_with fail
  refine (l0 _ _ _ H_d H_z).mono ?_; rintro e w10 ⟨rfl, B10⟩
  have S_a := S_a.nx B10
  have H_a := H_a.st B10
  have S_b := S_b.nx B10
  have H_b := H_b.st B10
  have S_x := S_x.nx B10
  have H_x := H_x.st B10
  have S_y := S_y.nx B10
  have H_y := H_y.st B10
  have S_z := S_z.nx B10
  have H_z := H_z.st B10
  have S_l := S_l.nx B10
  have H_l := H_l.st B10
  have S_r := S_r.nx B10
  have H_r := H_r.st B10
  have S_d := S_d.nx B10
  have H_d := H_d.st B10
  have C0 := bt C0 B10
  clear i0 i1 i2 i3 i4 i5
  clear j0 j1 j2 j3 j4 j5
  have i0 := S_a.cell 0
  have i1 := S_a.cell 1
  have i2 := S_a.cell 2
  have i3 := S_a.cell 3
  have i4 := S_a.cell 4
  have i5 := S_a.cell 5
  go_wp2_with fail
  clear i0 i1 i2 i3 i4 i5
  refine (o6 _ _ H_a).mono ?_; rintro e w11 ⟨A11a, c11a, D11a, d11a, A11b, c11b, D11b, d11b, rfl, O11a, O11b, O11c, O11d, B11⟩
  try dsimp only at O11a O11b O11c O11d
  have H_na : VN w11 w11.heap.size (.agg #[.bool nar.s, .slice A11a nar.a.length c11a, .slice D11a nar.b.length d11a, .bool nai.s, .slice A11b nai.a.length c11b, .slice D11b nai.b.length d11b]) nar nai := ⟨A11a, c11a, D11a, d11a, A11b, c11b, D11b, d11b, rfl, O11a.rw, O11b.rw, O11c.rw, O11d.rw⟩
  clear O11a O11b O11c O11d
  have S_a := S_a.nx B11
  have H_a := H_a.st B11
  have S_b := S_b.nx B11
  have H_b := H_b.st B11
  have S_x := S_x.nx B11
  have H_x := H_x.st B11
  have S_y := S_y.nx B11
  have H_y := H_y.st B11
  have S_z := S_z.nx B11
  have H_z := H_z.st B11
  have S_l := S_l.nx B11
  have H_l := H_l.st B11
  have S_r := S_r.nx B11
  have H_r := H_r.st B11
  have S_d := S_d.nx B11
  have H_d := H_d.st B11
  have C0 := bt C0 B11
  have L11 := bal w11 (.cells #[.bool nar.s, .slice A11a nar.a.length c11a, .slice D11a nar.b.length d11a, .bool nai.s, .slice A11b nai.a.length c11b, .slice D11b nai.b.length d11b] 26)
  have S_na := SB.new w11 [.bool nar.s, .slice A11a nar.a.length c11a, .slice D11a nar.b.length d11a, .bool nai.s, .slice A11b nai.a.length c11b, .slice D11b nai.b.length d11b] 26
  have S_a := S_a.nx L11
  have H_a := H_a.st L11
  have S_b := S_b.nx L11
  have H_b := H_b.st L11
  have S_x := S_x.nx L11
  have H_x := H_x.st L11
  have S_y := S_y.nx L11
  have H_y := H_y.st L11
  have S_z := S_z.nx L11
  have H_z := H_z.st L11
  have S_l := S_l.nx L11
  have H_l := H_l.st L11
  have S_r := S_r.nx L11
  have H_r := H_r.st L11
  have S_d := S_d.nx L11
  have H_d := H_d.st L11
  have H_na := H_na.st L11
  have C0 := bt C0 L11
  have i0 := S_b.cell 0
  have i1 := S_b.cell 1
  have i2 := S_b.cell 2
  have i3 := S_b.cell 3
  have i4 := S_b.cell 4
  have i5 := S_b.cell 5
  go_wp2_with fail
  clear i0 i1 i2 i3 i4 i5
  refine (o7 _ _ H_b).mono ?_; rintro e w12 ⟨A12a, c12a, D12a, d12a, A12b, c12b, D12b, d12b, rfl, O12a, O12b, O12c, O12d, B12⟩
  try dsimp only at O12a O12b O12c O12d
  have H_nb : VN w12 w12.heap.size (.agg #[.bool nbr.s, .slice A12a nbr.a.length c12a, .slice D12a nbr.b.length d12a, .bool nbi.s, .slice A12b nbi.a.length c12b, .slice D12b nbi.b.length d12b]) nbr nbi := ⟨A12a, c12a, D12a, d12a, A12b, c12b, D12b, d12b, rfl, O12a.rw, O12b.rw, O12c.rw, O12d.rw⟩
  clear O12a O12b O12c O12d
  have S_a := S_a.nx B12
  have H_a := H_a.st B12
  have S_b := S_b.nx B12
  have H_b := H_b.st B12
  have S_x := S_x.nx B12
  have H_x := H_x.st B12
  have S_y := S_y.nx B12
  have H_y := H_y.st B12
  have S_z := S_z.nx B12
  have H_z := H_z.st B12
  have S_l := S_l.nx B12
  have H_l := H_l.st B12
  have S_r := S_r.nx B12
  have H_r := H_r.st B12
  have S_d := S_d.nx B12
  have H_d := H_d.st B12
  have S_na := S_na.nx B12
  have H_na := H_na.st B12
  have C0 := bt C0 B12
  have L12 := bal w12 (.cells #[.bool nbr.s, .slice A12a nbr.a.length c12a, .slice D12a nbr.b.length d12a, .bool nbi.s, .slice A12b nbi.a.length c12b, .slice D12b nbi.b.length d12b] 26)
  have S_nb := SB.new w12 [.bool nbr.s, .slice A12a nbr.a.length c12a, .slice D12a nbr.b.length d12a, .bool nbi.s, .slice A12b nbi.a.length c12b, .slice D12b nbi.b.length d12b] 26
  have S_a := S_a.nx L12
  have H_a := H_a.st L12
  have S_b := S_b.nx L12
  have H_b := H_b.st L12
  have S_x := S_x.nx L12
  have H_x := H_x.st L12
  have S_y := S_y.nx L12
  have H_y := H_y.st L12
  have S_z := S_z.nx L12
  have H_z := H_z.st L12
  have S_l := S_l.nx L12
  have H_l := H_l.st L12
  have S_r := S_r.nx L12
  have H_r := H_r.st L12
  have S_d := S_d.nx L12
  have H_d := H_d.st L12
  have S_na := S_na.nx L12
  have H_na := H_na.st L12
  have H_nb := H_nb.st L12
  have C0 := bt C0 L12
  have i0 := S_na.cell 0
  have i1 := S_na.cell 1
  have i2 := S_na.cell 2
  have i3 := S_na.cell 3
  have i4 := S_na.cell 4
  have i5 := S_na.cell 5
  go_wp2_with fail
  clear i0 i1 i2 i3 i4 i5
  refine (o8 _ _ H_na).mono ?_; rintro e w13 ⟨A13a, c13a, D13a, d13a, A13b, c13b, D13b, d13b, rfl, O13a, O13b, O13c, O13d, B13⟩
  try dsimp only at O13a O13b O13c O13d
  have H_nn : VN w13 w13.heap.size (.agg #[.bool nnr.s, .slice A13a nnr.a.length c13a, .slice D13a nnr.b.length d13a, .bool nni.s, .slice A13b nni.a.length c13b, .slice D13b nni.b.length d13b]) nnr nni := ⟨A13a, c13a, D13a, d13a, A13b, c13b, D13b, d13b, rfl, O13a.rw, O13b.rw, O13c.rw, O13d.rw⟩
  clear O13a O13b O13c O13d
  have S_a := S_a.nx B13
  have H_a := H_a.st B13
  have S_b := S_b.nx B13
  have H_b := H_b.st B13
  have S_x := S_x.nx B13
  have H_x := H_x.st B13
  have S_y := S_y.nx B13
  have H_y := H_y.st B13
  have S_z := S_z.nx B13
  have H_z := H_z.st B13
  have S_l := S_l.nx B13
  have H_l := H_l.st B13
  have S_r := S_r.nx B13
  have H_r := H_r.st B13
  have S_d := S_d.nx B13
  have H_d := H_d.st B13
  have S_na := S_na.nx B13
  have H_na := H_na.st B13
  have S_nb := S_nb.nx B13
  have H_nb := H_nb.st B13
  have C0 := bt C0 B13
  have L13 := bal w13 (.cells #[.bool nnr.s, .slice A13a nnr.a.length c13a, .slice D13a nnr.b.length d13a, .bool nni.s, .slice A13b nni.a.length c13b, .slice D13b nni.b.length d13b] 26)
  have S_nn := SB.new w13 [.bool nnr.s, .slice A13a nnr.a.length c13a, .slice D13a nnr.b.length d13a, .bool nni.s, .slice A13b nni.a.length c13b, .slice D13b nni.b.length d13b] 26
  have S_a := S_a.nx L13
  have H_a := H_a.st L13
  have S_b := S_b.nx L13
  have H_b := H_b.st L13
  have S_x := S_x.nx L13
  have H_x := H_x.st L13
  have S_y := S_y.nx L13
  have H_y := H_y.st L13
  have S_z := S_z.nx L13
  have H_z := H_z.st L13
  have S_l := S_l.nx L13
  have H_l := H_l.st L13
  have S_r := S_r.nx L13
  have H_r := H_r.st L13
  have S_d := S_d.nx L13
  have H_d := H_d.st L13
  have S_na := S_na.nx L13
  have H_na := H_na.st L13
  have S_nb := S_nb.nx L13
  have H_nb := H_nb.st L13
  have H_nn := H_nn.st L13
  have C0 := bt C0 L13
  have i0 := S_na.cell 0
  have i1 := S_na.cell 1
  have i2 := S_na.cell 2
  have i3 := S_na.cell 3
  have i4 := S_na.cell 4
  have i5 := S_na.cell 5
  have j0 := S_nb.cell 0
  have j1 := S_nb.cell 1
  have j2 := S_nb.cell 2
  have j3 := S_nb.cell 3
  have j4 := S_nb.cell 4
  have j5 := S_nb.cell 5
  go_wp2_with fail
  clear i0 i1 i2 i3 i4 i5
  clear j0 j1 j2 j3 j4 j5
  refine (o9 _ _ _ H_na H_nb).mono ?_; rintro e w14 ⟨A14a, c14a, D14a, d14a, A14b, c14b, D14b, d14b, rfl, O14a, O14b, O14c, O14d, B14⟩
  try dsimp only at O14a O14b O14c O14d
  have H_bo : VN w14 w14.heap.size (.agg #[.bool br.s, .slice A14a br.a.length c14a, .slice D14a br.b.length d14a, .bool bi.s, .slice A14b bi.a.length c14b, .slice D14b bi.b.length d14b]) br bi := ⟨A14a, c14a, D14a, d14a, A14b, c14b, D14b, d14b, rfl, O14a.rw, O14b.rw, O14c.rw, O14d.rw⟩
  clear O14a O14b O14c O14d
  have S_a := S_a.nx B14
  have H_a := H_a.st B14
  have S_b := S_b.nx B14
  have H_b := H_b.st B14
  have S_x := S_x.nx B14
  have H_x := H_x.st B14
  have S_y := S_y.nx B14
  have H_y := H_y.st B14
  have S_z := S_z.nx B14
  have H_z := H_z.st B14
  have S_l := S_l.nx B14
  have H_l := H_l.st B14
  have S_r := S_r.nx B14
  have H_r := H_r.st B14
  have S_d := S_d.nx B14
  have H_d := H_d.st B14
  have S_na := S_na.nx B14
  have H_na := H_na.st B14
  have S_nb := S_nb.nx B14
  have H_nb := H_nb.st B14
  have S_nn := S_nn.nx B14
  have H_nn := H_nn.st B14
  have C0 := bt C0 B14
  have L14 := bal w14 (.cells #[.bool br.s, .slice A14a br.a.length c14a, .slice D14a br.b.length d14a, .bool bi.s, .slice A14b bi.a.length c14b, .slice D14b bi.b.length d14b] 26)
  have S_bo := SB.new w14 [.bool br.s, .slice A14a br.a.length c14a, .slice D14a br.b.length d14a, .bool bi.s, .slice A14b bi.a.length c14b, .slice D14b bi.b.length d14b] 26
  have S_a := S_a.nx L14
  have H_a := H_a.st L14
  have S_b := S_b.nx L14
  have H_b := H_b.st L14
  have S_x := S_x.nx L14
  have H_x := H_x.st L14
  have S_y := S_y.nx L14
  have H_y := H_y.st L14
  have S_z := S_z.nx L14
  have H_z := H_z.st L14
  have S_l := S_l.nx L14
  have H_l := H_l.st L14
  have S_r := S_r.nx L14
  have H_r := H_r.st L14
  have S_d := S_d.nx L14
  have H_d := H_d.st L14
  have S_na := S_na.nx L14
  have H_na := H_na.st L14
  have S_nb := S_nb.nx L14
  have H_nb := H_nb.st L14
  have S_nn := S_nn.nx L14
  have H_nn := H_nn.st L14
  have H_bo := H_bo.st L14
  have C0 := bt C0 L14
  have i0 := S_x.cell 0
  have i1 := S_x.cell 1
  have i2 := S_x.cell 2
  have i3 := S_x.cell 3
  have i4 := S_x.cell 4
  have i5 := S_x.cell 5
  go_wp2_with fail
  clear i0 i1 i2 i3 i4 i5
  refine (o10 _ _ H_x).mono ?_; rintro e w15 ⟨A15a, c15a, D15a, d15a, A15b, c15b, D15b, d15b, rfl, O15a, O15b, O15c, O15d, B15⟩
  try dsimp only at O15a O15b O15c O15d
  have H_no : VN w15 w15.heap.size (.agg #[.bool nr.s, .slice A15a nr.a.length c15a, .slice D15a nr.b.length d15a, .bool ni.s, .slice A15b ni.a.length c15b, .slice D15b ni.b.length d15b]) nr ni := ⟨A15a, c15a, D15a, d15a, A15b, c15b, D15b, d15b, rfl, O15a.rw, O15b.rw, O15c.rw, O15d.rw⟩
  clear O15a O15b O15c O15d
  have S_a := S_a.nx B15
  have H_a := H_a.st B15
  have S_b := S_b.nx B15
  have H_b := H_b.st B15
  have S_x := S_x.nx B15
  have H_x := H_x.st B15
  have S_y := S_y.nx B15
  have H_y := H_y.st B15
  have S_z := S_z.nx B15
  have H_z := H_z.st B15
  have S_l := S_l.nx B15
  have H_l := H_l.st B15
  have S_r := S_r.nx B15
  have H_r := H_r.st B15
  have S_d := S_d.nx B15
  have H_d := H_d.st B15
  have S_na := S_na.nx B15
  have H_na := H_na.st B15
  have S_nb := S_nb.nx B15
  have H_nb := H_nb.st B15
  have S_nn := S_nn.nx B15
  have H_nn := H_nn.st B15
  have S_bo := S_bo.nx B15
  have H_bo := H_bo.st B15
  have C0 := bt C0 B15
  have L15 := bal w15 (.cells #[.bool nr.s, .slice A15a nr.a.length c15a, .slice D15a nr.b.length d15a, .bool ni.s, .slice A15b ni.a.length c15b, .slice D15b ni.b.length d15b] 26)
  have S_no := SB.new w15 [.bool nr.s, .slice A15a nr.a.length c15a, .slice D15a nr.b.length d15a, .bool ni.s, .slice A15b ni.a.length c15b, .slice D15b ni.b.length d15b] 26
  have S_a := S_a.nx L15
  have H_a := H_a.st L15
  have S_b := S_b.nx L15
  have H_b := H_b.st L15
  have S_x := S_x.nx L15
  have H_x := H_x.st L15
  have S_y := S_y.nx L15
  have H_y := H_y.st L15
  have S_z := S_z.nx L15
  have H_z := H_z.st L15
  have S_l := S_l.nx L15
  have H_l := H_l.st L15
  have S_r := S_r.nx L15
  have H_r := H_r.st L15
  have S_d := S_d.nx L15
  have H_d := H_d.st L15
  have S_na := S_na.nx L15
  have H_na := H_na.st L15
  have S_nb := S_nb.nx L15
  have H_nb := H_nb.st L15
  have S_nn := S_nn.nx L15
  have H_nn := H_nn.st L15
  have S_bo := S_bo.nx L15
  have H_bo := H_bo.st L15
  have H_no := H_no.st L15
  have C0 := bt C0 L15
  go_wp2_with fail
  go_ret
  exact ⟨rfl, C0⟩
set_option maxRecDepth 100000 in
set_option maxHeartbeats 16000000 in
theorem bitsLaws_good12 (V : Value) (ra ia : Rw) (U : Value) (rb ib : Rw) (w : World) (hV : VN w w.heap.size V ra ia) (hU : VN w w.heap.size U rb ib) (mr mi dr di sr si : Rw) (mk dk sk : Int) (em : qbothA (· &&& ·) ra ia rb ib = (mr, mi, mk)) (ed : qbothA (· ||| ·) ra ia rb ib = (dr, di, dk)) (es : qbothA (· ^^^ ·) ra ia rb ib = (sr, si, sk)) (hm : mk = 0) (hd : dk = 0) (hs : sk = 0) (lr li : Rw) (lk : Int) (el : qaddA ra ia rb ib = (lr, li, lk)) (hl : lk ≠ 0)
    (nar nai nbr nbi nnr nni br bi nr ni : Rw) (nak nbk nnk hk ik : Int) (ena : qnotA ra ia = (nar, nai, nak)) (enb : qnotA rb ib = (nbr, nbi, nbk)) (enn : qnotA nar nai = (nnr, nni, nnk)) (ebo : qbothA (· ||| ·) nar nai nbr nbi = (br, bi, hk)) (eno : qnotA mr mi = (nr, ni, ik)) (hq : nak = 0 ∧ nbk = 0 ∧ hk ≠ 0) : Calls Try.prog 6 #[V, U] w fun e w' => e = .returned (.bool true) ∧ Below w.heap.size w w' := by
  subst hm hd hs
  have o0 := fun V U w' h1 h2 => band_any V U ra ia rb ib w' h1 h2
  have o1 := fun V U w' h1 h2 => bor_any V U ra ia rb ib w' h1 h2
  have o2 := fun V U w' h1 h2 => bxor_any V U ra ia rb ib w' h1 h2
  rw [em] at o0
  rw [ed] at o1
  rw [es] at o2
  obtain ⟨g1, g2, g3, g4, g5, g6, g7⟩ := laws_good em ed es
  have o3 := fun V U w' h1 h2 => eadd_any (V := V) (U := U) (r := mr) (i := mi) (r' := dr) (i' := di) (w := w') h1 h2
  have o4 := fun V U w' h1 h2 => eadd_any (V := V) (U := U) (r := ra) (i := ia) (r' := rb) (i' := ib) (w := w') h1 h2
  have o5 := fun V U w' h1 h2 => esub_any (V := V) (U := U) (r := dr) (i := di) (r' := mr) (i' := mi) (w := w') h1 h2
  have o6 := fun V w' h1 => bnot_any V ra ia w' h1
  have o7 := fun V w' h1 => bnot_any V rb ib w' h1
  have o8 := fun V w' h1 => bnot_any V nar nai w' h1
  have o9 := fun V U w' h1 h2 => bor_any V U nar nai nbr nbi w' h1 h2
  have o10 := fun V w' h1 => bnot_any V mr mi w' h1
  rw [g1, el] at o3
  rw [el] at o4
  rw [g2] at o5
  rw [qboth_not, ena] at o6
  rw [qboth_not, enb] at o7
  rw [qboth_not, enn] at o8
  rw [ebo] at o9
  rw [qboth_not, eno] at o10
  have l0 := fun V U w' h1 h2 => esame_any V U sr si sr si w' h1 h2
  rw [g3] at l0
  have n0 : (lk == 0) = false := beq_eq_false_iff_ne.2 hl
  obtain ⟨q1, q2, q3⟩ := hq
  subst q1 q2
  obtain ⟨g8, g9⟩ := g6 nar nai nbr nbi ena enb
  rw [enn] at g8
  rw [ebo, eno] at g9
  simp only [Prod.mk.injEq] at g8 g9
  obtain ⟨r1, r2, r3⟩ := g8
  obtain ⟨r4, r5, r6⟩ := g9
  have r1 := r1.symm
  have r2 := r2.symm
  subst r1 r2 r3 r4 r5 r6
  have n6 : (hk != 0) = true := bne_iff_ne.2 q3
  clear g1 g2 g3 g4 g5 g6 g7 em ed es el ena enb enn ebo eno hl q3
  obtain ⟨A1, c1, D1, d1, A2, c2, D2, d2, rfl, p1, p2, p3, p4⟩ := hV
  obtain ⟨A3, c3, D3, d3, A4, c4, D4, d4, rfl, p5, p6, p7, p8⟩ := hU
  obtain ⟨S_a, S_b, C0⟩ := T2.new w [.bool ra.s, .slice A1 ra.a.length c1, .slice D1 ra.b.length d1, .bool ia.s, .slice A2 ia.a.length c2, .slice D2 ia.b.length d2] [.bool rb.s, .slice A3 rb.a.length c3, .slice D3 rb.b.length d3, .bool ib.s, .slice A4 ib.a.length c4, .slice D4 ib.b.length d4] 26 26
  have H_a : VN w w.heap.size (.agg #[.bool ra.s, .slice A1 ra.a.length c1, .slice D1 ra.b.length d1, .bool ia.s, .slice A2 ia.a.length c2, .slice D2 ia.b.length d2]) ra ia := ⟨A1, c1, D1, d1, A2, c2, D2, d2, rfl, p1, p2, p3, p4⟩
  have H_a := H_a.st C0
  have H_b : VN w w.heap.size (.agg #[.bool rb.s, .slice A3 rb.a.length c3, .slice D3 rb.b.length d3, .bool ib.s, .slice A4 ib.a.length c4, .slice D4 ib.b.length d4]) rb ib := ⟨A3, c3, D3, d3, A4, c4, D4, d4, rfl, p5, p6, p7, p8⟩
  have H_b := H_b.st C0
  clear p1 p2 p3 p4 p5 p6 p7 p8
  obtain ⟨W0, hW0⟩ : ∃ W0, W0 = (w.alloc (.cells #[.bool ra.s, .slice A1 ra.a.length c1, .slice D1 ra.b.length d1, .bool ia.s, .slice A2 ia.a.length c2, .slice D2 ia.b.length d2] 26)).alloc (.cells #[.bool rb.s, .slice A3 rb.a.length c3, .slice D3 rb.b.length d3, .bool ib.s, .slice A4 ib.a.length c4, .slice D4 ib.b.length d4] 26) := ⟨_, rfl⟩
  go_enter Try.func6, Try.ntmps6
  have i0 := S_a.cell 0
  have i1 := S_a.cell 1
  have i2 := S_a.cell 2
  have i3 := S_a.cell 3
  have i4 := S_a.cell 4
  have i5 := S_a.cell 5
  have j0 := S_b.cell 0
  have j1 := S_b.cell 1
  have j2 := S_b.cell 2
  have j3 := S_b.cell 3
  have j4 := S_b.cell 4
  have j5 := S_b.cell 5
  go_wp2_with fail
  rw [← hW0] at S_a S_b C0 H_a H_b ⊢
  clear hW0
  clear i0 i1 i2 i3 i4 i5
  clear j0 j1 j2 j3 j4 j5
  refine (o0 _ _ _ H_a H_b).mono ?_; rintro e w3 ⟨A3a, c3a, D3a, d3a, A3b, c3b, D3b, d3b, rfl, O3a, O3b, O3c, O3d, B3⟩
  try dsimp only at O3a O3b O3c O3d
  have H_x : VN w3 w3.heap.size (.agg #[.bool mr.s, .slice A3a mr.a.length c3a, .slice D3a mr.b.length d3a, .bool mi.s, .slice A3b mi.a.length c3b, .slice D3b mi.b.length d3b]) mr mi := ⟨A3a, c3a, D3a, d3a, A3b, c3b, D3b, d3b, rfl, O3a.rw, O3b.rw, O3c.rw, O3d.rw⟩
  clear O3a O3b O3c O3d
  have S_a := S_a.nx B3
  have H_a := H_a.st B3
  have S_b := S_b.nx B3
  have H_b := H_b.st B3
  have C0 := bt C0 B3
  have L3 := bal w3 (.cells #[.bool mr.s, .slice A3a mr.a.length c3a, .slice D3a mr.b.length d3a, .bool mi.s, .slice A3b mi.a.length c3b, .slice D3b mi.b.length d3b] 26)
  have S_x := SB.new w3 [.bool mr.s, .slice A3a mr.a.length c3a, .slice D3a mr.b.length d3a, .bool mi.s, .slice A3b mi.a.length c3b, .slice D3b mi.b.length d3b] 26
  have S_a := S_a.nx L3
  have H_a := H_a.st L3
  have S_b := S_b.nx L3
  have H_b := H_b.st L3
  have H_x := H_x.st L3
  have C0 := bt C0 L3
  have i0 := S_a.cell 0
  have i1 := S_a.cell 1
  have i2 := S_a.cell 2
  have i3 := S_a.cell 3
  have i4 := S_a.cell 4
  have i5 := S_a.cell 5
  have j0 := S_b.cell 0
  have j1 := S_b.cell 1
  have j2 := S_b.cell 2
  have j3 := S_b.cell 3
  have j4 := S_b.cell 4
  have j5 := S_b.cell 5
  go_wp2_with fail
  clear i0 i1 i2 i3 i4 i5
  clear j0 j1 j2 j3 j4 j5
  refine (o1 _ _ _ H_a H_b).mono ?_; rintro e w4 ⟨A4a, c4a, D4a, d4a, A4b, c4b, D4b, d4b, rfl, O4a, O4b, O4c, O4d, B4⟩
  try dsimp only at O4a O4b O4c O4d
  have H_y : VN w4 w4.heap.size (.agg #[.bool dr.s, .slice A4a dr.a.length c4a, .slice D4a dr.b.length d4a, .bool di.s, .slice A4b di.a.length c4b, .slice D4b di.b.length d4b]) dr di := ⟨A4a, c4a, D4a, d4a, A4b, c4b, D4b, d4b, rfl, O4a.rw, O4b.rw, O4c.rw, O4d.rw⟩
  clear O4a O4b O4c O4d
  have S_a := S_a.nx B4
  have H_a := H_a.st B4
  have S_b := S_b.nx B4
  have H_b := H_b.st B4
  have S_x := S_x.nx B4
  have H_x := H_x.st B4
  have C0 := bt C0 B4
  have L4 := bal w4 (.cells #[.bool dr.s, .slice A4a dr.a.length c4a, .slice D4a dr.b.length d4a, .bool di.s, .slice A4b di.a.length c4b, .slice D4b di.b.length d4b] 26)
  have S_y := SB.new w4 [.bool dr.s, .slice A4a dr.a.length c4a, .slice D4a dr.b.length d4a, .bool di.s, .slice A4b di.a.length c4b, .slice D4b di.b.length d4b] 26
  have S_a := S_a.nx L4
  have H_a := H_a.st L4
  have S_b := S_b.nx L4
  have H_b := H_b.st L4
  have S_x := S_x.nx L4
  have H_x := H_x.st L4
  have H_y := H_y.st L4
  have C0 := bt C0 L4
  have i0 := S_a.cell 0
  have i1 := S_a.cell 1
  have i2 := S_a.cell 2
  have i3 := S_a.cell 3
  have i4 := S_a.cell 4
  have i5 := S_a.cell 5
  have j0 := S_b.cell 0
  have j1 := S_b.cell 1
  have j2 := S_b.cell 2
  have j3 := S_b.cell 3
  have j4 := S_b.cell 4
  have j5 := S_b.cell 5
  go_wp2_with fail
  clear i0 i1 i2 i3 i4 i5
  clear j0 j1 j2 j3 j4 j5
  refine (o2 _ _ _ H_a H_b).mono ?_; rintro e w5 ⟨A5a, c5a, D5a, d5a, A5b, c5b, D5b, d5b, rfl, O5a, O5b, O5c, O5d, B5⟩
  try dsimp only at O5a O5b O5c O5d
  have H_z : VN w5 w5.heap.size (.agg #[.bool sr.s, .slice A5a sr.a.length c5a, .slice D5a sr.b.length d5a, .bool si.s, .slice A5b si.a.length c5b, .slice D5b si.b.length d5b]) sr si := ⟨A5a, c5a, D5a, d5a, A5b, c5b, D5b, d5b, rfl, O5a.rw, O5b.rw, O5c.rw, O5d.rw⟩
  clear O5a O5b O5c O5d
  have S_a := S_a.nx B5
  have H_a := H_a.st B5
  have S_b := S_b.nx B5
  have H_b := H_b.st B5
  have S_x := S_x.nx B5
  have H_x := H_x.st B5
  have S_y := S_y.nx B5
  have H_y := H_y.st B5
  have C0 := bt C0 B5
  have L5 := bal w5 (.cells #[.bool sr.s, .slice A5a sr.a.length c5a, .slice D5a sr.b.length d5a, .bool si.s, .slice A5b si.a.length c5b, .slice D5b si.b.length d5b] 26)
  have S_z := SB.new w5 [.bool sr.s, .slice A5a sr.a.length c5a, .slice D5a sr.b.length d5a, .bool si.s, .slice A5b si.a.length c5b, .slice D5b si.b.length d5b] 26
  have S_a := S_a.nx L5
  have H_a := H_a.st L5
  have S_b := S_b.nx L5
  have H_b := H_b.st L5
  have S_x := S_x.nx L5
  have H_x := H_x.st L5
  have S_y := S_y.nx L5
  have H_y := H_y.st L5
  have H_z := H_z.st L5
  have C0 := bt C0 L5
  go_wp2_with fail
  refine (awake4_any _).mono ?_; rintro e w6 ⟨rfl, B6⟩
  have S_a := S_a.nx B6
  have H_a := H_a.st B6
  have S_b := S_b.nx B6
  have H_b := H_b.st B6
  have S_x := S_x.nx B6
  have H_x := H_x.st B6
  have S_y := S_y.nx B6
  have H_y := H_y.st B6
  have S_z := S_z.nx B6
  have H_z := H_z.st B6
  have C0 := bt C0 B6
  have i0 := S_x.cell 0
  have i1 := S_x.cell 1
  have i2 := S_x.cell 2
  have i3 := S_x.cell 3
  have i4 := S_x.cell 4
  have i5 := S_x.cell 5
  have j0 := S_y.cell 0
  have j1 := S_y.cell 1
  have j2 := S_y.cell 2
  have j3 := S_y.cell 3
  have j4 := S_y.cell 4
  have j5 := S_y.cell 5
  go_wp2_with fail
  clear i0 i1 i2 i3 i4 i5
  clear j0 j1 j2 j3 j4 j5
  refine (o3 _ _ _ H_x H_y).mono ?_; rintro e w7 ⟨A7a, c7a, D7a, d7a, A7b, c7b, D7b, d7b, rfl, O7a, O7b, O7c, O7d, B7⟩
  try dsimp only at O7a O7b O7c O7d
  have H_l : VN w7 w7.heap.size (.agg #[.bool lr.s, .slice A7a lr.a.length c7a, .slice D7a lr.b.length d7a, .bool li.s, .slice A7b li.a.length c7b, .slice D7b li.b.length d7b]) lr li := ⟨A7a, c7a, D7a, d7a, A7b, c7b, D7b, d7b, rfl, O7a.rw, O7b.rw, O7c.rw, O7d.rw⟩
  clear O7a O7b O7c O7d
  have S_a := S_a.nx B7
  have H_a := H_a.st B7
  have S_b := S_b.nx B7
  have H_b := H_b.st B7
  have S_x := S_x.nx B7
  have H_x := H_x.st B7
  have S_y := S_y.nx B7
  have H_y := H_y.st B7
  have S_z := S_z.nx B7
  have H_z := H_z.st B7
  have C0 := bt C0 B7
  have L7 := bal w7 (.cells #[.bool lr.s, .slice A7a lr.a.length c7a, .slice D7a lr.b.length d7a, .bool li.s, .slice A7b li.a.length c7b, .slice D7b li.b.length d7b] 26)
  have S_l := SB.new w7 [.bool lr.s, .slice A7a lr.a.length c7a, .slice D7a lr.b.length d7a, .bool li.s, .slice A7b li.a.length c7b, .slice D7b li.b.length d7b] 26
  have S_a := S_a.nx L7
  have H_a := H_a.st L7
  have S_b := S_b.nx L7
  have H_b := H_b.st L7
  have S_x := S_x.nx L7
  have H_x := H_x.st L7
  have S_y := S_y.nx L7
  have H_y := H_y.st L7
  have S_z := S_z.nx L7
  have H_z := H_z.st L7
  have H_l := H_l.st L7
  have C0 := bt C0 L7
  have i0 := S_a.cell 0
  have i1 := S_a.cell 1
  have i2 := S_a.cell 2
  have i3 := S_a.cell 3
  have i4 := S_a.cell 4
  have i5 := S_a.cell 5
  have j0 := S_b.cell 0
  have j1 := S_b.cell 1
  have j2 := S_b.cell 2
  have j3 := S_b.cell 3
  have j4 := S_b.cell 4
  have j5 := S_b.cell 5
  go_wp2_with fail
  clear i0 i1 i2 i3 i4 i5
  clear j0 j1 j2 j3 j4 j5
  refine (o4 _ _ _ H_a H_b).mono ?_; rintro e w8 ⟨A8a, c8a, D8a, d8a, A8b, c8b, D8b, d8b, rfl, O8a, O8b, O8c, O8d, B8⟩
  try dsimp only at O8a O8b O8c O8d
  have H_r : VN w8 w8.heap.size (.agg #[.bool lr.s, .slice A8a lr.a.length c8a, .slice D8a lr.b.length d8a, .bool li.s, .slice A8b li.a.length c8b, .slice D8b li.b.length d8b]) lr li := ⟨A8a, c8a, D8a, d8a, A8b, c8b, D8b, d8b, rfl, O8a.rw, O8b.rw, O8c.rw, O8d.rw⟩
  clear O8a O8b O8c O8d
  have S_a := S_a.nx B8
  have H_a := H_a.st B8
  have S_b := S_b.nx B8
  have H_b := H_b.st B8
  have S_x := S_x.nx B8
  have H_x := H_x.st B8
  have S_y := S_y.nx B8
  have H_y := H_y.st B8
  have S_z := S_z.nx B8
  have H_z := H_z.st B8
  have S_l := S_l.nx B8
  have H_l := H_l.st B8
  have C0 := bt C0 B8
  have L8 := bal w8 (.cells #[.bool lr.s, .slice A8a lr.a.length c8a, .slice D8a lr.b.length d8a, .bool li.s, .slice A8b li.a.length c8b, .slice D8b li.b.length d8b] 26)
  have S_r := SB.new w8 [.bool lr.s, .slice A8a lr.a.length c8a, .slice D8a lr.b.length d8a, .bool li.s, .slice A8b li.a.length c8b, .slice D8b li.b.length d8b] 26
  have S_a := S_a.nx L8
  have H_a := H_a.st L8
  have S_b := S_b.nx L8
  have H_b := H_b.st L8
  have S_x := S_x.nx L8
  have H_x := H_x.st L8
  have S_y := S_y.nx L8
  have H_y := H_y.st L8
  have S_z := S_z.nx L8
  have H_z := H_z.st L8
  have S_l := S_l.nx L8
  have H_l := H_l.st L8
  have H_r := H_r.st L8
  have C0 := bt C0 L8
  have i0 := S_y.cell 0
  have i1 := S_y.cell 1
  have i2 := S_y.cell 2
  have i3 := S_y.cell 3
  have i4 := S_y.cell 4
  have i5 := S_y.cell 5
  have j0 := S_x.cell 0
  have j1 := S_x.cell 1
  have j2 := S_x.cell 2
  have j3 := S_x.cell 3
  have j4 := S_x.cell 4
  have j5 := S_x.cell 5
  go_wp2_with fail
  clear i0 i1 i2 i3 i4 i5
  clear j0 j1 j2 j3 j4 j5
  refine (o5 _ _ _ H_y H_x).mono ?_; rintro e w9 ⟨A9a, c9a, D9a, d9a, A9b, c9b, D9b, d9b, rfl, O9a, O9b, O9c, O9d, B9⟩
  try dsimp only at O9a O9b O9c O9d
  have H_d : VN w9 w9.heap.size (.agg #[.bool sr.s, .slice A9a sr.a.length c9a, .slice D9a sr.b.length d9a, .bool si.s, .slice A9b si.a.length c9b, .slice D9b si.b.length d9b]) sr si := ⟨A9a, c9a, D9a, d9a, A9b, c9b, D9b, d9b, rfl, O9a.rw, O9b.rw, O9c.rw, O9d.rw⟩
  clear O9a O9b O9c O9d
  have S_a := S_a.nx B9
  have H_a := H_a.st B9
  have S_b := S_b.nx B9
  have H_b := H_b.st B9
  have S_x := S_x.nx B9
  have H_x := H_x.st B9
  have S_y := S_y.nx B9
  have H_y := H_y.st B9
  have S_z := S_z.nx B9
  have H_z := H_z.st B9
  have S_l := S_l.nx B9
  have H_l := H_l.st B9
  have S_r := S_r.nx B9
  have H_r := H_r.st B9
  have C0 := bt C0 B9
  have L9 := bal w9 (.cells #[.bool sr.s, .slice A9a sr.a.length c9a, .slice D9a sr.b.length d9a, .bool si.s, .slice A9b si.a.length c9b, .slice D9b si.b.length d9b] 26)
  have S_d := SB.new w9 [.bool sr.s, .slice A9a sr.a.length c9a, .slice D9a sr.b.length d9a, .bool si.s, .slice A9b si.a.length c9b, .slice D9b si.b.length d9b] 26
  have S_a := S_a.nx L9
  have H_a := H_a.st L9
  have S_b := S_b.nx L9
  have H_b := H_b.st L9
  have S_x := S_x.nx L9
  have H_x := H_x.st L9
  have S_y := S_y.nx L9
  have H_y := H_y.st L9
  have S_z := S_z.nx L9
  have H_z := H_z.st L9
  have S_l := S_l.nx L9
  have H_l := H_l.st L9
  have S_r := S_r.nx L9
  have H_r := H_r.st L9
  have H_d := H_d.st L9
  have C0 := bt C0 L9
  have i0 := S_d.cell 0
  have i1 := S_d.cell 1
  have i2 := S_d.cell 2
  have i3 := S_d.cell 3
  have i4 := S_d.cell 4
  have i5 := S_d.cell 5
  have j0 := S_z.cell 0
  have j1 := S_z.cell 1
  have j2 := S_z.cell 2
  have j3 := S_z.cell 3
  have j4 := S_z.cell 4
  have j5 := S_z.cell 5
  go_wp2_with fail
  refine (l0 _ _ _ H_d H_z).mono ?_; rintro e w10 ⟨rfl, B10⟩
  have S_a := S_a.nx B10
  have H_a := H_a.st B10
  have S_b := S_b.nx B10
  have H_b := H_b.st B10
  have S_x := S_x.nx B10
  have H_x := H_x.st B10
  have S_y := S_y.nx B10
  have H_y := H_y.st B10
  have S_z := S_z.nx B10
  have H_z := H_z.st B10
  have S_l := S_l.nx B10
  have H_l := H_l.st B10
  have S_r := S_r.nx B10
  have H_r := H_r.st B10
  have S_d := S_d.nx B10
  have H_d := H_d.st B10
  have C0 := bt C0 B10
  clear i0 i1 i2 i3 i4 i5
  clear j0 j1 j2 j3 j4 j5
  have i0 := S_a.cell 0
  have i1 := S_a.cell 1
  have i2 := S_a.cell 2
  have i3 := S_a.cell 3
  have i4 := S_a.cell 4
  have i5 := S_a.cell 5
  go_wp2_with fail
  clear i0 i1 i2 i3 i4 i5
  refine (o6 _ _ H_a).mono ?_; rintro e w11 ⟨A11a, c11a, D11a, d11a, A11b, c11b, D11b, d11b, rfl, O11a, O11b, O11c, O11d, B11⟩
  try dsimp only at O11a O11b O11c O11d
  have H_na : VN w11 w11.heap.size (.agg #[.bool nar.s, .slice A11a nar.a.length c11a, .slice D11a nar.b.length d11a, .bool nai.s, .slice A11b nai.a.length c11b, .slice D11b nai.b.length d11b]) nar nai := ⟨A11a, c11a, D11a, d11a, A11b, c11b, D11b, d11b, rfl, O11a.rw, O11b.rw, O11c.rw, O11d.rw⟩
  clear O11a O11b O11c O11d
  have S_a := S_a.nx B11
  have H_a := H_a.st B11
  have S_b := S_b.nx B11
  have H_b := H_b.st B11
  have S_x := S_x.nx B11
  have H_x := H_x.st B11
  have S_y := S_y.nx B11
  have H_y := H_y.st B11
  have S_z := S_z.nx B11
  have H_z := H_z.st B11
  have S_l := S_l.nx B11
  have H_l := H_l.st B11
  have S_r := S_r.nx B11
  have H_r := H_r.st B11
  have S_d := S_d.nx B11
  have H_d := H_d.st B11
  have C0 := bt C0 B11
  have L11 := bal w11 (.cells #[.bool nar.s, .slice A11a nar.a.length c11a, .slice D11a nar.b.length d11a, .bool nai.s, .slice A11b nai.a.length c11b, .slice D11b nai.b.length d11b] 26)
  have S_na := SB.new w11 [.bool nar.s, .slice A11a nar.a.length c11a, .slice D11a nar.b.length d11a, .bool nai.s, .slice A11b nai.a.length c11b, .slice D11b nai.b.length d11b] 26
  have S_a := S_a.nx L11
  have H_a := H_a.st L11
  have S_b := S_b.nx L11
  have H_b := H_b.st L11
  have S_x := S_x.nx L11
  have H_x := H_x.st L11
  have S_y := S_y.nx L11
  have H_y := H_y.st L11
  have S_z := S_z.nx L11
  have H_z := H_z.st L11
  have S_l := S_l.nx L11
  have H_l := H_l.st L11
  have S_r := S_r.nx L11
  have H_r := H_r.st L11
  have S_d := S_d.nx L11
  have H_d := H_d.st L11
  have H_na := H_na.st L11
  have C0 := bt C0 L11
  have i0 := S_b.cell 0
  have i1 := S_b.cell 1
  have i2 := S_b.cell 2
  have i3 := S_b.cell 3
  have i4 := S_b.cell 4
  have i5 := S_b.cell 5
  go_wp2_with fail
  clear i0 i1 i2 i3 i4 i5
  refine (o7 _ _ H_b).mono ?_; rintro e w12 ⟨A12a, c12a, D12a, d12a, A12b, c12b, D12b, d12b, rfl, O12a, O12b, O12c, O12d, B12⟩
  try dsimp only at O12a O12b O12c O12d
  have H_nb : VN w12 w12.heap.size (.agg #[.bool nbr.s, .slice A12a nbr.a.length c12a, .slice D12a nbr.b.length d12a, .bool nbi.s, .slice A12b nbi.a.length c12b, .slice D12b nbi.b.length d12b]) nbr nbi := ⟨A12a, c12a, D12a, d12a, A12b, c12b, D12b, d12b, rfl, O12a.rw, O12b.rw, O12c.rw, O12d.rw⟩
  clear O12a O12b O12c O12d
  have S_a := S_a.nx B12
  have H_a := H_a.st B12
  have S_b := S_b.nx B12
  have H_b := H_b.st B12
  have S_x := S_x.nx B12
  have H_x := H_x.st B12
  have S_y := S_y.nx B12
  have H_y := H_y.st B12
  have S_z := S_z.nx B12
  have H_z := H_z.st B12
  have S_l := S_l.nx B12
  have H_l := H_l.st B12
  have S_r := S_r.nx B12
  have H_r := H_r.st B12
  have S_d := S_d.nx B12
  have H_d := H_d.st B12
  have S_na := S_na.nx B12
  have H_na := H_na.st B12
  have C0 := bt C0 B12
  have L12 := bal w12 (.cells #[.bool nbr.s, .slice A12a nbr.a.length c12a, .slice D12a nbr.b.length d12a, .bool nbi.s, .slice A12b nbi.a.length c12b, .slice D12b nbi.b.length d12b] 26)
  have S_nb := SB.new w12 [.bool nbr.s, .slice A12a nbr.a.length c12a, .slice D12a nbr.b.length d12a, .bool nbi.s, .slice A12b nbi.a.length c12b, .slice D12b nbi.b.length d12b] 26
  have S_a := S_a.nx L12
  have H_a := H_a.st L12
  have S_b := S_b.nx L12
  have H_b := H_b.st L12
  have S_x := S_x.nx L12
  have H_x := H_x.st L12
  have S_y := S_y.nx L12
  have H_y := H_y.st L12
  have S_z := S_z.nx L12
  have H_z := H_z.st L12
  have S_l := S_l.nx L12
  have H_l := H_l.st L12
  have S_r := S_r.nx L12
  have H_r := H_r.st L12
  have S_d := S_d.nx L12
  have H_d := H_d.st L12
  have S_na := S_na.nx L12
  have H_na := H_na.st L12
  have H_nb := H_nb.st L12
  have C0 := bt C0 L12
  have i0 := S_na.cell 0
  have i1 := S_na.cell 1
  have i2 := S_na.cell 2
  have i3 := S_na.cell 3
  have i4 := S_na.cell 4
  have i5 := S_na.cell 5
  go_wp2_with fail
  clear i0 i1 i2 i3 i4 i5
  refine (o8 _ _ H_na).mono ?_; rintro e w13 ⟨A13a, c13a, D13a, d13a, A13b, c13b, D13b, d13b, rfl, O13a, O13b, O13c, O13d, B13⟩
  try dsimp only at O13a O13b O13c O13d
  have H_nn : VN w13 w13.heap.size (.agg #[.bool ra.s, .slice A13a ra.a.length c13a, .slice D13a ra.b.length d13a, .bool ia.s, .slice A13b ia.a.length c13b, .slice D13b ia.b.length d13b]) ra ia := ⟨A13a, c13a, D13a, d13a, A13b, c13b, D13b, d13b, rfl, O13a.rw, O13b.rw, O13c.rw, O13d.rw⟩
  clear O13a O13b O13c O13d
  have S_a := S_a.nx B13
  have H_a := H_a.st B13
  have S_b := S_b.nx B13
  have H_b := H_b.st B13
  have S_x := S_x.nx B13
  have H_x := H_x.st B13
  have S_y := S_y.nx B13
  have H_y := H_y.st B13
  have S_z := S_z.nx B13
  have H_z := H_z.st B13
  have S_l := S_l.nx B13
  have H_l := H_l.st B13
  have S_r := S_r.nx B13
  have H_r := H_r.st B13
  have S_d := S_d.nx B13
  have H_d := H_d.st B13
  have S_na := S_na.nx B13
  have H_na := H_na.st B13
  have S_nb := S_nb.nx B13
  have H_nb := H_nb.st B13
  have C0 := bt C0 B13
  have L13 := bal w13 (.cells #[.bool ra.s, .slice A13a ra.a.length c13a, .slice D13a ra.b.length d13a, .bool ia.s, .slice A13b ia.a.length c13b, .slice D13b ia.b.length d13b] 26)
  have S_nn := SB.new w13 [.bool ra.s, .slice A13a ra.a.length c13a, .slice D13a ra.b.length d13a, .bool ia.s, .slice A13b ia.a.length c13b, .slice D13b ia.b.length d13b] 26
  have S_a := S_a.nx L13
  have H_a := H_a.st L13
  have S_b := S_b.nx L13
  have H_b := H_b.st L13
  have S_x := S_x.nx L13
  have H_x := H_x.st L13
  have S_y := S_y.nx L13
  have H_y := H_y.st L13
  have S_z := S_z.nx L13
  have H_z := H_z.st L13
  have S_l := S_l.nx L13
  have H_l := H_l.st L13
  have S_r := S_r.nx L13
  have H_r := H_r.st L13
  have S_d := S_d.nx L13
  have H_d := H_d.st L13
  have S_na := S_na.nx L13
  have H_na := H_na.st L13
  have S_nb := S_nb.nx L13
  have H_nb := H_nb.st L13
  have H_nn := H_nn.st L13
  have C0 := bt C0 L13
  have i0 := S_na.cell 0
  have i1 := S_na.cell 1
  have i2 := S_na.cell 2
  have i3 := S_na.cell 3
  have i4 := S_na.cell 4
  have i5 := S_na.cell 5
  have j0 := S_nb.cell 0
  have j1 := S_nb.cell 1
  have j2 := S_nb.cell 2
  have j3 := S_nb.cell 3
  have j4 := S_nb.cell 4
  have j5 := S_nb.cell 5
  go_wp2_with fail
  clear i0 i1 i2 i3 i4 i5
  clear j0 j1 j2 j3 j4 j5
  refine (o9 _ _ _ H_na H_nb).mono ?_; rintro e w14 ⟨A14a, c14a, D14a, d14a, A14b, c14b, D14b, d14b, rfl, O14a, O14b, O14c, O14d, B14⟩
  try dsimp only at O14a O14b O14c O14d
  have H_bo : VN w14 w14.heap.size (.agg #[.bool br.s, .slice A14a br.a.length c14a, .slice D14a br.b.length d14a, .bool bi.s, .slice A14b bi.a.length c14b, .slice D14b bi.b.length d14b]) br bi := ⟨A14a, c14a, D14a, d14a, A14b, c14b, D14b, d14b, rfl, O14a.rw, O14b.rw, O14c.rw, O14d.rw⟩
  clear O14a O14b O14c O14d
  have S_a := S_a.nx B14
  have H_a := H_a.st B14
  have S_b := S_b.nx B14
  have H_b := H_b.st B14
  have S_x := S_x.nx B14
  have H_x := H_x.st B14
  have S_y := S_y.nx B14
  have H_y := H_y.st B14
  have S_z := S_z.nx B14
  have H_z := H_z.st B14
  have S_l := S_l.nx B14
  have H_l := H_l.st B14
  have S_r := S_r.nx B14
  have H_r := H_r.st B14
  have S_d := S_d.nx B14
  have H_d := H_d.st B14
  have S_na := S_na.nx B14
  have H_na := H_na.st B14
  have S_nb := S_nb.nx B14
  have H_nb := H_nb.st B14
  have S_nn := S_nn.nx B14
  have H_nn := H_nn.st B14
  have C0 := bt C0 B14
  have L14 := bal w14 (.cells #[.bool br.s, .slice A14a br.a.length c14a, .slice D14a br.b.length d14a, .bool bi.s, .slice A14b bi.a.length c14b, .slice D14b bi.b.length d14b] 26)
  have S_bo := SB.new w14 [.bool br.s, .slice A14a br.a.length c14a, .slice D14a br.b.length d14a, .bool bi.s, .slice A14b bi.a.length c14b, .slice D14b bi.b.length d14b] 26
  have S_a := S_a.nx L14
  have H_a := H_a.st L14
  have S_b := S_b.nx L14
  have H_b := H_b.st L14
  have S_x := S_x.nx L14
  have H_x := H_x.st L14
  have S_y := S_y.nx L14
  have H_y := H_y.st L14
  have S_z := S_z.nx L14
  have H_z := H_z.st L14
  have S_l := S_l.nx L14
  have H_l := H_l.st L14
  have S_r := S_r.nx L14
  have H_r := H_r.st L14
  have S_d := S_d.nx L14
  have H_d := H_d.st L14
  have S_na := S_na.nx L14
  have H_na := H_na.st L14
  have S_nb := S_nb.nx L14
  have H_nb := H_nb.st L14
  have S_nn := S_nn.nx L14
  have H_nn := H_nn.st L14
  have H_bo := H_bo.st L14
  have C0 := bt C0 L14
  have i0 := S_x.cell 0
  have i1 := S_x.cell 1
  have i2 := S_x.cell 2
  have i3 := S_x.cell 3
  have i4 := S_x.cell 4
  have i5 := S_x.cell 5
  go_wp2_with fail
  clear i0 i1 i2 i3 i4 i5
  refine (o10 _ _ H_x).mono ?_; rintro e w15 ⟨A15a, c15a, D15a, d15a, A15b, c15b, D15b, d15b, rfl, O15a, O15b, O15c, O15d, B15⟩
  try dsimp only at O15a O15b O15c O15d
  have H_no : VN w15 w15.heap.size (.agg #[.bool br.s, .slice A15a br.a.length c15a, .slice D15a br.b.length d15a, .bool bi.s, .slice A15b bi.a.length c15b, .slice D15b bi.b.length d15b]) br bi := ⟨A15a, c15a, D15a, d15a, A15b, c15b, D15b, d15b, rfl, O15a.rw, O15b.rw, O15c.rw, O15d.rw⟩
  clear O15a O15b O15c O15d
  have S_a := S_a.nx B15
  have H_a := H_a.st B15
  have S_b := S_b.nx B15
  have H_b := H_b.st B15
  have S_x := S_x.nx B15
  have H_x := H_x.st B15
  have S_y := S_y.nx B15
  have H_y := H_y.st B15
  have S_z := S_z.nx B15
  have H_z := H_z.st B15
  have S_l := S_l.nx B15
  have H_l := H_l.st B15
  have S_r := S_r.nx B15
  have H_r := H_r.st B15
  have S_d := S_d.nx B15
  have H_d := H_d.st B15
  have S_na := S_na.nx B15
  have H_na := H_na.st B15
  have S_nb := S_nb.nx B15
  have H_nb := H_nb.st B15
  have S_nn := S_nn.nx B15
  have H_nn := H_nn.st B15
  have S_bo := S_bo.nx B15
  have H_bo := H_bo.st B15
  have C0 := bt C0 B15
  have L15 := bal w15 (.cells #[.bool br.s, .slice A15a br.a.length c15a, .slice D15a br.b.length d15a, .bool bi.s, .slice A15b bi.a.length c15b, .slice D15b bi.b.length d15b] 26)
  have S_no := SB.new w15 [.bool br.s, .slice A15a br.a.length c15a, .slice D15a br.b.length d15a, .bool bi.s, .slice A15b bi.a.length c15b, .slice D15b bi.b.length d15b] 26
  have S_a := S_a.nx L15
  have H_a := H_a.st L15
  have S_b := S_b.nx L15
  have H_b := H_b.st L15
  have S_x := S_x.nx L15
  have H_x := H_x.st L15
  have S_y := S_y.nx L15
  have H_y := H_y.st L15
  have S_z := S_z.nx L15
  have H_z := H_z.st L15
  have S_l := S_l.nx L15
  have H_l := H_l.st L15
  have S_r := S_r.nx L15
  have H_r := H_r.st L15
  have S_d := S_d.nx L15
  have H_d := H_d.st L15
  have S_na := S_na.nx L15
  have H_na := H_na.st L15
  have S_nb := S_nb.nx L15
  have H_nb := H_nb.st L15
  have S_nn := S_nn.nx L15
  have H_nn := H_nn.st L15
  have S_bo := S_bo.nx L15
  have H_bo := H_bo.st L15
  have H_no := H_no.st L15
  have C0 := bt C0 L15
  go_wp2_with fail
  go_ret
  exact ⟨rfl, C0⟩
set_option maxRecDepth 100000 in
set_option maxHeartbeats 16000000 in
theorem bitsLaws_good13 (V : Value) (ra ia : Rw) (U : Value) (rb ib : Rw) (w : World) (hV : VN w w.heap.size V ra ia) (hU : VN w w.heap.size U rb ib) (mr mi dr di sr si : Rw) (mk dk sk : Int) (em : qbothA (· &&& ·) ra ia rb ib = (mr, mi, mk)) (ed : qbothA (· ||| ·) ra ia rb ib = (dr, di, dk)) (es : qbothA (· ^^^ ·) ra ia rb ib = (sr, si, sk)) (hm : mk = 0) (hd : dk = 0) (hs : sk = 0) (lr li : Rw) (lk : Int) (el : qaddA ra ia rb ib = (lr, li, lk)) (hl : lk ≠ 0)
    (nar nai nbr nbi nnr nni br bi nr ni : Rw) (nak nbk nnk hk ik : Int) (ena : qnotA ra ia = (nar, nai, nak)) (enb : qnotA rb ib = (nbr, nbi, nbk)) (enn : qnotA nar nai = (nnr, nni, nnk)) (ebo : qbothA (· ||| ·) nar nai nbr nbi = (br, bi, hk)) (eno : qnotA mr mi = (nr, ni, ik)) (hq : nak = 0 ∧ nbk = 0 ∧ hk = 0) : Calls Try.prog 6 #[V, U] w fun e w' => e = .returned (.bool true) ∧ Below w.heap.size w w' := by
  subst hm hd hs
  have o0 := fun V U w' h1 h2 => band_any V U ra ia rb ib w' h1 h2
  have o1 := fun V U w' h1 h2 => bor_any V U ra ia rb ib w' h1 h2
  have o2 := fun V U w' h1 h2 => bxor_any V U ra ia rb ib w' h1 h2
  rw [em] at o0
  rw [ed] at o1
  rw [es] at o2
  obtain ⟨g1, g2, g3, g4, g5, g6, g7⟩ := laws_good em ed es
  have o3 := fun V U w' h1 h2 => eadd_any (V := V) (U := U) (r := mr) (i := mi) (r' := dr) (i' := di) (w := w') h1 h2
  have o4 := fun V U w' h1 h2 => eadd_any (V := V) (U := U) (r := ra) (i := ia) (r' := rb) (i' := ib) (w := w') h1 h2
  have o5 := fun V U w' h1 h2 => esub_any (V := V) (U := U) (r := dr) (i := di) (r' := mr) (i' := mi) (w := w') h1 h2
  have o6 := fun V w' h1 => bnot_any V ra ia w' h1
  have o7 := fun V w' h1 => bnot_any V rb ib w' h1
  have o8 := fun V w' h1 => bnot_any V nar nai w' h1
  have o9 := fun V U w' h1 h2 => bor_any V U nar nai nbr nbi w' h1 h2
  have o10 := fun V w' h1 => bnot_any V mr mi w' h1
  rw [g1, el] at o3
  rw [el] at o4
  rw [g2] at o5
  rw [qboth_not, ena] at o6
  rw [qboth_not, enb] at o7
  rw [qboth_not, enn] at o8
  rw [ebo] at o9
  rw [qboth_not, eno] at o10
  have l0 := fun V U w' h1 h2 => esame_any V U sr si sr si w' h1 h2
  rw [g3] at l0
  have n0 : (lk == 0) = false := beq_eq_false_iff_ne.2 hl
  obtain ⟨q1, q2, q3⟩ := hq
  subst q1 q2
  obtain ⟨g8, g9⟩ := g6 nar nai nbr nbi ena enb
  rw [enn] at g8
  rw [ebo, eno] at g9
  simp only [Prod.mk.injEq] at g8 g9
  obtain ⟨r1, r2, r3⟩ := g8
  obtain ⟨r4, r5, r6⟩ := g9
  have r1 := r1.symm
  have r2 := r2.symm
  subst r1 r2 r3 r4 r5 r6
  subst q3
  have l2 := fun V U w' h1 h2 => esame_any V U ra ia ra ia w' h1 h2
  rw [g4] at l2
  have l3 := fun V U w' h1 h2 => esame_any V U br bi br bi w' h1 h2
  rw [g7 br bi eno] at l3
  clear g1 g2 g3 g4 g5 g6 g7 em ed es el ena enb enn ebo eno hl 
  obtain ⟨A1, c1, D1, d1, A2, c2, D2, d2, rfl, p1, p2, p3, p4⟩ := hV
  obtain ⟨A3, c3, D3, d3, A4, c4, D4, d4, rfl, p5, p6, p7, p8⟩ := hU
  obtain ⟨S_a, S_b, C0⟩ := T2.new w [.bool ra.s, .slice A1 ra.a.length c1, .slice D1 ra.b.length d1, .bool ia.s, .slice A2 ia.a.length c2, .slice D2 ia.b.length d2] [.bool rb.s, .slice A3 rb.a.length c3, .slice D3 rb.b.length d3, .bool ib.s, .slice A4 ib.a.length c4, .slice D4 ib.b.length d4] 26 26
  have H_a : VN w w.heap.size (.agg #[.bool ra.s, .slice A1 ra.a.length c1, .slice D1 ra.b.length d1, .bool ia.s, .slice A2 ia.a.length c2, .slice D2 ia.b.length d2]) ra ia := ⟨A1, c1, D1, d1, A2, c2, D2, d2, rfl, p1, p2, p3, p4⟩
  have H_a := H_a.st C0
  have H_b : VN w w.heap.size (.agg #[.bool rb.s, .slice A3 rb.a.length c3, .slice D3 rb.b.length d3, .bool ib.s, .slice A4 ib.a.length c4, .slice D4 ib.b.length d4]) rb ib := ⟨A3, c3, D3, d3, A4, c4, D4, d4, rfl, p5, p6, p7, p8⟩
  have H_b := H_b.st C0
  clear p1 p2 p3 p4 p5 p6 p7 p8
  obtain ⟨W0, hW0⟩ : ∃ W0, W0 = (w.alloc (.cells #[.bool ra.s, .slice A1 ra.a.length c1, .slice D1 ra.b.length d1, .bool ia.s, .slice A2 ia.a.length c2, .slice D2 ia.b.length d2] 26)).alloc (.cells #[.bool rb.s, .slice A3 rb.a.length c3, .slice D3 rb.b.length d3, .bool ib.s, .slice A4 ib.a.length c4, .slice D4 ib.b.length d4] 26) := ⟨_, rfl⟩
  go_enter Try.func6, Try.ntmps6
  have i0 := S_a.cell 0
  have i1 := S_a.cell 1
  have i2 := S_a.cell 2
  have i3 := S_a.cell 3
  have i4 := S_a.cell 4
  have i5 := S_a.cell 5
  have j0 := S_b.cell 0
  have j1 := S_b.cell 1
  have j2 := S_b.cell 2
  have j3 := S_b.cell 3
  have j4 := S_b.cell 4
  have j5 := S_b.cell 5
  go_wp2_with fail
  rw [← hW0] at S_a S_b C0 H_a H_b ⊢
  clear hW0
  clear i0 i1 i2 i3 i4 i5
  clear j0 j1 j2 j3 j4 j5
  refine (o0 _ _ _ H_a H_b).mono ?_; rintro e w3 ⟨A3a, c3a, D3a, d3a, A3b, c3b, D3b, d3b, rfl, O3a, O3b, O3c, O3d, B3⟩
  try dsimp only at O3a O3b O3c O3d
  have H_x : VN w3 w3.heap.size (.agg #[.bool mr.s, .slice A3a mr.a.length c3a, .slice D3a mr.b.length d3a, .bool mi.s, .slice A3b mi.a.length c3b, .slice D3b mi.b.length d3b]) mr mi := ⟨A3a, c3a, D3a, d3a, A3b, c3b, D3b, d3b, rfl, O3a.rw, O3b.rw, O3c.rw, O3d.rw⟩
  clear O3a O3b O3c O3d
  have S_a := S_a.nx B3
  have H_a := H_a.st B3
  have S_b := S_b.nx B3
  have H_b := H_b.st B3
  have C0 := bt C0 B3
  have L3 := bal w3 (.cells #[.bool mr.s, .slice A3a mr.a.length c3a, .slice D3a mr.b.length d3a, .bool mi.s, .slice A3b mi.a.length c3b, .slice D3b mi.b.length d3b] 26)
  have S_x := SB.new w3 [.bool mr.s, .slice A3a mr.a.length c3a, .slice D3a mr.b.length d3a, .bool mi.s, .slice A3b mi.a.length c3b, .slice D3b mi.b.length d3b] 26
  have S_a := S_a.nx L3
  have H_a := H_a.st L3
  have S_b := S_b.nx L3
  have H_b := H_b.st L3
  have H_x := H_x.st L3
  have C0 := bt C0 L3
  have i0 := S_a.cell 0
  have i1 := S_a.cell 1
  have i2 := S_a.cell 2
  have i3 := S_a.cell 3
  have i4 := S_a.cell 4
  have i5 := S_a.cell 5
  have j0 := S_b.cell 0
  have j1 := S_b.cell 1
  have j2 := S_b.cell 2
  have j3 := S_b.cell 3
  have j4 := S_b.cell 4
  have j5 := S_b.cell 5
  go_wp2_with fail
  clear i0 i1 i2 i3 i4 i5
  clear j0 j1 j2 j3 j4 j5
  refine (o1 _ _ _ H_a H_b).mono ?_; rintro e w4 ⟨A4a, c4a, D4a, d4a, A4b, c4b, D4b, d4b, rfl, O4a, O4b, O4c, O4d, B4⟩
  try dsimp only at O4a O4b O4c O4d
  have H_y : VN w4 w4.heap.size (.agg #[.bool dr.s, .slice A4a dr.a.length c4a, .slice D4a dr.b.length d4a, .bool di.s, .slice A4b di.a.length c4b, .slice D4b di.b.length d4b]) dr di := ⟨A4a, c4a, D4a, d4a, A4b, c4b, D4b, d4b, rfl, O4a.rw, O4b.rw, O4c.rw, O4d.rw⟩
  clear O4a O4b O4c O4d
  have S_a := S_a.nx B4
  have H_a := H_a.st B4
  have S_b := S_b.nx B4
  have H_b := H_b.st B4
  have S_x := S_x.nx B4
  have H_x := H_x.st B4
  have C0 := bt C0 B4
  have L4 := bal w4 (.cells #[.bool dr.s, .slice A4a dr.a.length c4a, .slice D4a dr.b.length d4a, .bool di.s, .slice A4b di.a.length c4b, .slice D4b di.b.length d4b] 26)
  have S_y := SB.new w4 [.bool dr.s, .slice A4a dr.a.length c4a, .slice D4a dr.b.length d4a, .bool di.s, .slice A4b di.a.length c4b, .slice D4b di.b.length d4b] 26
  have S_a := S_a.nx L4
  have H_a := H_a.st L4
  have S_b := S_b.nx L4
  have H_b := H_b.st L4
  have S_x := S_x.nx L4
  have H_x := H_x.st L4
  have H_y := H_y.st L4
  have C0 := bt C0 L4
  have i0 := S_a.cell 0
  have i1 := S_a.cell 1
  have i2 := S_a.cell 2
  have i3 := S_a.cell 3
  have i4 := S_a.cell 4
  have i5 := S_a.cell 5
  have j0 := S_b.cell 0
  have j1 := S_b.cell 1
  have j2 := S_b.cell 2
  have j3 := S_b.cell 3
  have j4 := S_b.cell 4
  have j5 := S_b.cell 5
  go_wp2_with fail
  clear i0 i1 i2 i3 i4 i5
  clear j0 j1 j2 j3 j4 j5
  refine (o2 _ _ _ H_a H_b).mono ?_; rintro e w5 ⟨A5a, c5a, D5a, d5a, A5b, c5b, D5b, d5b, rfl, O5a, O5b, O5c, O5d, B5⟩
  try dsimp only at O5a O5b O5c O5d
  have H_z : VN w5 w5.heap.size (.agg #[.bool sr.s, .slice A5a sr.a.length c5a, .slice D5a sr.b.length d5a, .bool si.s, .slice A5b si.a.length c5b, .slice D5b si.b.length d5b]) sr si := ⟨A5a, c5a, D5a, d5a, A5b, c5b, D5b, d5b, rfl, O5a.rw, O5b.rw, O5c.rw, O5d.rw⟩
  clear O5a O5b O5c O5d
  have S_a := S_a.nx B5
  have H_a := H_a.st B5
  have S_b := S_b.nx B5
  have H_b := H_b.st B5
  have S_x := S_x.nx B5
  have H_x := H_x.st B5
  have S_y := S_y.nx B5
  have H_y := H_y.st B5
  have C0 := bt C0 B5
  have L5 := bal w5 (.cells #[.bool sr.s, .slice A5a sr.a.length c5a, .slice D5a sr.b.length d5a, .bool si.s, .slice A5b si.a.length c5b, .slice D5b si.b.length d5b] 26)
  have S_z := SB.new w5 [.bool sr.s, .slice A5a sr.a.length c5a, .slice D5a sr.b.length d5a, .bool si.s, .slice A5b si.a.length c5b, .slice D5b si.b.length d5b] 26
  have S_a := S_a.nx L5
  have H_a := H_a.st L5
  have S_b := S_b.nx L5
  have H_b := H_b.st L5
  have S_x := S_x.nx L5
  have H_x := H_x.st L5
  have S_y := S_y.nx L5
  have H_y := H_y.st L5
  have H_z := H_z.st L5
  have C0 := bt C0 L5
  go_wp2_with fail
  refine (awake4_any _).mono ?_; rintro e w6 ⟨rfl, B6⟩
  have S_a := S_a.nx B6
  have H_a := H_a.st B6
  have S_b := S_b.nx B6
  have H_b := H_b.st B6
  have S_x := S_x.nx B6
  have H_x := H_x.st B6
  have S_y := S_y.nx B6
  have H_y := H_y.st B6
  have S_z := S_z.nx B6
  have H_z := H_z.st B6
  have C0 := bt C0 B6
  have i0 := S_x.cell 0
  have i1 := S_x.cell 1
  have i2 := S_x.cell 2
  have i3 := S_x.cell 3
  have i4 := S_x.cell 4
  have i5 := S_x.cell 5
  have j0 := S_y.cell 0
  have j1 := S_y.cell 1
  have j2 := S_y.cell 2
  have j3 := S_y.cell 3
  have j4 := S_y.cell 4
  have j5 := S_y.cell 5
  go_wp2_with fail
  clear i0 i1 i2 i3 i4 i5
  clear j0 j1 j2 j3 j4 j5
  refine (o3 _ _ _ H_x H_y).mono ?_; rintro e w7 ⟨A7a, c7a, D7a, d7a, A7b, c7b, D7b, d7b, rfl, O7a, O7b, O7c, O7d, B7⟩
  try dsimp only at O7a O7b O7c O7d
  have H_l : VN w7 w7.heap.size (.agg #[.bool lr.s, .slice A7a lr.a.length c7a, .slice D7a lr.b.length d7a, .bool li.s, .slice A7b li.a.length c7b, .slice D7b li.b.length d7b]) lr li := ⟨A7a, c7a, D7a, d7a, A7b, c7b, D7b, d7b, rfl, O7a.rw, O7b.rw, O7c.rw, O7d.rw⟩
  clear O7a O7b O7c O7d
  have S_a := S_a.nx B7
  have H_a := H_a.st B7
  have S_b := S_b.nx B7
  have H_b := H_b.st B7
  have S_x := S_x.nx B7
  have H_x := H_x.st B7
  have S_y := S_y.nx B7
  have H_y := H_y.st B7
  have S_z := S_z.nx B7
  have H_z := H_z.st B7
  have C0 := bt C0 B7
  have L7 := bal w7 (.cells #[.bool lr.s, .slice A7a lr.a.length c7a, .slice D7a lr.b.length d7a, .bool li.s, .slice A7b li.a.length c7b, .slice D7b li.b.length d7b] 26)
  have S_l := SB.new w7 [.bool lr.s, .slice A7a lr.a.length c7a, .slice D7a lr.b.length d7a, .bool li.s, .slice A7b li.a.length c7b, .slice D7b li.b.length d7b] 26
  have S_a := S_a.nx L7
  have H_a := H_a.st L7
  have S_b := S_b.nx L7
  have H_b := H_b.st L7
  have S_x := S_x.nx L7
  have H_x := H_x.st L7
  have S_y := S_y.nx L7
  have H_y := H_y.st L7
  have S_z := S_z.nx L7
  have H_z := H_z.st L7
  have H_l := H_l.st L7
  have C0 := bt C0 L7
  have i0 := S_a.cell 0
  have i1 := S_a.cell 1
  have i2 := S_a.cell 2
  have i3 := S_a.cell 3
  have i4 := S_a.cell 4
  have i5 := S_a.cell 5
  have j0 := S_b.cell 0
  have j1 := S_b.cell 1
  have j2 := S_b.cell 2
  have j3 := S_b.cell 3
  have j4 := S_b.cell 4
  have j5 := S_b.cell 5
  go_wp2_with fail
  clear i0 i1 i2 i3 i4 i5
  clear j0 j1 j2 j3 j4 j5
  refine (o4 _ _ _ H_a H_b).mono ?_; rintro e w8 ⟨A8a, c8a, D8a, d8a, A8b, c8b, D8b, d8b, rfl, O8a, O8b, O8c, O8d, B8⟩
  try dsimp only at O8a O8b O8c O8d
  have H_r : VN w8 w8.heap.size (.agg #[.bool lr.s, .slice A8a lr.a.length c8a, .slice D8a lr.b.length d8a, .bool li.s, .slice A8b li.a.length c8b, .slice D8b li.b.length d8b]) lr li := ⟨A8a, c8a, D8a, d8a, A8b, c8b, D8b, d8b, rfl, O8a.rw, O8b.rw, O8c.rw, O8d.rw⟩
  clear O8a O8b O8c O8d
  have S_a := S_a.nx B8
  have H_a := H_a.st B8
  have S_b := S_b.nx B8
  have H_b := H_b.st B8
  have S_x := S_x.nx B8
  have H_x := H_x.st B8
  have S_y := S_y.nx B8
  have H_y := H_y.st B8
  have S_z := S_z.nx B8
  have H_z := H_z.st B8
  have S_l := S_l.nx B8
  have H_l := H_l.st B8
  have C0 := bt C0 B8
  have L8 := bal w8 (.cells #[.bool lr.s, .slice A8a lr.a.length c8a, .slice D8a lr.b.length d8a, .bool li.s, .slice A8b li.a.length c8b, .slice D8b li.b.length d8b] 26)
  have S_r := SB.new w8 [.bool lr.s, .slice A8a lr.a.length c8a, .slice D8a lr.b.length d8a, .bool li.s, .slice A8b li.a.length c8b, .slice D8b li.b.length d8b] 26
  have S_a := S_a.nx L8
  have H_a := H_a.st L8
  have S_b := S_b.nx L8
  have H_b := H_b.st L8
  have S_x := S_x.nx L8
  have H_x := H_x.st L8
  have S_y := S_y.nx L8
  have H_y := H_y.st L8
  have S_z := S_z.nx L8
  have H_z := H_z.st L8
  have S_l := S_l.nx L8
  have H_l := H_l.st L8
  have H_r := H_r.st L8
  have C0 := bt C0 L8
  have i0 := S_y.cell 0
  have i1 := S_y.cell 1
  have i2 := S_y.cell 2
  have i3 := S_y.cell 3
  have i4 := S_y.cell 4
  have i5 := S_y.cell 5
  have j0 := S_x.cell 0
  have j1 := S_x.cell 1
  have j2 := S_x.cell 2
  have j3 := S_x.cell 3
  have j4 := S_x.cell 4
  have j5 := S_x.cell 5
  go_wp2_with fail
  clear i0 i1 i2 i3 i4 i5
  clear j0 j1 j2 j3 j4 j5
  refine (o5 _ _ _ H_y H_x).mono ?_; rintro e w9 ⟨A9a, c9a, D9a, d9a, A9b, c9b, D9b, d9b, rfl, O9a, O9b, O9c, O9d, B9⟩
  try dsimp only at O9a O9b O9c O9d
  have H_d : VN w9 w9.heap.size (.agg #[.bool sr.s, .slice A9a sr.a.length c9a, .slice D9a sr.b.length d9a, .bool si.s, .slice A9b si.a.length c9b, .slice D9b si.b.length d9b]) sr si := ⟨A9a, c9a, D9a, d9a, A9b, c9b, D9b, d9b, rfl, O9a.rw, O9b.rw, O9c.rw, O9d.rw⟩
  clear O9a O9b O9c O9d
  have S_a := S_a.nx B9
  have H_a := H_a.st B9
  have S_b := S_b.nx B9
  have H_b := H_b.st B9
  have S_x := S_x.nx B9
  have H_x := H_x.st B9
  have S_y := S_y.nx B9
  have H_y := H_y.st B9
  have S_z := S_z.nx B9
  have H_z := H_z.st B9
  have S_l := S_l.nx B9
  have H_l := H_l.st B9
  have S_r := S_r.nx B9
  have H_r := H_r.st B9
  have C0 := bt C0 B9
  have L9 := bal w9 (.cells #[.bool sr.s, .slice A9a sr.a.length c9a, .slice D9a sr.b.length d9a, .bool si.s, .slice A9b si.a.length c9b, .slice D9b si.b.length d9b] 26)
  have S_d := SB.new w9 [.bool sr.s, .slice A9a sr.a.length c9a, .slice D9a sr.b.length d9a, .bool si.s, .slice A9b si.a.length c9b, .slice D9b si.b.length d9b] 26
  have S_a := S_a.nx L9
  have H_a := H_a.st L9
  have S_b := S_b.nx L9
  have H_b := H_b.st L9
  have S_x := S_x.nx L9
  have H_x := H_x.st L9
  have S_y := S_y.nx L9
  have H_y := H_y.st L9
  have S_z := S_z.nx L9
  have H_z := H_z.st L9
  have S_l := S_l.nx L9
  have H_l := H_l.st L9
  have S_r := S_r.nx L9
  have H_r := H_r.st L9
  have H_d := H_d.st L9
  have C0 := bt C0 L9
  have i0 := S_d.cell 0
  have i1 := S_d.cell 1
  have i2 := S_d.cell 2
  have i3 := S_d.cell 3
  have i4 := S_d.cell 4
  have i5 := S_d.cell 5
  have j0 := S_z.cell 0
  have j1 := S_z.cell 1
  have j2 := S_z.cell 2
  have j3 := S_z.cell 3
  have j4 := S_z.cell 4
  have j5 := S_z.cell 5
  go_wp2_with fail
  refine (l0 _ _ _ H_d H_z).mono ?_; rintro e w10 ⟨rfl, B10⟩
  have S_a := S_a.nx B10
  have H_a := H_a.st B10
  have S_b := S_b.nx B10
  have H_b := H_b.st B10
  have S_x := S_x.nx B10
  have H_x := H_x.st B10
  have S_y := S_y.nx B10
  have H_y := H_y.st B10
  have S_z := S_z.nx B10
  have H_z := H_z.st B10
  have S_l := S_l.nx B10
  have H_l := H_l.st B10
  have S_r := S_r.nx B10
  have H_r := H_r.st B10
  have S_d := S_d.nx B10
  have H_d := H_d.st B10
  have C0 := bt C0 B10
  clear i0 i1 i2 i3 i4 i5
  clear j0 j1 j2 j3 j4 j5
  have i0 := S_a.cell 0
  have i1 := S_a.cell 1
  have i2 := S_a.cell 2
  have i3 := S_a.cell 3
  have i4 := S_a.cell 4
  have i5 := S_a.cell 5
  go_wp2_with fail
  clear i0 i1 i2 i3 i4 i5
  refine (o6 _ _ H_a).mono ?_; rintro e w11 ⟨A11a, c11a, D11a, d11a, A11b, c11b, D11b, d11b, rfl, O11a, O11b, O11c, O11d, B11⟩
  try dsimp only at O11a O11b O11c O11d
  have H_na : VN w11 w11.heap.size (.agg #[.bool nar.s, .slice A11a nar.a.length c11a, .slice D11a nar.b.length d11a, .bool nai.s, .slice A11b nai.a.length c11b, .slice D11b nai.b.length d11b]) nar nai := ⟨A11a, c11a, D11a, d11a, A11b, c11b, D11b, d11b, rfl, O11a.rw, O11b.rw, O11c.rw, O11d.rw⟩
  clear O11a O11b O11c O11d
  have S_a := S_a.nx B11
  have H_a := H_a.st B11
  have S_b := S_b.nx B11
  have H_b := H_b.st B11
  have S_x := S_x.nx B11
  have H_x := H_x.st B11
  have S_y := S_y.nx B11
  have H_y := H_y.st B11
  have S_z := S_z.nx B11
  have H_z := H_z.st B11
  have S_l := S_l.nx B11
  have H_l := H_l.st B11
  have S_r := S_r.nx B11
  have H_r := H_r.st B11
  have S_d := S_d.nx B11
  have H_d := H_d.st B11
  have C0 := bt C0 B11
  have L11 := bal w11 (.cells #[.bool nar.s, .slice A11a nar.a.length c11a, .slice D11a nar.b.length d11a, .bool nai.s, .slice A11b nai.a.length c11b, .slice D11b nai.b.length d11b] 26)
  have S_na := SB.new w11 [.bool nar.s, .slice A11a nar.a.length c11a, .slice D11a nar.b.length d11a, .bool nai.s, .slice A11b nai.a.length c11b, .slice D11b nai.b.length d11b] 26
  have S_a := S_a.nx L11
  have H_a := H_a.st L11
  have S_b := S_b.nx L11
  have H_b := H_b.st L11
  have S_x := S_x.nx L11
  have H_x := H_x.st L11
  have S_y := S_y.nx L11
  have H_y := H_y.st L11
  have S_z := S_z.nx L11
  have H_z := H_z.st L11
  have S_l := S_l.nx L11
  have H_l := H_l.st L11
  have S_r := S_r.nx L11
  have H_r := H_r.st L11
  have S_d := S_d.nx L11
  have H_d := H_d.st L11
  have H_na := H_na.st L11
  have C0 := bt C0 L11
  have i0 := S_b.cell 0
  have i1 := S_b.cell 1
  have i2 := S_b.cell 2
  have i3 := S_b.cell 3
  have i4 := S_b.cell 4
  have i5 := S_b.cell 5
  go_wp2_with fail
  clear i0 i1 i2 i3 i4 i5
  refine (o7 _ _ H_b).mono ?_; rintro e w12 ⟨A12a, c12a, D12a, d12a, A12b, c12b, D12b, d12b, rfl, O12a, O12b, O12c, O12d, B12⟩
  try dsimp only at O12a O12b O12c O12d
  have H_nb : VN w12 w12.heap.size (.agg #[.bool nbr.s, .slice A12a nbr.a.length c12a, .slice D12a nbr.b.length d12a, .bool nbi.s, .slice A12b nbi.a.length c12b, .slice D12b nbi.b.length d12b]) nbr nbi := ⟨A12a, c12a, D12a, d12a, A12b, c12b, D12b, d12b, rfl, O12a.rw, O12b.rw, O12c.rw, O12d.rw⟩
  clear O12a O12b O12c O12d
  have S_a := S_a.nx B12
  have H_a := H_a.st B12
  have S_b := S_b.nx B12
  have H_b := H_b.st B12
  have S_x := S_x.nx B12
  have H_x := H_x.st B12
  have S_y := S_y.nx B12
  have H_y := H_y.st B12
  have S_z := S_z.nx B12
  have H_z := H_z.st B12
  have S_l := S_l.nx B12
  have H_l := H_l.st B12
  have S_r := S_r.nx B12
  have H_r := H_r.st B12
  have S_d := S_d.nx B12
  have H_d := H_d.st B12
  have S_na := S_na.nx B12
  have H_na := H_na.st B12
  have C0 := bt C0 B12
  have L12 := bal w12 (.cells #[.bool nbr.s, .slice A12a nbr.a.length c12a, .slice D12a nbr.b.length d12a, .bool nbi.s, .slice A12b nbi.a.length c12b, .slice D12b nbi.b.length d12b] 26)
  have S_nb := SB.new w12 [.bool nbr.s, .slice A12a nbr.a.length c12a, .slice D12a nbr.b.length d12a, .bool nbi.s, .slice A12b nbi.a.length c12b, .slice D12b nbi.b.length d12b] 26
  have S_a := S_a.nx L12
  have H_a := H_a.st L12
  have S_b := S_b.nx L12
  have H_b := H_b.st L12
  have S_x := S_x.nx L12
  have H_x := H_x.st L12
  have S_y := S_y.nx L12
  have H_y := H_y.st L12
  have S_z := S_z.nx L12
  have H_z := H_z.st L12
  have S_l := S_l.nx L12
  have H_l := H_l.st L12
  have S_r := S_r.nx L12
  have H_r := H_r.st L12
  have S_d := S_d.nx L12
  have H_d := H_d.st L12
  have S_na := S_na.nx L12
  have H_na := H_na.st L12
  have H_nb := H_nb.st L12
  have C0 := bt C0 L12
  have i0 := S_na.cell 0
  have i1 := S_na.cell 1
  have i2 := S_na.cell 2
  have i3 := S_na.cell 3
  have i4 := S_na.cell 4
  have i5 := S_na.cell 5
  go_wp2_with fail
  clear i0 i1 i2 i3 i4 i5
  refine (o8 _ _ H_na).mono ?_; rintro e w13 ⟨A13a, c13a, D13a, d13a, A13b, c13b, D13b, d13b, rfl, O13a, O13b, O13c, O13d, B13⟩
  try dsimp only at O13a O13b O13c O13d
  have H_nn : VN w13 w13.heap.size (.agg #[.bool ra.s, .slice A13a ra.a.length c13a, .slice D13a ra.b.length d13a, .bool ia.s, .slice A13b ia.a.length c13b, .slice D13b ia.b.length d13b]) ra ia := ⟨A13a, c13a, D13a, d13a, A13b, c13b, D13b, d13b, rfl, O13a.rw, O13b.rw, O13c.rw, O13d.rw⟩
  clear O13a O13b O13c O13d
  have S_a := S_a.nx B13
  have H_a := H_a.st B13
  have S_b := S_b.nx B13
  have H_b := H_b.st B13
  have S_x := S_x.nx B13
  have H_x := H_x.st B13
  have S_y := S_y.nx B13
  have H_y := H_y.st B13
  have S_z := S_z.nx B13
  have H_z := H_z.st B13
  have S_l := S_l.nx B13
  have H_l := H_l.st B13
  have S_r := S_r.nx B13
  have H_r := H_r.st B13
  have S_d := S_d.nx B13
  have H_d := H_d.st B13
  have S_na := S_na.nx B13
  have H_na := H_na.st B13
  have S_nb := S_nb.nx B13
  have H_nb := H_nb.st B13
  have C0 := bt C0 B13
  have L13 := bal w13 (.cells #[.bool ra.s, .slice A13a ra.a.length c13a, .slice D13a ra.b.length d13a, .bool ia.s, .slice A13b ia.a.length c13b, .slice D13b ia.b.length d13b] 26)
  have S_nn := SB.new w13 [.bool ra.s, .slice A13a ra.a.length c13a, .slice D13a ra.b.length d13a, .bool ia.s, .slice A13b ia.a.length c13b, .slice D13b ia.b.length d13b] 26
  have S_a := S_a.nx L13
  have H_a := H_a.st L13
  have S_b := S_b.nx L13
  have H_b := H_b.st L13
  have S_x := S_x.nx L13
  have H_x := H_x.st L13
  have S_y := S_y.nx L13
  have H_y := H_y.st L13
  have S_z := S_z.nx L13
  have H_z := H_z.st L13
  have S_l := S_l.nx L13
  have H_l := H_l.st L13
  have S_r := S_r.nx L13
  have H_r := H_r.st L13
  have S_d := S_d.nx L13
  have H_d := H_d.st L13
  have S_na := S_na.nx L13
  have H_na := H_na.st L13
  have S_nb := S_nb.nx L13
  have H_nb := H_nb.st L13
  have H_nn := H_nn.st L13
  have C0 := bt C0 L13
  have i0 := S_na.cell 0
  have i1 := S_na.cell 1
  have i2 := S_na.cell 2
  have i3 := S_na.cell 3
  have i4 := S_na.cell 4
  have i5 := S_na.cell 5
  have j0 := S_nb.cell 0
  have j1 := S_nb.cell 1
  have j2 := S_nb.cell 2
  have j3 := S_nb.cell 3
  have j4 := S_nb.cell 4
  have j5 := S_nb.cell 5
  go_wp2_with fail
  clear i0 i1 i2 i3 i4 i5
  clear j0 j1 j2 j3 j4 j5
  refine (o9 _ _ _ H_na H_nb).mono ?_; rintro e w14 ⟨A14a, c14a, D14a, d14a, A14b, c14b, D14b, d14b, rfl, O14a, O14b, O14c, O14d, B14⟩
  try dsimp only at O14a O14b O14c O14d
  have H_bo : VN w14 w14.heap.size (.agg #[.bool br.s, .slice A14a br.a.length c14a, .slice D14a br.b.length d14a, .bool bi.s, .slice A14b bi.a.length c14b, .slice D14b bi.b.length d14b]) br bi := ⟨A14a, c14a, D14a, d14a, A14b, c14b, D14b, d14b, rfl, O14a.rw, O14b.rw, O14c.rw, O14d.rw⟩
  clear O14a O14b O14c O14d
  have S_a := S_a.nx B14
  have H_a := H_a.st B14
  have S_b := S_b.nx B14
  have H_b := H_b.st B14
  have S_x := S_x.nx B14
  have H_x := H_x.st B14
  have S_y := S_y.nx B14
  have H_y := H_y.st B14
  have S_z := S_z.nx B14
  have H_z := H_z.st B14
  have S_l := S_l.nx B14
  have H_l := H_l.st B14
  have S_r := S_r.nx B14
  have H_r := H_r.st B14
  have S_d := S_d.nx B14
  have H_d := H_d.st B14
  have S_na := S_na.nx B14
  have H_na := H_na.st B14
  have S_nb := S_nb.nx B14
  have H_nb := H_nb.st B14
  have S_nn := S_nn.nx B14
  have H_nn := H_nn.st B14
  have C0 := bt C0 B14
  have L14 := bal w14 (.cells #[.bool br.s, .slice A14a br.a.length c14a, .slice D14a br.b.length d14a, .bool bi.s, .slice A14b bi.a.length c14b, .slice D14b bi.b.length d14b] 26)
  have S_bo := SB.new w14 [.bool br.s, .slice A14a br.a.length c14a, .slice D14a br.b.length d14a, .bool bi.s, .slice A14b bi.a.length c14b, .slice D14b bi.b.length d14b] 26
  have S_a := S_a.nx L14
  have H_a := H_a.st L14
  have S_b := S_b.nx L14
  have H_b := H_b.st L14
  have S_x := S_x.nx L14
  have H_x := H_x.st L14
  have S_y := S_y.nx L14
  have H_y := H_y.st L14
  have S_z := S_z.nx L14
  have H_z := H_z.st L14
  have S_l := S_l.nx L14
  have H_l := H_l.st L14
  have S_r := S_r.nx L14
  have H_r := H_r.st L14
  have S_d := S_d.nx L14
  have H_d := H_d.st L14
  have S_na := S_na.nx L14
  have H_na := H_na.st L14
  have S_nb := S_nb.nx L14
  have H_nb := H_nb.st L14
  have S_nn := S_nn.nx L14
  have H_nn := H_nn.st L14
  have H_bo := H_bo.st L14
  have C0 := bt C0 L14
  have i0 := S_x.cell 0
  have i1 := S_x.cell 1
  have i2 := S_x.cell 2
  have i3 := S_x.cell 3
  have i4 := S_x.cell 4
  have i5 := S_x.cell 5
  go_wp2_with fail
  clear i0 i1 i2 i3 i4 i5
  refine (o10 _ _ H_x).mono ?_; rintro e w15 ⟨A15a, c15a, D15a, d15a, A15b, c15b, D15b, d15b, rfl, O15a, O15b, O15c, O15d, B15⟩
  try dsimp only at O15a O15b O15c O15d
  have H_no : VN w15 w15.heap.size (.agg #[.bool br.s, .slice A15a br.a.length c15a, .slice D15a br.b.length d15a, .bool bi.s, .slice A15b bi.a.length c15b, .slice D15b bi.b.length d15b]) br bi := ⟨A15a, c15a, D15a, d15a, A15b, c15b, D15b, d15b, rfl, O15a.rw, O15b.rw, O15c.rw, O15d.rw⟩
  clear O15a O15b O15c O15d
  have S_a := S_a.nx B15
  have H_a := H_a.st B15
  have S_b := S_b.nx B15
  have H_b := H_b.st B15
  have S_x := S_x.nx B15
  have H_x := H_x.st B15
  have S_y := S_y.nx B15
  have H_y := H_y.st B15
  have S_z := S_z.nx B15
  have H_z := H_z.st B15
  have S_l := S_l.nx B15
  have H_l := H_l.st B15
  have S_r := S_r.nx B15
  have H_r := H_r.st B15
  have S_d := S_d.nx B15
  have H_d := H_d.st B15
  have S_na := S_na.nx B15
  have H_na := H_na.st B15
  have S_nb := S_nb.nx B15
  have H_nb := H_nb.st B15
  have S_nn := S_nn.nx B15
  have H_nn := H_nn.st B15
  have S_bo := S_bo.nx B15
  have H_bo := H_bo.st B15
  have C0 := bt C0 B15
  have L15 := bal w15 (.cells #[.bool br.s, .slice A15a br.a.length c15a, .slice D15a br.b.length d15a, .bool bi.s, .slice A15b bi.a.length c15b, .slice D15b bi.b.length d15b] 26)
  have S_no := SB.new w15 [.bool br.s, .slice A15a br.a.length c15a, .slice D15a br.b.length d15a, .bool bi.s, .slice A15b bi.a.length c15b, .slice D15b bi.b.length d15b] 26
  have S_a := S_a.nx L15
  have H_a := H_a.st L15
  have S_b := S_b.nx L15
  have H_b := H_b.st L15
  have S_x := S_x.nx L15
  have H_x := H_x.st L15
  have S_y := S_y.nx L15
  have H_y := H_y.st L15
  have S_z := S_z.nx L15
  have H_z := H_z.st L15
  have S_l := S_l.nx L15
  have H_l := H_l.st L15
  have S_r := S_r.nx L15
  have H_r := H_r.st L15
  have S_d := S_d.nx L15
  have H_d := H_d.st L15
  have S_na := S_na.nx L15
  have H_na := H_na.st L15
  have S_nb := S_nb.nx L15
  have H_nb := H_nb.st L15
  have S_nn := S_nn.nx L15
  have H_nn := H_nn.st L15
  have S_bo := S_bo.nx L15
  have H_bo := H_bo.st L15
  have H_no := H_no.st L15
  have C0 := bt C0 L15
  have i0 := S_nn.cell 0
  have i1 := S_nn.cell 1
  have i2 := S_nn.cell 2
  have i3 := S_nn.cell 3
  have i4 := S_nn.cell 4
  have i5 := S_nn.cell 5
  have j0 := S_a.cell 0
  have j1 := S_a.cell 1
  have j2 := S_a.cell 2
  have j3 := S_a.cell 3
  have j4 := S_a.cell 4
  have j5 := S_a.cell 5
  go_wp2_with fail
  refine (l2 _ _ _ H_nn H_a).mono ?_; rintro e w16 ⟨rfl, B16⟩
  have S_a := S_a.nx B16
  have H_a := H_a.st B16
  have S_b := S_b.nx B16
  have H_b := H_b.st B16
  have S_x := S_x.nx B16
  have H_x := H_x.st B16
  have S_y := S_y.nx B16
  have H_y := H_y.st B16
  have S_z := S_z.nx B16
  have H_z := H_z.st B16
  have S_l := S_l.nx B16
  have H_l := H_l.st B16
  have S_r := S_r.nx B16
  have H_r := H_r.st B16
  have S_d := S_d.nx B16
  have H_d := H_d.st B16
  have S_na := S_na.nx B16
  have H_na := H_na.st B16
  have S_nb := S_nb.nx B16
  have H_nb := H_nb.st B16
  have S_nn := S_nn.nx B16
  have H_nn := H_nn.st B16
  have S_bo := S_bo.nx B16
  have H_bo := H_bo.st B16
  have S_no := S_no.nx B16
  have H_no := H_no.st B16
  have C0 := bt C0 B16
  clear i0 i1 i2 i3 i4 i5
  clear j0 j1 j2 j3 j4 j5
  have i0 := S_bo.cell 0
  have i1 := S_bo.cell 1
  have i2 := S_bo.cell 2
  have i3 := S_bo.cell 3
  have i4 := S_bo.cell 4
  have i5 := S_bo.cell 5
  have j0 := S_no.cell 0
  have j1 := S_no.cell 1
  have j2 := S_no.cell 2
  have j3 := S_no.cell 3
  have j4 := S_no.cell 4
  have j5 := S_no.cell 5
  go_wp2_with fail
  refine (l3 _ _ _ H_bo H_no).mono ?_; rintro e w17 ⟨rfl, B17⟩
  have S_a := S_a.nx B17
  have H_a := H_a.st B17
  have S_b := S_b.nx B17
  have H_b := H_b.st B17
  have S_x := S_x.nx B17
  have H_x := H_x.st B17
  have S_y := S_y.nx B17
  have H_y := H_y.st B17
  have S_z := S_z.nx B17
  have H_z := H_z.st B17
  have S_l := S_l.nx B17
  have H_l := H_l.st B17
  have S_r := S_r.nx B17
  have H_r := H_r.st B17
  have S_d := S_d.nx B17
  have H_d := H_d.st B17
  have S_na := S_na.nx B17
  have H_na := H_na.st B17
  have S_nb := S_nb.nx B17
  have H_nb := H_nb.st B17
  have S_nn := S_nn.nx B17
  have H_nn := H_nn.st B17
  have S_bo := S_bo.nx B17
  have H_bo := H_bo.st B17
  have S_no := S_no.nx B17
  have H_no := H_no.st B17
  have C0 := bt C0 B17
  clear i0 i1 i2 i3 i4 i5
  clear j0 j1 j2 j3 j4 j5
  go_wp2_with fail
  go_ret
  exact ⟨rfl, C0⟩
theorem bitsLaws_walk (V : Value) (ra ia : Rw) (U : Value) (rb ib : Rw) (w : World) (hV : VN w w.heap.size V ra ia) (hU : VN w w.heap.size U rb ib) : Calls Try.prog 6 #[V, U] w fun e w' => e = .returned (.bool true) ∧ Below w.heap.size w w' := by
  rcases em : qbothA (· &&& ·) ra ia rb ib with ⟨mr, mi, mk⟩
  rcases ed : qbothA (· ||| ·) ra ia rb ib with ⟨dr, di, dk⟩
  rcases es : qbothA (· ^^^ ·) ra ia rb ib with ⟨sr, si, sk⟩
  by_cases h : mk = 0 ∧ dk = 0 ∧ sk = 0
  · obtain ⟨hm, hd, hs⟩ := h
    rcases el : qaddA ra ia rb ib with ⟨lr, li, lk⟩
    rcases ena : qnotA ra ia with ⟨nar, nai, nak⟩
    rcases enb : qnotA rb ib with ⟨nbr, nbi, nbk⟩
    rcases enn : qnotA nar nai with ⟨nnr, nni, nnk⟩
    rcases ebo : qbothA (· ||| ·) nar nai nbr nbi with ⟨br, bi, hk⟩
    rcases eno : qnotA mr mi with ⟨nr, ni, ik⟩
    have hq : nak ≠ 0 ∨ (nak = 0 ∧ nbk ≠ 0) ∨ (nak = 0 ∧ nbk = 0 ∧ hk ≠ 0) ∨ (nak = 0 ∧ nbk = 0 ∧ hk = 0) := by omega
    by_cases hl : lk = 0
    · rcases hq with hq | hq | hq | hq
      · exact bitsLaws_good00 V ra ia U rb ib w hV hU mr mi dr di sr si mk dk sk em ed es hm hd hs lr li lk el hl nar nai nbr nbi nnr nni br bi nr ni nak nbk nnk hk ik ena enb enn ebo eno hq
      · exact bitsLaws_good01 V ra ia U rb ib w hV hU mr mi dr di sr si mk dk sk em ed es hm hd hs lr li lk el hl nar nai nbr nbi nnr nni br bi nr ni nak nbk nnk hk ik ena enb enn ebo eno hq
      · exact bitsLaws_good02 V ra ia U rb ib w hV hU mr mi dr di sr si mk dk sk em ed es hm hd hs lr li lk el hl nar nai nbr nbi nnr nni br bi nr ni nak nbk nnk hk ik ena enb enn ebo eno hq
      · exact bitsLaws_good03 V ra ia U rb ib w hV hU mr mi dr di sr si mk dk sk em ed es hm hd hs lr li lk el hl nar nai nbr nbi nnr nni br bi nr ni nak nbk nnk hk ik ena enb enn ebo eno hq
    · rcases hq with hq | hq | hq | hq
      · exact bitsLaws_good10 V ra ia U rb ib w hV hU mr mi dr di sr si mk dk sk em ed es hm hd hs lr li lk el hl nar nai nbr nbi nnr nni br bi nr ni nak nbk nnk hk ik ena enb enn ebo eno hq
      · exact bitsLaws_good11 V ra ia U rb ib w hV hU mr mi dr di sr si mk dk sk em ed es hm hd hs lr li lk el hl nar nai nbr nbi nnr nni br bi nr ni nak nbk nnk hk ik ena enb enn ebo eno hq
      · exact bitsLaws_good12 V ra ia U rb ib w hV hU mr mi dr di sr si mk dk sk em ed es hm hd hs lr li lk el hl nar nai nbr nbi nnr nni br bi nr ni nak nbk nnk hk ik ena enb enn ebo eno hq
      · exact bitsLaws_good13 V ra ia U rb ib w hV hU mr mi dr di sr si mk dk sk em ed es hm hd hs lr li lk el hl nar nai nbr nbi nnr nni br bi nr ni nak nbk nnk hk ik ena enb enn ebo eno hq
  · have hb := laws_bad em ed es h
    have hb : wB ra ia = false ∨ (wB ra ia = true ∧ wB rb ib = false) ∨ (wB ra ia = true ∧ wB rb ib = true ∧ ra.a.length = 512) ∨ (wB ra ia = true ∧ wB rb ib = true ∧ ¬ ra.a.length = 512 ∧ rb.a.length = 512) := by
      cases h1 : wB ra ia with
      | false => exact .inl rfl
      | true =>
        rw [h1] at hb
        cases h2 : wB rb ib with
        | false => exact .inr (.inl ⟨rfl, rfl⟩)
        | true =>
          rw [h2] at hb
          by_cases h3 : ra.a.length = 512
          · exact .inr (.inr (.inl ⟨rfl, rfl, h3⟩))
          · refine .inr (.inr (.inr ⟨rfl, rfl, h3, ?_⟩))
            rcases hb with hb | hb | hb | hb
            · cases hb
            · cases hb
            · exact absurd hb h3
            · exact hb
    by_cases hm : mk = 0
    · by_cases hd : dk = 0
      · have hs : sk ≠ 0 := fun e => h ⟨hm, hd, e⟩
        rcases hb with hb | hb | hb | hb
        · exact bitsLaws_bad20 V ra ia U rb ib w hV hU mr mi dr di sr si mk dk sk em ed es hm hd hs hb
        · exact bitsLaws_bad21 V ra ia U rb ib w hV hU mr mi dr di sr si mk dk sk em ed es hm hd hs hb
        · exact bitsLaws_bad22 V ra ia U rb ib w hV hU mr mi dr di sr si mk dk sk em ed es hm hd hs hb
        · exact bitsLaws_bad23 V ra ia U rb ib w hV hU mr mi dr di sr si mk dk sk em ed es hm hd hs hb
      · rcases hb with hb | hb | hb | hb
        · exact bitsLaws_bad10 V ra ia U rb ib w hV hU mr mi dr di sr si mk dk sk em ed es hm hd hb
        · exact bitsLaws_bad11 V ra ia U rb ib w hV hU mr mi dr di sr si mk dk sk em ed es hm hd hb
        · exact bitsLaws_bad12 V ra ia U rb ib w hV hU mr mi dr di sr si mk dk sk em ed es hm hd hb
        · exact bitsLaws_bad13 V ra ia U rb ib w hV hU mr mi dr di sr si mk dk sk em ed es hm hd hb
    · rcases hb with hb | hb | hb | hb
      · exact bitsLaws_bad00 V ra ia U rb ib w hV hU mr mi dr di sr si mk dk sk em ed es hm hb
      · exact bitsLaws_bad01 V ra ia U rb ib w hV hU mr mi dr di sr si mk dk sk em ed es hm hb
      · exact bitsLaws_bad02 V ra ia U rb ib w hV hU mr mi dr di sr si mk dk sk em ed es hm hb
      · exact bitsLaws_bad03 V ra ia U rb ib w hV hU mr mi dr di sr si mk dk sk em ed es hm hb

end Go.Proofs.Ytnlgoedklmjhlaa
