/- The walk of ExactWholes. -/
import Derived.Test.YtdkejndagicgjaaEzC
import Derived.Test.YtdkejndagicgjaaExL
namespace Go.Proofs.Ytdkejndagicgjaa
open Go.RowKit


set_option maxRecDepth 100000 in
set_option maxHeartbeats 16000000 in
theorem exactWholes_walk (V : Value) (ra ia : Rw) (U : Value) (rb ib : Rw) (w : World) (hV : VN w w.heap.size V ra ia) (hU : VN w w.heap.size U rb ib) :
    Calls Try.prog 4 #[V, U] w fun e w' => e = .returned (.bool true) ∧ Below w.heap.size w w' := by
  obtain ⟨A1, c1, D1, d1, A2, c2, D2, d2, rfl, p1, p2, p3, p4⟩ := hV
  obtain ⟨A3, c3, D3, d3, A4, c4, D4, d4, rfl, p5, p6, p7, p8⟩ := hU
  obtain ⟨S_a, S_b, C0⟩ := T2.new w [.bool ra.s, .slice A1 ra.a.length c1, .slice D1 ra.b.length d1, .bool ia.s, .slice A2 ia.a.length c2, .slice D2 ia.b.length d2] [.bool rb.s, .slice A3 rb.a.length c3, .slice D3 rb.b.length d3, .bool ib.s, .slice A4 ib.a.length c4, .slice D4 ib.b.length d4] 26 26
  have H_a : VN w w.heap.size (.agg #[.bool ra.s, .slice A1 ra.a.length c1, .slice D1 ra.b.length d1, .bool ia.s, .slice A2 ia.a.length c2, .slice D2 ia.b.length d2]) ra ia := ⟨A1, c1, D1, d1, A2, c2, D2, d2, rfl, p1, p2, p3, p4⟩
  have H_a := H_a.st C0
  have H_b : VN w w.heap.size (.agg #[.bool rb.s, .slice A3 rb.a.length c3, .slice D3 rb.b.length d3, .bool ib.s, .slice A4 ib.a.length c4, .slice D4 ib.b.length d4]) rb ib := ⟨A3, c3, D3, d3, A4, c4, D4, d4, rfl, p5, p6, p7, p8⟩
  have H_b := H_b.st C0
  clear p1 p2 p3 p4 p5 p6 p7 p8
  have o1 := fun V w' h => efloorn_any (V := V) (r := ra) (i := ia) (w := w') h
  have o2 := fun V w' h => rfloorn_any (V := V) (r := ra) (i := ia) (w := w') h
  rcases ef : qfloorA ra ia with ⟨fr, fi, fk⟩
  rw [ef] at o1 o2
  have o3 := fun V U w' h1 h2 => edm_any (V := V) (U := U) (r := ra) (i := ia) (r' := rb) (i' := ib) (w := w') h1 h2
  have o4 := fun V U w' h1 h2 => rdm_any (V := V) (U := U) (r := ra) (i := ia) (r' := rb) (i' := ib) (w := w') h1 h2
  rcases em : qdmA ra ia rb ib with ⟨qr, qi, sr, si, jk⟩
  rw [em] at o3 o4
  clear ef em
  have l1 := fun V U w' h1 h2 => alike_any V U fr fi fr fi w' h1 h2
  rw [alikeB_self] at l1
  have l2 := fun V U w' h1 h2 => alike_any V U qr qi qr qi w' h1 h2
  rw [alikeB_self] at l2
  have l3 := fun V U w' h1 h2 => alike_any V U sr si sr si w' h1 h2
  rw [alikeB_self] at l3
  obtain ⟨W0, hW0⟩ : ∃ W0, W0 = (w.alloc (.cells #[.bool ra.s, .slice A1 ra.a.length c1, .slice D1 ra.b.length d1, .bool ia.s, .slice A2 ia.a.length c2, .slice D2 ia.b.length d2] 26)).alloc (.cells #[.bool rb.s, .slice A3 rb.a.length c3, .slice D3 rb.b.length d3, .bool ib.s, .slice A4 ib.a.length c4, .slice D4 ib.b.length d4] 26) := ⟨_, rfl⟩
  go_enter Try.func4, Try.ntmps4
  have i0 := S_a.cell 0
  have i1 := S_a.cell 1
  have i2 := S_a.cell 2
  have i3 := S_a.cell 3
  have i4 := S_a.cell 4
  have i5 := S_a.cell 5
  go_wp2_with fail
  clear i0 i1 i2 i3 i4 i5
  rw [← hW0] at S_a S_b C0 H_a H_b ⊢
  clear hW0
  refine (o1 _ _ H_a).mono ?_; rintro e w3 ⟨A3a, c3a, D3a, d3a, A3b, c3b, D3b, d3b, rfl, O3a, O3b, O3c, O3d, B3⟩
  try dsimp only at O3a O3b O3c O3d
  have H_x : VN w3 w3.heap.size (.agg #[.bool fr.s, .slice A3a fr.a.length c3a, .slice D3a fr.b.length d3a, .bool fi.s, .slice A3b fi.a.length c3b, .slice D3b fi.b.length d3b]) fr fi := ⟨A3a, c3a, D3a, d3a, A3b, c3b, D3b, d3b, rfl, O3a.rw, O3b.rw, O3c.rw, O3d.rw⟩
  clear O3a O3b O3c O3d
  have S_a := S_a.nx B3
  have H_a := H_a.st B3
  have S_b := S_b.nx B3
  have H_b := H_b.st B3
  have C0 := bt C0 B3
  have L3 := bal w3 (.cells #[.bool fr.s, .slice A3a fr.a.length c3a, .slice D3a fr.b.length d3a, .bool fi.s, .slice A3b fi.a.length c3b, .slice D3b fi.b.length d3b] 26)
  have S_x := SB.new w3 [.bool fr.s, .slice A3a fr.a.length c3a, .slice D3a fr.b.length d3a, .bool fi.s, .slice A3b fi.a.length c3b, .slice D3b fi.b.length d3b] 26
  have S_a := S_a.nx L3
  have H_a := H_a.st L3
  have S_b := S_b.nx L3
  have H_b := H_b.st L3
  have H_x := H_x.st L3
  have C0 := bt C0 L3
  have i0 := S_a.cell 0
  have i1 := S_a.cell 1
  have i2 := S_a.cell 2
  have i3 := S_a.cell 3
  have i4 := S_a.cell 4
  have i5 := S_a.cell 5
  go_wp2_with fail
  refine (o2 _ _ H_a).mono ?_; rintro e w4 ⟨A4a, c4a, D4a, d4a, A4b, c4b, D4b, d4b, rfl, O4a, O4b, O4c, O4d, B4⟩
  clear i0 i1 i2 i3 i4 i5
  try dsimp only at O4a O4b O4c O4d
  have H_y : VN w4 w4.heap.size (.agg #[.bool fr.s, .slice A4a fr.a.length c4a, .slice D4a fr.b.length d4a, .bool fi.s, .slice A4b fi.a.length c4b, .slice D4b fi.b.length d4b]) fr fi := ⟨A4a, c4a, D4a, d4a, A4b, c4b, D4b, d4b, rfl, O4a.rw, O4b.rw, O4c.rw, O4d.rw⟩
  clear O4a O4b O4c O4d
  have S_a := S_a.nx B4
  have H_a := H_a.st B4
  have S_b := S_b.nx B4
  have H_b := H_b.st B4
  have S_x := S_x.nx B4
  have H_x := H_x.st B4
  have C0 := bt C0 B4
  have L4 := bal w4 (.cells #[.bool fr.s, .slice A4a fr.a.length c4a, .slice D4a fr.b.length d4a, .bool fi.s, .slice A4b fi.a.length c4b, .slice D4b fi.b.length d4b] 26)
  have S_y := SB.new w4 [.bool fr.s, .slice A4a fr.a.length c4a, .slice D4a fr.b.length d4a, .bool fi.s, .slice A4b fi.a.length c4b, .slice D4b fi.b.length d4b] 26
  have S_a := S_a.nx L4
  have H_a := H_a.st L4
  have S_b := S_b.nx L4
  have H_b := H_b.st L4
  have S_x := S_x.nx L4
  have H_x := H_x.st L4
  have H_y := H_y.st L4
  have C0 := bt C0 L4
  have i0 := S_a.cell 0
  have i1 := S_a.cell 1
  have i2 := S_a.cell 2
  have i3 := S_a.cell 3
  have i4 := S_a.cell 4
  have i5 := S_a.cell 5
  have j0 := S_b.cell 0
  have j1 := S_b.cell 1
  have j2 := S_b.cell 2
  have j3 := S_b.cell 3
  have j4 := S_b.cell 4
  have j5 := S_b.cell 5
  go_wp2_with fail
  refine (o3 _ _ _ H_a H_b).mono ?_; rintro e w5 ⟨A5a, c5a, D5a, d5a, A5b, c5b, D5b, d5b, A5c, c5c, D5c, d5c, A5d, c5d, D5d, d5d, rfl, ⟨O1, O2, O3, O4⟩, ⟨O5, O6, O7, O8⟩, B5⟩
  try dsimp only at O1 O2 O3 O4 O5 O6 O7 O8
  clear i0 i1 i2 i3 i4 i5
  clear j0 j1 j2 j3 j4 j5
  have H_q : VN w5 w5.heap.size (.agg #[.bool qr.s, .slice A5a qr.a.length c5a, .slice D5a qr.b.length d5a, .bool qi.s, .slice A5b qi.a.length c5b, .slice D5b qi.b.length d5b]) qr qi := ⟨A5a, c5a, D5a, d5a, A5b, c5b, D5b, d5b, rfl, O1.rw, O2.rw, O3.rw, O4.rw⟩
  have H_r : VN w5 w5.heap.size (.agg #[.bool sr.s, .slice A5c sr.a.length c5c, .slice D5c sr.b.length d5c, .bool si.s, .slice A5d si.a.length c5d, .slice D5d si.b.length d5d]) sr si := ⟨A5c, c5c, D5c, d5c, A5d, c5d, D5d, d5d, rfl, O5.rw, O6.rw, O7.rw, O8.rw⟩
  clear O1 O2 O3 O4 O5 O6 O7 O8
  have S_a := S_a.nx B5
  have H_a := H_a.st B5
  have S_b := S_b.nx B5
  have H_b := H_b.st B5
  have S_x := S_x.nx B5
  have H_x := H_x.st B5
  have S_y := S_y.nx B5
  have H_y := H_y.st B5
  have C0 := bt C0 B5
  have L2 := bt (bal w5 (.cells #[.bool false, .slice none 0 0, .slice none 0 0, .bool false, .slice none 0 0, .slice none 0 0] 26)) (bal (w5.alloc (.cells #[.bool false, .slice none 0 0, .slice none 0 0, .bool false, .slice none 0 0, .slice none 0 0] 26)) (.cells #[.bool false, .slice none 0 0, .slice none 0 0, .bool false, .slice none 0 0, .slice none 0 0] 26))
  have S1 := (SB.new w5 [.bool false, .slice none 0 0, .slice none 0 0, .bool false, .slice none 0 0, .slice none 0 0] 26).nx (bal (w5.alloc (.cells #[.bool false, .slice none 0 0, .slice none 0 0, .bool false, .slice none 0 0, .slice none 0 0] 26)) (.cells #[.bool false, .slice none 0 0, .slice none 0 0, .bool false, .slice none 0 0, .slice none 0 0] 26))
  have S2 := SB.new (w5.alloc (.cells #[.bool false, .slice none 0 0, .slice none 0 0, .bool false, .slice none 0 0, .slice none 0 0] 26)) [.bool false, .slice none 0 0, .slice none 0 0, .bool false, .slice none 0 0, .slice none 0 0] 26
  rw [show (w5.alloc (.cells #[.bool false, .slice none 0 0, .slice none 0 0, .bool false, .slice none 0 0, .slice none 0 0] 26)).heap.size = w5.heap.size + 1 by simp] at S2
  have hR1 := S1.rc (n := 6)
  have hR2 := (S2.wr6 (r := w5.heap.size) (by omega) (.bool qr.s) (.slice A5a qr.a.length c5a) (.slice D5a qr.b.length d5a) (.bool qi.s) (.slice A5b qi.a.length c5b) (.slice D5b qi.b.length d5b)).rc (n := 6)
  have S_q := (hR1.put6 (.bool qr.s) (.slice A5a qr.a.length c5a) (.slice D5a qr.b.length d5a) (.bool qi.s) (.slice A5b qi.a.length c5b) (.slice D5b qi.b.length d5b)).wr6 (r := w5.heap.size + 1) (by omega) (.bool sr.s) (.slice A5c sr.a.length c5c) (.slice D5c sr.b.length d5c) (.bool si.s) (.slice A5d si.a.length c5d) (.slice D5d si.b.length d5d)
  have S_r := hR2.put6 (.bool sr.s) (.slice A5c sr.a.length c5c) (.slice D5c sr.b.length d5c) (.bool si.s) (.slice A5d si.a.length c5d) (.slice D5d si.b.length d5d)
  have BW := wr6_below (b := w5.heap.size + 1) (wr6_below (b := w5.heap.size) L2 (Nat.le_refl _) (.bool qr.s) (.slice A5a qr.a.length c5a) (.slice D5a qr.b.length d5a) (.bool qi.s) (.slice A5b qi.a.length c5b) (.slice D5b qi.b.length d5b)) (by omega) (.bool sr.s) (.slice A5c sr.a.length c5c) (.slice D5c sr.b.length d5c) (.bool si.s) (.slice A5d si.a.length c5d) (.slice D5d si.b.length d5d)
  obtain ⟨WF, hWF⟩ : ∃ WF, WF = wr6 (wr6 ((w5.alloc (.cells #[.bool false, .slice none 0 0, .slice none 0 0, .bool false, .slice none 0 0, .slice none 0 0] 26)).alloc (.cells #[.bool false, .slice none 0 0, .slice none 0 0, .bool false, .slice none 0 0, .slice none 0 0] 26)) w5.heap.size (.bool qr.s) (.slice A5a qr.a.length c5a) (.slice D5a qr.b.length d5a) (.bool qi.s) (.slice A5b qi.a.length c5b) (.slice D5b qi.b.length d5b)) (w5.heap.size + 1) (.bool sr.s) (.slice A5c sr.a.length c5c) (.slice D5c sr.b.length d5c) (.bool si.s) (.slice A5d si.a.length c5d) (.slice D5d si.b.length d5d) := ⟨_, rfl⟩
  rw [← hWF] at S_q S_r BW
  have S_a := S_a.nx BW
  have H_a := H_a.st BW
  have S_b := S_b.nx BW
  have H_b := H_b.st BW
  have S_x := S_x.nx BW
  have H_x := H_x.st BW
  have S_y := S_y.nx BW
  have H_y := H_y.st BW
  have H_q := H_q.st BW
  have H_r := H_r.st BW
  have C0 := bt C0 BW
  clear S1 S2 L2 BW
  go_upto_region 4 with ((refine wp_st6 rfl (.tmp 9) (.tmp 29) rfl _ rfl _ _ _ _ _ _ rfl hR1 rfl rfl rfl rfl rfl rfl ?_; refine wp_st6 rfl (.tmp 10) (.tmp 30) rfl _ rfl _ _ _ _ _ _ rfl hR2 rfl rfl rfl rfl rfl rfl ?_; rw [← hWF]; clear hWF hR1 hR2))
  generalize w5.heap.size = g5 at S_q S_r ⊢
  have i0 := S_a.cell 0
  have i1 := S_a.cell 1
  have i2 := S_a.cell 2
  have i3 := S_a.cell 3
  have i4 := S_a.cell 4
  have i5 := S_a.cell 5
  have j0 := S_b.cell 0
  have j1 := S_b.cell 1
  have j2 := S_b.cell 2
  have j3 := S_b.cell 3
  have j4 := S_b.cell 4
  have j5 := S_b.cell 5
  go_wp2_with fail
  refine (o4 _ _ _ H_a H_b).mono ?_; rintro e w6 ⟨A6a, c6a, D6a, d6a, A6b, c6b, D6b, d6b, A6c, c6c, D6c, d6c, A6d, c6d, D6d, d6d, rfl, ⟨O1, O2, O3, O4⟩, ⟨O5, O6, O7, O8⟩, B6⟩
  try dsimp only at O1 O2 O3 O4 O5 O6 O7 O8
  clear i0 i1 i2 i3 i4 i5
  clear j0 j1 j2 j3 j4 j5
  have H_s : VN w6 w6.heap.size (.agg #[.bool qr.s, .slice A6a qr.a.length c6a, .slice D6a qr.b.length d6a, .bool qi.s, .slice A6b qi.a.length c6b, .slice D6b qi.b.length d6b]) qr qi := ⟨A6a, c6a, D6a, d6a, A6b, c6b, D6b, d6b, rfl, O1.rw, O2.rw, O3.rw, O4.rw⟩
  have H_t : VN w6 w6.heap.size (.agg #[.bool sr.s, .slice A6c sr.a.length c6c, .slice D6c sr.b.length d6c, .bool si.s, .slice A6d si.a.length c6d, .slice D6d si.b.length d6d]) sr si := ⟨A6c, c6c, D6c, d6c, A6d, c6d, D6d, d6d, rfl, O5.rw, O6.rw, O7.rw, O8.rw⟩
  clear O1 O2 O3 O4 O5 O6 O7 O8
  have S_a := S_a.nx B6
  have H_a := H_a.st B6
  have S_b := S_b.nx B6
  have H_b := H_b.st B6
  have S_x := S_x.nx B6
  have H_x := H_x.st B6
  have S_y := S_y.nx B6
  have H_y := H_y.st B6
  have S_q := S_q.nx B6
  have H_q := H_q.st B6
  have S_r := S_r.nx B6
  have H_r := H_r.st B6
  have C0 := bt C0 B6
  have L2 := bt (bal w6 (.cells #[.bool false, .slice none 0 0, .slice none 0 0, .bool false, .slice none 0 0, .slice none 0 0] 26)) (bal (w6.alloc (.cells #[.bool false, .slice none 0 0, .slice none 0 0, .bool false, .slice none 0 0, .slice none 0 0] 26)) (.cells #[.bool false, .slice none 0 0, .slice none 0 0, .bool false, .slice none 0 0, .slice none 0 0] 26))
  have S1 := (SB.new w6 [.bool false, .slice none 0 0, .slice none 0 0, .bool false, .slice none 0 0, .slice none 0 0] 26).nx (bal (w6.alloc (.cells #[.bool false, .slice none 0 0, .slice none 0 0, .bool false, .slice none 0 0, .slice none 0 0] 26)) (.cells #[.bool false, .slice none 0 0, .slice none 0 0, .bool false, .slice none 0 0, .slice none 0 0] 26))
  have S2 := SB.new (w6.alloc (.cells #[.bool false, .slice none 0 0, .slice none 0 0, .bool false, .slice none 0 0, .slice none 0 0] 26)) [.bool false, .slice none 0 0, .slice none 0 0, .bool false, .slice none 0 0, .slice none 0 0] 26
  rw [show (w6.alloc (.cells #[.bool false, .slice none 0 0, .slice none 0 0, .bool false, .slice none 0 0, .slice none 0 0] 26)).heap.size = w6.heap.size + 1 by simp] at S2
  have hR1 := S1.rc (n := 6)
  have hR2 := (S2.wr6 (r := w6.heap.size) (by omega) (.bool qr.s) (.slice A6a qr.a.length c6a) (.slice D6a qr.b.length d6a) (.bool qi.s) (.slice A6b qi.a.length c6b) (.slice D6b qi.b.length d6b)).rc (n := 6)
  have S_s := (hR1.put6 (.bool qr.s) (.slice A6a qr.a.length c6a) (.slice D6a qr.b.length d6a) (.bool qi.s) (.slice A6b qi.a.length c6b) (.slice D6b qi.b.length d6b)).wr6 (r := w6.heap.size + 1) (by omega) (.bool sr.s) (.slice A6c sr.a.length c6c) (.slice D6c sr.b.length d6c) (.bool si.s) (.slice A6d si.a.length c6d) (.slice D6d si.b.length d6d)
  have S_t := hR2.put6 (.bool sr.s) (.slice A6c sr.a.length c6c) (.slice D6c sr.b.length d6c) (.bool si.s) (.slice A6d si.a.length c6d) (.slice D6d si.b.length d6d)
  have BW := wr6_below (b := w6.heap.size + 1) (wr6_below (b := w6.heap.size) L2 (Nat.le_refl _) (.bool qr.s) (.slice A6a qr.a.length c6a) (.slice D6a qr.b.length d6a) (.bool qi.s) (.slice A6b qi.a.length c6b) (.slice D6b qi.b.length d6b)) (by omega) (.bool sr.s) (.slice A6c sr.a.length c6c) (.slice D6c sr.b.length d6c) (.bool si.s) (.slice A6d si.a.length c6d) (.slice D6d si.b.length d6d)
  obtain ⟨WF, hWF⟩ : ∃ WF, WF = wr6 (wr6 ((w6.alloc (.cells #[.bool false, .slice none 0 0, .slice none 0 0, .bool false, .slice none 0 0, .slice none 0 0] 26)).alloc (.cells #[.bool false, .slice none 0 0, .slice none 0 0, .bool false, .slice none 0 0, .slice none 0 0] 26)) w6.heap.size (.bool qr.s) (.slice A6a qr.a.length c6a) (.slice D6a qr.b.length d6a) (.bool qi.s) (.slice A6b qi.a.length c6b) (.slice D6b qi.b.length d6b)) (w6.heap.size + 1) (.bool sr.s) (.slice A6c sr.a.length c6c) (.slice D6c sr.b.length d6c) (.bool si.s) (.slice A6d si.a.length c6d) (.slice D6d si.b.length d6d) := ⟨_, rfl⟩
  rw [← hWF] at S_s S_t BW
  have S_a := S_a.nx BW
  have H_a := H_a.st BW
  have S_b := S_b.nx BW
  have H_b := H_b.st BW
  have S_x := S_x.nx BW
  have H_x := H_x.st BW
  have S_y := S_y.nx BW
  have H_y := H_y.st BW
  have S_q := S_q.nx BW
  have H_q := H_q.st BW
  have S_r := S_r.nx BW
  have H_r := H_r.st BW
  have H_s := H_s.st BW
  have H_t := H_t.st BW
  have C0 := bt C0 BW
  clear S1 S2 L2 BW
  go_upto_region 5 with ((refine wp_st6 rfl (.tmp 12) (.tmp 36) rfl _ rfl _ _ _ _ _ _ rfl hR1 rfl rfl rfl rfl rfl rfl ?_; refine wp_st6 rfl (.tmp 13) (.tmp 37) rfl _ rfl _ _ _ _ _ _ rfl hR2 rfl rfl rfl rfl rfl rfl ?_; rw [← hWF]; clear hWF hR1 hR2))
  generalize w6.heap.size = g6 at S_s S_t ⊢
  clear S_a H_a
  clear S_b H_b
  clear o1 o2 o3 o4
  go_wp2_with fail
  refine (xawake_any _).mono ?_; rintro e w20 ⟨rfl, B20⟩
  have S_x := S_x.nx B20
  have H_x := H_x.st B20
  have S_y := S_y.nx B20
  have H_y := H_y.st B20
  have S_q := S_q.nx B20
  have H_q := H_q.st B20
  have S_r := S_r.nx B20
  have H_r := H_r.st B20
  have S_s := S_s.nx B20
  have H_s := H_s.st B20
  have S_t := S_t.nx B20
  have H_t := H_t.st B20
  have C0 := bt C0 B20
  have i0 := S_x.cell 0
  have i1 := S_x.cell 1
  have i2 := S_x.cell 2
  have i3 := S_x.cell 3
  have i4 := S_x.cell 4
  have i5 := S_x.cell 5
  have j0 := S_y.cell 0
  have j1 := S_y.cell 1
  have j2 := S_y.cell 2
  have j3 := S_y.cell 3
  have j4 := S_y.cell 4
  have j5 := S_y.cell 5
  go_wp2_with fail
  refine (l1 _ _ _ H_x H_y).mono ?_; rintro e w7 ⟨rfl, B7⟩
  have S_x := S_x.nx B7
  have H_x := H_x.st B7
  have S_y := S_y.nx B7
  have H_y := H_y.st B7
  have S_q := S_q.nx B7
  have H_q := H_q.st B7
  have S_r := S_r.nx B7
  have H_r := H_r.st B7
  have S_s := S_s.nx B7
  have H_s := H_s.st B7
  have S_t := S_t.nx B7
  have H_t := H_t.st B7
  have C0 := bt C0 B7
  clear i0 i1 i2 i3 i4 i5
  clear j0 j1 j2 j3 j4 j5
  have i0 := S_q.cell 0
  have i1 := S_q.cell 1
  have i2 := S_q.cell 2
  have i3 := S_q.cell 3
  have i4 := S_q.cell 4
  have i5 := S_q.cell 5
  have j0 := S_s.cell 0
  have j1 := S_s.cell 1
  have j2 := S_s.cell 2
  have j3 := S_s.cell 3
  have j4 := S_s.cell 4
  have j5 := S_s.cell 5
  go_wp2_with fail
  refine (l2 _ _ _ H_q H_s).mono ?_; rintro e w8 ⟨rfl, B8⟩
  have S_x := S_x.nx B8
  have H_x := H_x.st B8
  have S_y := S_y.nx B8
  have H_y := H_y.st B8
  have S_q := S_q.nx B8
  have H_q := H_q.st B8
  have S_r := S_r.nx B8
  have H_r := H_r.st B8
  have S_s := S_s.nx B8
  have H_s := H_s.st B8
  have S_t := S_t.nx B8
  have H_t := H_t.st B8
  have C0 := bt C0 B8
  clear i0 i1 i2 i3 i4 i5
  clear j0 j1 j2 j3 j4 j5
  have i0 := S_r.cell 0
  have i1 := S_r.cell 1
  have i2 := S_r.cell 2
  have i3 := S_r.cell 3
  have i4 := S_r.cell 4
  have i5 := S_r.cell 5
  have j0 := S_t.cell 0
  have j1 := S_t.cell 1
  have j2 := S_t.cell 2
  have j3 := S_t.cell 3
  have j4 := S_t.cell 4
  have j5 := S_t.cell 5
  go_wp2_with fail
  refine (l3 _ _ _ H_r H_t).mono ?_; rintro e w9 ⟨rfl, B9⟩
  have S_x := S_x.nx B9
  have H_x := H_x.st B9
  have S_y := S_y.nx B9
  have H_y := H_y.st B9
  have S_q := S_q.nx B9
  have H_q := H_q.st B9
  have S_r := S_r.nx B9
  have H_r := H_r.st B9
  have S_s := S_s.nx B9
  have H_s := H_s.st B9
  have S_t := S_t.nx B9
  have H_t := H_t.st B9
  have C0 := bt C0 B9
  clear i0 i1 i2 i3 i4 i5
  clear j0 j1 j2 j3 j4 j5
  go_wp2_with fail
  go_ret
  exact ⟨by simp, C0⟩
end Go.Proofs.Ytdkejndagicgjaa
