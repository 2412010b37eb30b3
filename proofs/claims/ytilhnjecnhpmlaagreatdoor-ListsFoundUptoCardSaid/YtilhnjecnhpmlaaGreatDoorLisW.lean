/- Walk: ListsFound. -/
import Derived.Test.YtilhnjecnhpmlaaGreatDoorGT
import Derived.Test.YtilhnjecnhpmlaaGreatDoorGN
namespace Go.Proofs.YtilhnjecnhpmlaaGreatDoor
open Go.RowKit

set_option maxRecDepth 100000 in
set_option maxHeartbeats 32000000 in
theorem found_walk (x d : Dat) (vx vd : Value) (w : World) (P : Nat → Prop) (hP : ∀ b, P b → b < w.heap.size) (hX : RDP w P x vx) (hD : RDP w P d vd) (hT : Tabs w) :
    Calls Tryz.prog 3 #[vx, vd] w fun e w' => e = .returned (.bool true) ∧ Below w.heap.size w w' := by
  obtain ⟨lx, rfl, llx, lox⟩ := hX.agg
  obtain ⟨ld, rfl, lld, lod⟩ := hD.agg
  match lx, llx, lox, ld, lld, lod with
  | [x0, x1, x2, x3, x4, x5, x6, x7, x8, x9, x10], _, lox, [y0, y1, y2, y3, y4, y5, y6, y7, y8, y9, y10], _, lod =>
  have z1 : (w.alloc (.cells #[x0, x1, x2, x3, x4, x5, x6, x7, x8, x9, x10] 30)).heap.size = w.heap.size + 1 := by simp
  have z2 : ((w.alloc (.cells #[x0, x1, x2, x3, x4, x5, x6, x7, x8, x9, x10] 30)).alloc (.cells #[y0, y1, y2, y3, y4, y5, y6, y7, y8, y9, y10] 30)).heap.size = w.heap.size + 2 := by simp
  have SX := SB.new w [x0, x1, x2, x3, x4, x5, x6, x7, x8, x9, x10] 30
  have SD := SB.new (w.alloc (.cells #[x0, x1, x2, x3, x4, x5, x6, x7, x8, x9, x10] 30)) [y0, y1, y2, y3, y4, y5, y6, y7, y8, y9, y10] 30
  have S1 := SB.new ((w.alloc (.cells #[x0, x1, x2, x3, x4, x5, x6, x7, x8, x9, x10] 30)).alloc (.cells #[y0, y1, y2, y3, y4, y5, y6, y7, y8, y9, y10] 30)) [.int .i64 0, .int .i64 0, .bool false, .slice none 0 0, .slice none 0 0, .bool false, .slice none 0 0, .slice none 0 0, .string { data := #[] }, .slice none 0 0, .slice none 0 0] 30
  have B1 := bal w (.cells #[x0, x1, x2, x3, x4, x5, x6, x7, x8, x9, x10] 30)
  have B2 := bal (w.alloc (.cells #[x0, x1, x2, x3, x4, x5, x6, x7, x8, x9, x10] 30)) (.cells #[y0, y1, y2, y3, y4, y5, y6, y7, y8, y9, y10] 30)
  have B3 := bal ((w.alloc (.cells #[x0, x1, x2, x3, x4, x5, x6, x7, x8, x9, x10] 30)).alloc (.cells #[y0, y1, y2, y3, y4, y5, y6, y7, y8, y9, y10] 30)) (.cells #[.int .i64 0, .int .i64 0, .bool false, .slice none 0 0, .slice none 0 0, .bool false, .slice none 0 0, .slice none 0 0, .string { data := #[] }, .slice none 0 0, .slice none 0 0] 30)
  have BB := bt B1 B2
  have SX := SX.nx B2
  
  rw [z1] at SD
  rw [z2] at S1
  clear B1 B2 B3 z1 z2
  have RX : RDP _ P x _ := hX.step (fun z hz => BB.block z (hP z hz)) (fun z hz => hz)
  have RD_ : RDP _ P d _ := hD.step (fun z hz => BB.block z (hP z hz)) (fun z hz => hz)
  obtain ⟨W0, hW0⟩ : ∃ W0, W0 = (w.alloc (.cells #[x0, x1, x2, x3, x4, x5, x6, x7, x8, x9, x10] 30)).alloc (.cells #[y0, y1, y2, y3, y4, y5, y6, y7, y8, y9, y10] 30) := ⟨_, rfl⟩
  have hN : w.heap.size + 2 ≤ W0.heap.size := by rw [hW0]; simp
  rw [← hW0] at SX SD BB RX RD_
  clear S1
  go_enter Tryz.func3, Tryz.ntmps3
  go_upto_region 1 with fail
  rw [← hW0]
  clear hW0 hX hD
  generalize hn : w.heap.size = n at *
  have ka_0 := SX.cell 0; have ka_1 := SX.cell 1; have ka_2 := SX.cell 2; have ka_3 := SX.cell 3; have ka_4 := SX.cell 4; have ka_5 := SX.cell 5; have ka_6 := SX.cell 6; have ka_7 := SX.cell 7; have ka_8 := SX.cell 8; have ka_9 := SX.cell 9; have ka_10 := SX.cell 10
  have kb_0 := SD.cell 0; have kb_1 := SD.cell 1; have kb_2 := SD.cell 2; have kb_3 := SD.cell 3; have kb_4 := SD.cell 4; have kb_5 := SD.cell 5; have kb_6 := SD.cell 6; have kb_7 := SD.cell 7; have kb_8 := SD.cell 8; have kb_9 := SD.cell 9; have kb_10 := SD.cell 10
  go_wp2_with fail
  refine (lmember_any x d _ _ W0 P (fun z hz => by have := hP z hz; omega) RX RD_ (hT.go hn BB)).mono ?_
  rintro e v1_ ⟨v1, rfl, R1, E1_⟩
  have R1 := R1.from_ (m := n + 2) hN
  clear ka_0 ka_1 ka_2 ka_3 ka_4 ka_5 ka_6 ka_7 ka_8 ka_9 ka_10 kb_0 kb_1 kb_2 kb_3 kb_4 kb_5 kb_6 kb_7 kb_8 kb_9 kb_10
  have SX := SX.nx E1_
  have SD := SD.nx E1_
  have RX := RX.keeps hP (by omega) E1_
  have RD_ := RD_.keeps hP (by omega) E1_
  have BB := BB.trans (E1_.mono (by omega))
  have hN := Nat.le_trans hN E1_.size
  clear E1_
  obtain ⟨cs, rfl, cl, co⟩ := R1.agg
  match cs, cl, co with
  | [a0, a1, a2, a3, a4, a5, a6, a7, a8, a9, a10], _, co =>
  have Sg := SB.new v1_ [.int .i64 0, .int .i64 0, .bool false, .slice none 0 0, .slice none 0 0, .bool false, .slice none 0 0, .slice none 0 0, .string { data := #[] }, .slice none 0 0, .slice none 0 0] 30
  obtain ⟨v2_, hv2_⟩ : ∃ v2_, v2_ = (v1_.alloc (.cells #[.int .i64 0, .int .i64 0, .bool false, .slice none 0 0, .slice none 0 0, .bool false, .slice none 0 0, .slice none 0 0, .string { data := #[] }, .slice none 0 0, .slice none 0 0] 30)).setCells v1_.heap.size 0 [a0, a1, a2, a3, a4, a5, a6, a7, a8, a9, a10] := ⟨_, rfl⟩
  have Bv2_ : Below v1_.heap.size v1_ v2_ := by rw [hv2_]; exact below_cso (bal v1_ _) (Nat.le_refl _) 0 [a0, a1, a2, a3, a4, a5, a6, a7, a8, a9, a10]
  have S5 : SB v2_ v1_.heap.size [a0, a1, a2, a3, a4, a5, a6, a7, a8, a9, a10] := by rw [hv2_]; exact Sg.cells [a0, a1, a2, a3, a4, a5, a6, a7, a8, a9, a10] rfl
  have hgv1_ : n + 2 ≤ v1_.heap.size := hN
  replace hv2_ := Lib.hid hv2_
  go_upto_region 2 with (refine wp_stD rfl rfl (.tmp 5) (.tmp 21) rfl v1_.heap.size rfl [a0, a1, a2, a3, a4, a5, a6, a7, a8, a9, a10] rfl rfl _ Sg rfl co ?_; rw [← hv2_.out]; clear hv2_)
  clear Sg co
  have SX := SX.nx Bv2_
  have SD := SD.nx Bv2_
  have RX := RX.keeps hP (by omega) Bv2_
  have RD_ := RD_.keeps hP (by omega) Bv2_
  have BB := BB.trans (Bv2_.mono (by omega))
  have R1 := R1.go hP (by omega) Bv2_
  have hN := Nat.le_trans hN Bv2_.size
  clear Bv2_
  have ka_0 := SX.cell 0; have ka_1 := SX.cell 1; have ka_2 := SX.cell 2; have ka_3 := SX.cell 3; have ka_4 := SX.cell 4; have ka_5 := SX.cell 5; have ka_6 := SX.cell 6; have ka_7 := SX.cell 7; have ka_8 := SX.cell 8; have ka_9 := SX.cell 9; have ka_10 := SX.cell 10
  have kb_0 := SD.cell 0; have kb_1 := SD.cell 1; have kb_2 := SD.cell 2; have kb_3 := SD.cell 3; have kb_4 := SD.cell 4; have kb_5 := SD.cell 5; have kb_6 := SD.cell 6; have kb_7 := SD.cell 7; have kb_8 := SD.cell 8; have kb_9 := SD.cell 9; have kb_10 := SD.cell 10
  go_wp2_with fail
  refine (rmember_any x d _ _ v2_ P (fun z hz => by have := hP z hz; omega) RX RD_).mono ?_
  rintro e v3_ ⟨v2, rfl, R2, E3_⟩
  have R2 := R2.from_ (m := n + 2) hN
  clear ka_0 ka_1 ka_2 ka_3 ka_4 ka_5 ka_6 ka_7 ka_8 ka_9 ka_10 kb_0 kb_1 kb_2 kb_3 kb_4 kb_5 kb_6 kb_7 kb_8 kb_9 kb_10
  have SX := SX.nx E3_
  have SD := SD.nx E3_
  have RX := RX.keeps hP (by omega) E3_
  have RD_ := RD_.keeps hP (by omega) E3_
  have BB := BB.trans (E3_.mono (by omega))
  have R1 := R1.go hP (by omega) E3_
  have S5 := S5.nx E3_
  have hN := Nat.le_trans hN E3_.size
  clear E3_
  obtain ⟨cs, rfl, cl, co⟩ := R2.agg
  match cs, cl, co with
  | [b0, b1, b2, b3, b4, b5, b6, b7, b8, b9, b10], _, co =>
  have Sg := SB.new v3_ [.int .i64 0, .int .i64 0, .bool false, .slice none 0 0, .slice none 0 0, .bool false, .slice none 0 0, .slice none 0 0, .string { data := #[] }, .slice none 0 0, .slice none 0 0] 30
  obtain ⟨v4_, hv4_⟩ : ∃ v4_, v4_ = (v3_.alloc (.cells #[.int .i64 0, .int .i64 0, .bool false, .slice none 0 0, .slice none 0 0, .bool false, .slice none 0 0, .slice none 0 0, .string { data := #[] }, .slice none 0 0, .slice none 0 0] 30)).setCells v3_.heap.size 0 [b0, b1, b2, b3, b4, b5, b6, b7, b8, b9, b10] := ⟨_, rfl⟩
  have Bv4_ : Below v3_.heap.size v3_ v4_ := by rw [hv4_]; exact below_cso (bal v3_ _) (Nat.le_refl _) 0 [b0, b1, b2, b3, b4, b5, b6, b7, b8, b9, b10]
  have S7 : SB v4_ v3_.heap.size [b0, b1, b2, b3, b4, b5, b6, b7, b8, b9, b10] := by rw [hv4_]; exact Sg.cells [b0, b1, b2, b3, b4, b5, b6, b7, b8, b9, b10] rfl
  have hgv3_ : n + 2 ≤ v3_.heap.size := hN
  replace hv4_ := Lib.hid hv4_
  go_upto_region 3 with (refine wp_stD rfl rfl (.tmp 7) (.tmp 27) rfl v3_.heap.size rfl [b0, b1, b2, b3, b4, b5, b6, b7, b8, b9, b10] rfl rfl _ Sg rfl co ?_; rw [← hv4_.out]; clear hv4_)
  clear Sg co
  have SX := SX.nx Bv4_
  have SD := SD.nx Bv4_
  have RX := RX.keeps hP (by omega) Bv4_
  have RD_ := RD_.keeps hP (by omega) Bv4_
  have BB := BB.trans (Bv4_.mono (by omega))
  have R1 := R1.go hP (by omega) Bv4_
  have S5 := S5.nx Bv4_
  have R2 := R2.go hP (by omega) Bv4_
  have hN := Nat.le_trans hN Bv4_.size
  clear Bv4_
  have ka_0 := SX.cell 0; have ka_1 := SX.cell 1; have ka_2 := SX.cell 2; have ka_3 := SX.cell 3; have ka_4 := SX.cell 4; have ka_5 := SX.cell 5; have ka_6 := SX.cell 6; have ka_7 := SX.cell 7; have ka_8 := SX.cell 8; have ka_9 := SX.cell 9; have ka_10 := SX.cell 10
  have kb_0 := SD.cell 0; have kb_1 := SD.cell 1; have kb_2 := SD.cell 2; have kb_3 := SD.cell 3; have kb_4 := SD.cell 4; have kb_5 := SD.cell 5; have kb_6 := SD.cell 6; have kb_7 := SD.cell 7; have kb_8 := SD.cell 8; have kb_9 := SD.cell 9; have kb_10 := SD.cell 10
  go_wp2_with fail
  refine (lassoc_any x d _ _ v4_ P (fun z hz => by have := hP z hz; omega) RX RD_ (hT.go hn BB)).mono ?_
  rintro e v5_ ⟨v3, rfl, R3, E5_⟩
  have R3 := R3.from_ (m := n + 2) hN
  clear ka_0 ka_1 ka_2 ka_3 ka_4 ka_5 ka_6 ka_7 ka_8 ka_9 ka_10 kb_0 kb_1 kb_2 kb_3 kb_4 kb_5 kb_6 kb_7 kb_8 kb_9 kb_10
  have SX := SX.nx E5_
  have SD := SD.nx E5_
  have RX := RX.keeps hP (by omega) E5_
  have RD_ := RD_.keeps hP (by omega) E5_
  have BB := BB.trans (E5_.mono (by omega))
  have R1 := R1.go hP (by omega) E5_
  have S5 := S5.nx E5_
  have R2 := R2.go hP (by omega) E5_
  have S7 := S7.nx E5_
  have hN := Nat.le_trans hN E5_.size
  clear E5_
  obtain ⟨cs, rfl, cl, co⟩ := R3.agg
  match cs, cl, co with
  | [f0, f1, f2, f3, f4, f5, f6, f7, f8, f9, f10], _, co =>
  have Sg := SB.new v5_ [.int .i64 0, .int .i64 0, .bool false, .slice none 0 0, .slice none 0 0, .bool false, .slice none 0 0, .slice none 0 0, .string { data := #[] }, .slice none 0 0, .slice none 0 0] 30
  obtain ⟨v6_, hv6_⟩ : ∃ v6_, v6_ = (v5_.alloc (.cells #[.int .i64 0, .int .i64 0, .bool false, .slice none 0 0, .slice none 0 0, .bool false, .slice none 0 0, .slice none 0 0, .string { data := #[] }, .slice none 0 0, .slice none 0 0] 30)).setCells v5_.heap.size 0 [f0, f1, f2, f3, f4, f5, f6, f7, f8, f9, f10] := ⟨_, rfl⟩
  have Bv6_ : Below v5_.heap.size v5_ v6_ := by rw [hv6_]; exact below_cso (bal v5_ _) (Nat.le_refl _) 0 [f0, f1, f2, f3, f4, f5, f6, f7, f8, f9, f10]
  have S9 : SB v6_ v5_.heap.size [f0, f1, f2, f3, f4, f5, f6, f7, f8, f9, f10] := by rw [hv6_]; exact Sg.cells [f0, f1, f2, f3, f4, f5, f6, f7, f8, f9, f10] rfl
  have hgv5_ : n + 2 ≤ v5_.heap.size := hN
  replace hv6_ := Lib.hid hv6_
  go_upto_region 4 with (refine wp_stD rfl rfl (.tmp 9) (.tmp 33) rfl v5_.heap.size rfl [f0, f1, f2, f3, f4, f5, f6, f7, f8, f9, f10] rfl rfl _ Sg rfl co ?_; rw [← hv6_.out]; clear hv6_)
  clear Sg co
  have SX := SX.nx Bv6_
  have SD := SD.nx Bv6_
  have RX := RX.keeps hP (by omega) Bv6_
  have RD_ := RD_.keeps hP (by omega) Bv6_
  have BB := BB.trans (Bv6_.mono (by omega))
  have R1 := R1.go hP (by omega) Bv6_
  have S5 := S5.nx Bv6_
  have R2 := R2.go hP (by omega) Bv6_
  have S7 := S7.nx Bv6_
  have R3 := R3.go hP (by omega) Bv6_
  have hN := Nat.le_trans hN Bv6_.size
  clear Bv6_
  have ka_0 := SX.cell 0; have ka_1 := SX.cell 1; have ka_2 := SX.cell 2; have ka_3 := SX.cell 3; have ka_4 := SX.cell 4; have ka_5 := SX.cell 5; have ka_6 := SX.cell 6; have ka_7 := SX.cell 7; have ka_8 := SX.cell 8; have ka_9 := SX.cell 9; have ka_10 := SX.cell 10
  have kb_0 := SD.cell 0; have kb_1 := SD.cell 1; have kb_2 := SD.cell 2; have kb_3 := SD.cell 3; have kb_4 := SD.cell 4; have kb_5 := SD.cell 5; have kb_6 := SD.cell 6; have kb_7 := SD.cell 7; have kb_8 := SD.cell 8; have kb_9 := SD.cell 9; have kb_10 := SD.cell 10
  go_wp2_with fail
  refine (rassoc_any x d _ _ v6_ P (fun z hz => by have := hP z hz; omega) RX RD_).mono ?_
  rintro e v7_ ⟨v4, rfl, R4, E7_⟩
  have R4 := R4.from_ (m := n + 2) hN
  clear ka_0 ka_1 ka_2 ka_3 ka_4 ka_5 ka_6 ka_7 ka_8 ka_9 ka_10 kb_0 kb_1 kb_2 kb_3 kb_4 kb_5 kb_6 kb_7 kb_8 kb_9 kb_10
  have SX := SX.nx E7_
  have SD := SD.nx E7_
  have RX := RX.keeps hP (by omega) E7_
  have RD_ := RD_.keeps hP (by omega) E7_
  have BB := BB.trans (E7_.mono (by omega))
  have R1 := R1.go hP (by omega) E7_
  have S5 := S5.nx E7_
  have R2 := R2.go hP (by omega) E7_
  have S7 := S7.nx E7_
  have R3 := R3.go hP (by omega) E7_
  have S9 := S9.nx E7_
  have hN := Nat.le_trans hN E7_.size
  clear E7_
  obtain ⟨cs, rfl, cl, co⟩ := R4.agg
  match cs, cl, co with
  | [g0, g1, g2, g3, g4, g5, g6, g7, g8, g9, g10], _, co =>
  have Sg := SB.new v7_ [.int .i64 0, .int .i64 0, .bool false, .slice none 0 0, .slice none 0 0, .bool false, .slice none 0 0, .slice none 0 0, .string { data := #[] }, .slice none 0 0, .slice none 0 0] 30
  obtain ⟨v8_, hv8_⟩ : ∃ v8_, v8_ = (v7_.alloc (.cells #[.int .i64 0, .int .i64 0, .bool false, .slice none 0 0, .slice none 0 0, .bool false, .slice none 0 0, .slice none 0 0, .string { data := #[] }, .slice none 0 0, .slice none 0 0] 30)).setCells v7_.heap.size 0 [g0, g1, g2, g3, g4, g5, g6, g7, g8, g9, g10] := ⟨_, rfl⟩
  have Bv8_ : Below v7_.heap.size v7_ v8_ := by rw [hv8_]; exact below_cso (bal v7_ _) (Nat.le_refl _) 0 [g0, g1, g2, g3, g4, g5, g6, g7, g8, g9, g10]
  have S11 : SB v8_ v7_.heap.size [g0, g1, g2, g3, g4, g5, g6, g7, g8, g9, g10] := by rw [hv8_]; exact Sg.cells [g0, g1, g2, g3, g4, g5, g6, g7, g8, g9, g10] rfl
  have hgv7_ : n + 2 ≤ v7_.heap.size := hN
  replace hv8_ := Lib.hid hv8_
  go_upto_region 5 with (refine wp_stD rfl rfl (.tmp 11) (.tmp 39) rfl v7_.heap.size rfl [g0, g1, g2, g3, g4, g5, g6, g7, g8, g9, g10] rfl rfl _ Sg rfl co ?_; rw [← hv8_.out]; clear hv8_)
  clear Sg co
  have SX := SX.nx Bv8_
  have SD := SD.nx Bv8_
  have RX := RX.keeps hP (by omega) Bv8_
  have RD_ := RD_.keeps hP (by omega) Bv8_
  have BB := BB.trans (Bv8_.mono (by omega))
  have R1 := R1.go hP (by omega) Bv8_
  have S5 := S5.nx Bv8_
  have R2 := R2.go hP (by omega) Bv8_
  have S7 := S7.nx Bv8_
  have R3 := R3.go hP (by omega) Bv8_
  have S9 := S9.nx Bv8_
  have R4 := R4.go hP (by omega) Bv8_
  have hN := Nat.le_trans hN Bv8_.size
  clear Bv8_
  have ka_0 := SX.cell 0; have ka_1 := SX.cell 1; have ka_2 := SX.cell 2; have ka_3 := SX.cell 3; have ka_4 := SX.cell 4; have ka_5 := SX.cell 5; have ka_6 := SX.cell 6; have ka_7 := SX.cell 7; have ka_8 := SX.cell 8; have ka_9 := SX.cell 9; have ka_10 := SX.cell 10
  have kb_0 := SD.cell 0; have kb_1 := SD.cell 1; have kb_2 := SD.cell 2; have kb_3 := SD.cell 3; have kb_4 := SD.cell 4; have kb_5 := SD.cell 5; have kb_6 := SD.cell 6; have kb_7 := SD.cell 7; have kb_8 := SD.cell 8; have kb_9 := SD.cell 9; have kb_10 := SD.cell 10
  go_wp2_with fail
  refine (lremove_any x d _ _ v8_ P (fun z hz => by have := hP z hz; omega) RX RD_ (hT.go hn BB)).mono ?_
  rintro e v9_ ⟨v5, rfl, R5, E9_⟩
  have R5 := R5.from_ (m := n + 2) hN
  clear ka_0 ka_1 ka_2 ka_3 ka_4 ka_5 ka_6 ka_7 ka_8 ka_9 ka_10 kb_0 kb_1 kb_2 kb_3 kb_4 kb_5 kb_6 kb_7 kb_8 kb_9 kb_10
  have SX := SX.nx E9_
  have SD := SD.nx E9_
  have RX := RX.keeps hP (by omega) E9_
  have RD_ := RD_.keeps hP (by omega) E9_
  have BB := BB.trans (E9_.mono (by omega))
  have R1 := R1.go hP (by omega) E9_
  have S5 := S5.nx E9_
  have R2 := R2.go hP (by omega) E9_
  have S7 := S7.nx E9_
  have R3 := R3.go hP (by omega) E9_
  have S9 := S9.nx E9_
  have R4 := R4.go hP (by omega) E9_
  have S11 := S11.nx E9_
  have hN := Nat.le_trans hN E9_.size
  clear E9_
  obtain ⟨cs, rfl, cl, co⟩ := R5.agg
  match cs, cl, co with
  | [h0, h1, h2, h3, h4, h5, h6, h7, h8, h9, h10], _, co =>
  have Sg := SB.new v9_ [.int .i64 0, .int .i64 0, .bool false, .slice none 0 0, .slice none 0 0, .bool false, .slice none 0 0, .slice none 0 0, .string { data := #[] }, .slice none 0 0, .slice none 0 0] 30
  obtain ⟨v10_, hv10_⟩ : ∃ v10_, v10_ = (v9_.alloc (.cells #[.int .i64 0, .int .i64 0, .bool false, .slice none 0 0, .slice none 0 0, .bool false, .slice none 0 0, .slice none 0 0, .string { data := #[] }, .slice none 0 0, .slice none 0 0] 30)).setCells v9_.heap.size 0 [h0, h1, h2, h3, h4, h5, h6, h7, h8, h9, h10] := ⟨_, rfl⟩
  have Bv10_ : Below v9_.heap.size v9_ v10_ := by rw [hv10_]; exact below_cso (bal v9_ _) (Nat.le_refl _) 0 [h0, h1, h2, h3, h4, h5, h6, h7, h8, h9, h10]
  have S13 : SB v10_ v9_.heap.size [h0, h1, h2, h3, h4, h5, h6, h7, h8, h9, h10] := by rw [hv10_]; exact Sg.cells [h0, h1, h2, h3, h4, h5, h6, h7, h8, h9, h10] rfl
  have hgv9_ : n + 2 ≤ v9_.heap.size := hN
  replace hv10_ := Lib.hid hv10_
  go_upto_region 6 with (refine wp_stD rfl rfl (.tmp 13) (.tmp 45) rfl v9_.heap.size rfl [h0, h1, h2, h3, h4, h5, h6, h7, h8, h9, h10] rfl rfl _ Sg rfl co ?_; rw [← hv10_.out]; clear hv10_)
  clear Sg co
  have SX := SX.nx Bv10_
  have SD := SD.nx Bv10_
  have RX := RX.keeps hP (by omega) Bv10_
  have RD_ := RD_.keeps hP (by omega) Bv10_
  have BB := BB.trans (Bv10_.mono (by omega))
  have R1 := R1.go hP (by omega) Bv10_
  have S5 := S5.nx Bv10_
  have R2 := R2.go hP (by omega) Bv10_
  have S7 := S7.nx Bv10_
  have R3 := R3.go hP (by omega) Bv10_
  have S9 := S9.nx Bv10_
  have R4 := R4.go hP (by omega) Bv10_
  have S11 := S11.nx Bv10_
  have R5 := R5.go hP (by omega) Bv10_
  have hN := Nat.le_trans hN Bv10_.size
  clear Bv10_
  have ka_0 := SX.cell 0; have ka_1 := SX.cell 1; have ka_2 := SX.cell 2; have ka_3 := SX.cell 3; have ka_4 := SX.cell 4; have ka_5 := SX.cell 5; have ka_6 := SX.cell 6; have ka_7 := SX.cell 7; have ka_8 := SX.cell 8; have ka_9 := SX.cell 9; have ka_10 := SX.cell 10
  have kb_0 := SD.cell 0; have kb_1 := SD.cell 1; have kb_2 := SD.cell 2; have kb_3 := SD.cell 3; have kb_4 := SD.cell 4; have kb_5 := SD.cell 5; have kb_6 := SD.cell 6; have kb_7 := SD.cell 7; have kb_8 := SD.cell 8; have kb_9 := SD.cell 9; have kb_10 := SD.cell 10
  go_wp2_with fail
  refine (rremove_any x d _ _ v10_ P (fun z hz => by have := hP z hz; omega) RX RD_).mono ?_
  rintro e v11_ ⟨v6, rfl, R6, E11_⟩
  have R6 := R6.from_ (m := n + 2) hN
  clear ka_0 ka_1 ka_2 ka_3 ka_4 ka_5 ka_6 ka_7 ka_8 ka_9 ka_10 kb_0 kb_1 kb_2 kb_3 kb_4 kb_5 kb_6 kb_7 kb_8 kb_9 kb_10
  have SX := SX.nx E11_
  have SD := SD.nx E11_
  have RX := RX.keeps hP (by omega) E11_
  have RD_ := RD_.keeps hP (by omega) E11_
  have BB := BB.trans (E11_.mono (by omega))
  have R1 := R1.go hP (by omega) E11_
  have S5 := S5.nx E11_
  have R2 := R2.go hP (by omega) E11_
  have S7 := S7.nx E11_
  have R3 := R3.go hP (by omega) E11_
  have S9 := S9.nx E11_
  have R4 := R4.go hP (by omega) E11_
  have S11 := S11.nx E11_
  have R5 := R5.go hP (by omega) E11_
  have S13 := S13.nx E11_
  have hN := Nat.le_trans hN E11_.size
  clear E11_
  obtain ⟨cs, rfl, cl, co⟩ := R6.agg
  match cs, cl, co with
  | [i0, i1, i2, i3, i4, i5, i6, i7, i8, i9, i10], _, co =>
  have Sg := SB.new v11_ [.int .i64 0, .int .i64 0, .bool false, .slice none 0 0, .slice none 0 0, .bool false, .slice none 0 0, .slice none 0 0, .string { data := #[] }, .slice none 0 0, .slice none 0 0] 30
  obtain ⟨v12_, hv12_⟩ : ∃ v12_, v12_ = (v11_.alloc (.cells #[.int .i64 0, .int .i64 0, .bool false, .slice none 0 0, .slice none 0 0, .bool false, .slice none 0 0, .slice none 0 0, .string { data := #[] }, .slice none 0 0, .slice none 0 0] 30)).setCells v11_.heap.size 0 [i0, i1, i2, i3, i4, i5, i6, i7, i8, i9, i10] := ⟨_, rfl⟩
  have Bv12_ : Below v11_.heap.size v11_ v12_ := by rw [hv12_]; exact below_cso (bal v11_ _) (Nat.le_refl _) 0 [i0, i1, i2, i3, i4, i5, i6, i7, i8, i9, i10]
  have S15 : SB v12_ v11_.heap.size [i0, i1, i2, i3, i4, i5, i6, i7, i8, i9, i10] := by rw [hv12_]; exact Sg.cells [i0, i1, i2, i3, i4, i5, i6, i7, i8, i9, i10] rfl
  have hgv11_ : n + 2 ≤ v11_.heap.size := hN
  replace hv12_ := Lib.hid hv12_
  go_upto_region 7 with (refine wp_stD rfl rfl (.tmp 15) (.tmp 51) rfl v11_.heap.size rfl [i0, i1, i2, i3, i4, i5, i6, i7, i8, i9, i10] rfl rfl _ Sg rfl co ?_; rw [← hv12_.out]; clear hv12_)
  clear Sg co
  have SX := SX.nx Bv12_
  have SD := SD.nx Bv12_
  have RX := RX.keeps hP (by omega) Bv12_
  have RD_ := RD_.keeps hP (by omega) Bv12_
  have BB := BB.trans (Bv12_.mono (by omega))
  have R1 := R1.go hP (by omega) Bv12_
  have S5 := S5.nx Bv12_
  have R2 := R2.go hP (by omega) Bv12_
  have S7 := S7.nx Bv12_
  have R3 := R3.go hP (by omega) Bv12_
  have S9 := S9.nx Bv12_
  have R4 := R4.go hP (by omega) Bv12_
  have S11 := S11.nx Bv12_
  have R5 := R5.go hP (by omega) Bv12_
  have S13 := S13.nx Bv12_
  have R6 := R6.go hP (by omega) Bv12_
  have hN := Nat.le_trans hN Bv12_.size
  clear Bv12_
  have qa := same_yes (rfl : memD x d = memD x d)
  have qr := same_yes (rfl : assD x d = assD x d)
  have qt := same_yes (rfl : remD x d = remD x d)
  generalize memE x d = e4 at *
  generalize assE x d = e3 at *
  generalize remE x d = e2 at *
  generalize memD x d = t0 at *
  generalize assD x d = r0 at *
  generalize remD x d = p0 at *
  replace qa := Lib.hid qa
  replace qr := Lib.hid qr
  replace qt := Lib.hid qt
  go_wp2_with fail
  refine (awake11_any v12_ (hT.go hn BB)).mono ?_
  rintro e v13_ ⟨rfl, E13_⟩
  have SX := SX.nx E13_
  have SD := SD.nx E13_
  have RX := RX.keeps hP (by omega) E13_
  have RD_ := RD_.keeps hP (by omega) E13_
  have BB := BB.trans (E13_.mono (by omega))
  have R1 := R1.go hP (by omega) E13_
  have S5 := S5.nx E13_
  have R2 := R2.go hP (by omega) E13_
  have S7 := S7.nx E13_
  have R3 := R3.go hP (by omega) E13_
  have S9 := S9.nx E13_
  have R4 := R4.go hP (by omega) E13_
  have S11 := S11.nx E13_
  have R5 := R5.go hP (by omega) E13_
  have S13 := S13.nx E13_
  have R6 := R6.go hP (by omega) E13_
  have S15 := S15.nx E13_
  have hN := Nat.le_trans hN E13_.size
  clear E13_
  have ka_0 := S5.cell 0; have ka_1 := S5.cell 1; have ka_2 := S5.cell 2; have ka_3 := S5.cell 3; have ka_4 := S5.cell 4; have ka_5 := S5.cell 5; have ka_6 := S5.cell 6; have ka_7 := S5.cell 7; have ka_8 := S5.cell 8; have ka_9 := S5.cell 9; have ka_10 := S5.cell 10
  have kb_0 := S7.cell 0; have kb_1 := S7.cell 1; have kb_2 := S7.cell 2; have kb_3 := S7.cell 3; have kb_4 := S7.cell 4; have kb_5 := S7.cell 5; have kb_6 := S7.cell 6; have kb_7 := S7.cell 7; have kb_8 := S7.cell 8; have kb_9 := S7.cell 9; have kb_10 := S7.cell 10
  have cs := rsame_go _ t0 t0 (Nat.le_refl _) _ _ v13_ (R1.rd (fun z hz => hz.lt hP (by omega))) (R2.rd (fun z hz => hz.lt hP (by omega)))
  rw [qa.out] at cs
  go_wp2_with fail
  refine (cs).mono ?_
  rintro e v14_ ⟨rfl, E14_⟩
  have SX := SX.nx E14_
  have SD := SD.nx E14_
  have RX := RX.keeps hP (by omega) E14_
  have RD_ := RD_.keeps hP (by omega) E14_
  have BB := BB.trans (E14_.mono (by omega))
  have R1 := R1.go hP (by omega) E14_
  have S5 := S5.nx E14_
  have R2 := R2.go hP (by omega) E14_
  have S7 := S7.nx E14_
  have R3 := R3.go hP (by omega) E14_
  have S9 := S9.nx E14_
  have R4 := R4.go hP (by omega) E14_
  have S11 := S11.nx E14_
  have R5 := R5.go hP (by omega) E14_
  have S13 := S13.nx E14_
  have R6 := R6.go hP (by omega) E14_
  have S15 := S15.nx E14_
  have hN := Nat.le_trans hN E14_.size
  clear cs E14_
  clear ka_0 ka_1 ka_2 ka_3 ka_4 ka_5 ka_6 ka_7 ka_8 ka_9 ka_10 kb_0 kb_1 kb_2 kb_3 kb_4 kb_5 kb_6 kb_7 kb_8 kb_9 kb_10
  have ka_0 := S9.cell 0; have ka_1 := S9.cell 1; have ka_2 := S9.cell 2; have ka_3 := S9.cell 3; have ka_4 := S9.cell 4; have ka_5 := S9.cell 5; have ka_6 := S9.cell 6; have ka_7 := S9.cell 7; have ka_8 := S9.cell 8; have ka_9 := S9.cell 9; have ka_10 := S9.cell 10
  have kb_0 := S11.cell 0; have kb_1 := S11.cell 1; have kb_2 := S11.cell 2; have kb_3 := S11.cell 3; have kb_4 := S11.cell 4; have kb_5 := S11.cell 5; have kb_6 := S11.cell 6; have kb_7 := S11.cell 7; have kb_8 := S11.cell 8; have kb_9 := S11.cell 9; have kb_10 := S11.cell 10
  have cs := rsame_go _ r0 r0 (Nat.le_refl _) _ _ v14_ (R3.rd (fun z hz => hz.lt hP (by omega))) (R4.rd (fun z hz => hz.lt hP (by omega)))
  rw [qr.out] at cs
  go_wp2_with fail
  refine (cs).mono ?_
  rintro e v15_ ⟨rfl, E15_⟩
  have SX := SX.nx E15_
  have SD := SD.nx E15_
  have RX := RX.keeps hP (by omega) E15_
  have RD_ := RD_.keeps hP (by omega) E15_
  have BB := BB.trans (E15_.mono (by omega))
  have R1 := R1.go hP (by omega) E15_
  have S5 := S5.nx E15_
  have R2 := R2.go hP (by omega) E15_
  have S7 := S7.nx E15_
  have R3 := R3.go hP (by omega) E15_
  have S9 := S9.nx E15_
  have R4 := R4.go hP (by omega) E15_
  have S11 := S11.nx E15_
  have R5 := R5.go hP (by omega) E15_
  have S13 := S13.nx E15_
  have R6 := R6.go hP (by omega) E15_
  have S15 := S15.nx E15_
  have hN := Nat.le_trans hN E15_.size
  clear cs E15_
  clear ka_0 ka_1 ka_2 ka_3 ka_4 ka_5 ka_6 ka_7 ka_8 ka_9 ka_10 kb_0 kb_1 kb_2 kb_3 kb_4 kb_5 kb_6 kb_7 kb_8 kb_9 kb_10
  have ka_0 := S13.cell 0; have ka_1 := S13.cell 1; have ka_2 := S13.cell 2; have ka_3 := S13.cell 3; have ka_4 := S13.cell 4; have ka_5 := S13.cell 5; have ka_6 := S13.cell 6; have ka_7 := S13.cell 7; have ka_8 := S13.cell 8; have ka_9 := S13.cell 9; have ka_10 := S13.cell 10
  have kb_0 := S15.cell 0; have kb_1 := S15.cell 1; have kb_2 := S15.cell 2; have kb_3 := S15.cell 3; have kb_4 := S15.cell 4; have kb_5 := S15.cell 5; have kb_6 := S15.cell 6; have kb_7 := S15.cell 7; have kb_8 := S15.cell 8; have kb_9 := S15.cell 9; have kb_10 := S15.cell 10
  have cs := rsame_go _ p0 p0 (Nat.le_refl _) _ _ v15_ (R5.rd (fun z hz => hz.lt hP (by omega))) (R6.rd (fun z hz => hz.lt hP (by omega)))
  rw [qt.out] at cs
  go_wp2_with fail
  refine (cs).mono ?_
  rintro e v16_ ⟨rfl, E16_⟩
  have SX := SX.nx E16_
  have SD := SD.nx E16_
  have RX := RX.keeps hP (by omega) E16_
  have RD_ := RD_.keeps hP (by omega) E16_
  have BB := BB.trans (E16_.mono (by omega))
  have R1 := R1.go hP (by omega) E16_
  have S5 := S5.nx E16_
  have R2 := R2.go hP (by omega) E16_
  have S7 := S7.nx E16_
  have R3 := R3.go hP (by omega) E16_
  have S9 := S9.nx E16_
  have R4 := R4.go hP (by omega) E16_
  have S11 := S11.nx E16_
  have R5 := R5.go hP (by omega) E16_
  have S13 := S13.nx E16_
  have R6 := R6.go hP (by omega) E16_
  have S15 := S15.nx E16_
  have hN := Nat.le_trans hN E16_.size
  clear cs E16_
  clear ka_0 ka_1 ka_2 ka_3 ka_4 ka_5 ka_6 ka_7 ka_8 ka_9 ka_10 kb_0 kb_1 kb_2 kb_3 kb_4 kb_5 kb_6 kb_7 kb_8 kb_9 kb_10
  go_wp2_with fail
  go_ret
  try rw [hn]
  exact ⟨rfl, BB⟩
theorem found_card (x : Dat) (vx : Value) (d : Dat) (vd : Value) (w : World) (hX : RD w w.heap.size x vx) (hD : RD w w.heap.size d vd) (hT : Lib.Utf8Tabs (Tryz.lays196_ren.g 3) (Tryz.lays196_ren.g 4) w) :
    Calls Tryz.prog 3 #[vx, vd] w fun e w' => e = .returned (.bool true) ∧ Below w.heap.size w w' := found_walk x d vx vd w _ (fun _ h => h) hX.rdp hD.rdp hT

end Go.Proofs.YtilhnjecnhpmlaaGreatDoor
