/- Walk: ListsSorted. -/
import Derived.Test.YtilhnjecnhpmlaaGreatDoorGX
import Derived.Test.YtilhnjecnhpmlaaGreatDoorSrtN
namespace Go.Proofs.YtilhnjecnhpmlaaGreatDoor
open Go.RowKit

set_option maxRecDepth 100000 in
set_option maxHeartbeats 16000000 in
theorem sorted_walk (d : Dat) (v : Value) (w : World) (P : Nat → Prop) (hP : ∀ b, P b → b < w.heap.size) (hR : RDP w P d v) (hT : Tabs w) :
    Calls Tryz.prog 4 #[v] w fun e w' => e = .returned (.bool true) ∧ Below w.heap.size w w' := by
  obtain ⟨ls, rfl, ll, lo⟩ := hR.agg
  match ls, ll, lo with
  | [y0, y1, y2, y3, y4, y5, y6, y7, y8, y9, y10], _, lo =>
  have S0 := SB.new w [y0, y1, y2, y3, y4, y5, y6, y7, y8, y9, y10] 30
  have BB := bal w (.cells #[y0, y1, y2, y3, y4, y5, y6, y7, y8, y9, y10] 30)
  have R0 : RDP _ P d _ := hR.step (fun z hz => BB.block z (hP z hz)) (fun z hz => hz)
  obtain ⟨W0, hW0⟩ : ∃ W0, W0 = w.alloc (.cells #[y0, y1, y2, y3, y4, y5, y6, y7, y8, y9, y10] 30) := ⟨_, rfl⟩
  have hN : w.heap.size + 1 ≤ W0.heap.size := by rw [hW0]; simp
  rw [← hW0] at S0 BB R0
  go_enter Tryz.func4, Tryz.ntmps4
  go_upto_region 1 with fail
  rw [← hW0]
  clear hW0 hR
  generalize hn : w.heap.size = n at *
  have ca := fun W hb hr ht => lsort_any d (.agg #[y0, y1, y2, y3, y4, y5, y6, y7, y8, y9, y10]) W P hb hr ht
  rw [(sort_ans d).1, (sort_ans d).2] at ca
  replace ca := Lib.hid ca
  have ka_0 := S0.cell 0; have ka_1 := S0.cell 1; have ka_2 := S0.cell 2; have ka_3 := S0.cell 3; have ka_4 := S0.cell 4; have ka_5 := S0.cell 5; have ka_6 := S0.cell 6; have ka_7 := S0.cell 7; have ka_8 := S0.cell 8; have ka_9 := S0.cell 9; have ka_10 := S0.cell 10
  go_wp2_with fail
  refine (ca.out W0 (fun z hz => by have := hP z hz; omega) R0 (hT.go hn BB)).mono ?_
  rintro e v1_ ⟨v1, rfl, R1, E1_⟩
  have R1 := R1.from_ (m := n + 1) hN
  clear ka_0 ka_1 ka_2 ka_3 ka_4 ka_5 ka_6 ka_7 ka_8 ka_9 ka_10
  have S0 := S0.nx E1_
  have R0 := R0.keeps hP (by omega) E1_
  have BB := BB.trans (E1_.mono (by omega))
  have hN := Nat.le_trans hN E1_.size
  clear E1_
  obtain ⟨cs, rfl, cl, co⟩ := R1.agg
  match cs, cl, co with
  | [a0, a1, a2, a3, a4, a5, a6, a7, a8, a9, a10], _, co =>
  have Sg := SB.new v1_ [.int .i64 0, .int .i64 0, .bool false, .slice none 0 0, .slice none 0 0, .bool false, .slice none 0 0, .slice none 0 0, .string { data := #[] }, .slice none 0 0, .slice none 0 0] 30
  obtain ⟨v2_, hv2_⟩ : ∃ v2_, v2_ = (v1_.alloc (.cells #[.int .i64 0, .int .i64 0, .bool false, .slice none 0 0, .slice none 0 0, .bool false, .slice none 0 0, .slice none 0 0, .string { data := #[] }, .slice none 0 0, .slice none 0 0] 30)).setCells v1_.heap.size 0 [a0, a1, a2, a3, a4, a5, a6, a7, a8, a9, a10] := ⟨_, rfl⟩
  have Bv2_ : Below v1_.heap.size v1_ v2_ := by rw [hv2_]; exact below_cso (bal v1_ _) (Nat.le_refl _) 0 [a0, a1, a2, a3, a4, a5, a6, a7, a8, a9, a10]
  have S3 : SB v2_ v1_.heap.size [a0, a1, a2, a3, a4, a5, a6, a7, a8, a9, a10] := by rw [hv2_]; exact Sg.cells [a0, a1, a2, a3, a4, a5, a6, a7, a8, a9, a10] rfl
  have hgv1_ : n + 1 ≤ v1_.heap.size := hN
  replace hv2_ := Lib.hid hv2_
  go_upto_region 2 with (refine wp_stD rfl rfl (.tmp 3) (.tmp 14) rfl v1_.heap.size rfl [a0, a1, a2, a3, a4, a5, a6, a7, a8, a9, a10] rfl rfl _ Sg rfl co ?_; rw [← hv2_.out]; clear hv2_)
  clear Sg co
  have S0 := S0.nx Bv2_
  have R0 := R0.keeps hP (by omega) Bv2_
  have BB := BB.trans (Bv2_.mono (by omega))
  have R1 := R1.go hP (by omega) Bv2_
  have hN := Nat.le_trans hN Bv2_.size
  clear Bv2_
  have ka_0 := S0.cell 0; have ka_1 := S0.cell 1; have ka_2 := S0.cell 2; have ka_3 := S0.cell 3; have ka_4 := S0.cell 4; have ka_5 := S0.cell 5; have ka_6 := S0.cell 6; have ka_7 := S0.cell 7; have ka_8 := S0.cell 8; have ka_9 := S0.cell 9; have ka_10 := S0.cell 10
  go_wp2_with fail
  refine (rsort_any d _ v2_ P (fun z hz => by have := hP z hz; omega) R0).mono ?_
  rintro e v3_ ⟨v2, rfl, R2, E3_⟩
  have R2 := R2.from_ (m := n + 1) hN
  clear ka_0 ka_1 ka_2 ka_3 ka_4 ka_5 ka_6 ka_7 ka_8 ka_9 ka_10
  have S0 := S0.nx E3_
  have R0 := R0.keeps hP (by omega) E3_
  have BB := BB.trans (E3_.mono (by omega))
  have R1 := R1.go hP (by omega) E3_
  have S3 := S3.nx E3_
  have hN := Nat.le_trans hN E3_.size
  clear E3_
  obtain ⟨cs, rfl, cl, co⟩ := R2.agg
  match cs, cl, co with
  | [b0, b1, b2, b3, b4, b5, b6, b7, b8, b9, b10], _, co =>
  have Sg := SB.new v3_ [.int .i64 0, .int .i64 0, .bool false, .slice none 0 0, .slice none 0 0, .bool false, .slice none 0 0, .slice none 0 0, .string { data := #[] }, .slice none 0 0, .slice none 0 0] 30
  obtain ⟨v4_, hv4_⟩ : ∃ v4_, v4_ = (v3_.alloc (.cells #[.int .i64 0, .int .i64 0, .bool false, .slice none 0 0, .slice none 0 0, .bool false, .slice none 0 0, .slice none 0 0, .string { data := #[] }, .slice none 0 0, .slice none 0 0] 30)).setCells v3_.heap.size 0 [b0, b1, b2, b3, b4, b5, b6, b7, b8, b9, b10] := ⟨_, rfl⟩
  have Bv4_ : Below v3_.heap.size v3_ v4_ := by rw [hv4_]; exact below_cso (bal v3_ _) (Nat.le_refl _) 0 [b0, b1, b2, b3, b4, b5, b6, b7, b8, b9, b10]
  have S5 : SB v4_ v3_.heap.size [b0, b1, b2, b3, b4, b5, b6, b7, b8, b9, b10] := by rw [hv4_]; exact Sg.cells [b0, b1, b2, b3, b4, b5, b6, b7, b8, b9, b10] rfl
  have hgv3_ : n + 1 ≤ v3_.heap.size := hN
  replace hv4_ := Lib.hid hv4_
  go_upto_region 3 with (refine wp_stD rfl rfl (.tmp 5) (.tmp 19) rfl v3_.heap.size rfl [b0, b1, b2, b3, b4, b5, b6, b7, b8, b9, b10] rfl rfl _ Sg rfl co ?_; rw [← hv4_.out]; clear hv4_)
  clear Sg co
  have S0 := S0.nx Bv4_
  have R0 := R0.keeps hP (by omega) Bv4_
  have BB := BB.trans (Bv4_.mono (by omega))
  have R1 := R1.go hP (by omega) Bv4_
  have S3 := S3.nx Bv4_
  have R2 := R2.go hP (by omega) Bv4_
  have hN := Nat.le_trans hN Bv4_.size
  clear Bv4_
  have ka_0 := S0.cell 0; have ka_1 := S0.cell 1; have ka_2 := S0.cell 2; have ka_3 := S0.cell 3; have ka_4 := S0.cell 4; have ka_5 := S0.cell 5; have ka_6 := S0.cell 6; have ka_7 := S0.cell 7; have ka_8 := S0.cell 8; have ka_9 := S0.cell 9; have ka_10 := S0.cell 10
  go_wp2_with fail
  refine (lsortby_any d _ v4_ P (fun z hz => by have := hP z hz; omega) R0 (hT.go hn BB)).mono ?_
  rintro e v5_ ⟨v3, rfl, R3, E5_⟩
  have R3 := R3.from_ (m := n + 1) hN
  clear ka_0 ka_1 ka_2 ka_3 ka_4 ka_5 ka_6 ka_7 ka_8 ka_9 ka_10
  have S0 := S0.nx E5_
  have R0 := R0.keeps hP (by omega) E5_
  have BB := BB.trans (E5_.mono (by omega))
  have R1 := R1.go hP (by omega) E5_
  have S3 := S3.nx E5_
  have R2 := R2.go hP (by omega) E5_
  have S5 := S5.nx E5_
  have hN := Nat.le_trans hN E5_.size
  clear E5_
  obtain ⟨cs, rfl, cl, co⟩ := R3.agg
  match cs, cl, co with
  | [f0, f1, f2, f3, f4, f5, f6, f7, f8, f9, f10], _, co =>
  have Sg := SB.new v5_ [.int .i64 0, .int .i64 0, .bool false, .slice none 0 0, .slice none 0 0, .bool false, .slice none 0 0, .slice none 0 0, .string { data := #[] }, .slice none 0 0, .slice none 0 0] 30
  obtain ⟨v6_, hv6_⟩ : ∃ v6_, v6_ = (v5_.alloc (.cells #[.int .i64 0, .int .i64 0, .bool false, .slice none 0 0, .slice none 0 0, .bool false, .slice none 0 0, .slice none 0 0, .string { data := #[] }, .slice none 0 0, .slice none 0 0] 30)).setCells v5_.heap.size 0 [f0, f1, f2, f3, f4, f5, f6, f7, f8, f9, f10] := ⟨_, rfl⟩
  have Bv6_ : Below v5_.heap.size v5_ v6_ := by rw [hv6_]; exact below_cso (bal v5_ _) (Nat.le_refl _) 0 [f0, f1, f2, f3, f4, f5, f6, f7, f8, f9, f10]
  have S7 : SB v6_ v5_.heap.size [f0, f1, f2, f3, f4, f5, f6, f7, f8, f9, f10] := by rw [hv6_]; exact Sg.cells [f0, f1, f2, f3, f4, f5, f6, f7, f8, f9, f10] rfl
  have hgv5_ : n + 1 ≤ v5_.heap.size := hN
  replace hv6_ := Lib.hid hv6_
  go_upto_region 4 with (refine wp_stD rfl rfl (.tmp 7) (.tmp 24) rfl v5_.heap.size rfl [f0, f1, f2, f3, f4, f5, f6, f7, f8, f9, f10] rfl rfl _ Sg rfl co ?_; rw [← hv6_.out]; clear hv6_)
  clear Sg co
  have S0 := S0.nx Bv6_
  have R0 := R0.keeps hP (by omega) Bv6_
  have BB := BB.trans (Bv6_.mono (by omega))
  have R1 := R1.go hP (by omega) Bv6_
  have S3 := S3.nx Bv6_
  have R2 := R2.go hP (by omega) Bv6_
  have S5 := S5.nx Bv6_
  have R3 := R3.go hP (by omega) Bv6_
  have hN := Nat.le_trans hN Bv6_.size
  clear Bv6_
  have ka_0 := S0.cell 0; have ka_1 := S0.cell 1; have ka_2 := S0.cell 2; have ka_3 := S0.cell 3; have ka_4 := S0.cell 4; have ka_5 := S0.cell 5; have ka_6 := S0.cell 6; have ka_7 := S0.cell 7; have ka_8 := S0.cell 8; have ka_9 := S0.cell 9; have ka_10 := S0.cell 10
  go_wp2_with fail
  refine (rsortby_any d _ v6_ P (fun z hz => by have := hP z hz; omega) R0).mono ?_
  rintro e v7_ ⟨v4, rfl, R4, E7_⟩
  have R4 := R4.from_ (m := n + 1) hN
  clear ka_0 ka_1 ka_2 ka_3 ka_4 ka_5 ka_6 ka_7 ka_8 ka_9 ka_10
  have S0 := S0.nx E7_
  have R0 := R0.keeps hP (by omega) E7_
  have BB := BB.trans (E7_.mono (by omega))
  have R1 := R1.go hP (by omega) E7_
  have S3 := S3.nx E7_
  have R2 := R2.go hP (by omega) E7_
  have S5 := S5.nx E7_
  have R3 := R3.go hP (by omega) E7_
  have S7 := S7.nx E7_
  have hN := Nat.le_trans hN E7_.size
  clear E7_
  obtain ⟨cs, rfl, cl, co⟩ := R4.agg
  match cs, cl, co with
  | [g0, g1, g2, g3, g4, g5, g6, g7, g8, g9, g10], _, co =>
  have Sg := SB.new v7_ [.int .i64 0, .int .i64 0, .bool false, .slice none 0 0, .slice none 0 0, .bool false, .slice none 0 0, .slice none 0 0, .string { data := #[] }, .slice none 0 0, .slice none 0 0] 30
  obtain ⟨v8_, hv8_⟩ : ∃ v8_, v8_ = (v7_.alloc (.cells #[.int .i64 0, .int .i64 0, .bool false, .slice none 0 0, .slice none 0 0, .bool false, .slice none 0 0, .slice none 0 0, .string { data := #[] }, .slice none 0 0, .slice none 0 0] 30)).setCells v7_.heap.size 0 [g0, g1, g2, g3, g4, g5, g6, g7, g8, g9, g10] := ⟨_, rfl⟩
  have Bv8_ : Below v7_.heap.size v7_ v8_ := by rw [hv8_]; exact below_cso (bal v7_ _) (Nat.le_refl _) 0 [g0, g1, g2, g3, g4, g5, g6, g7, g8, g9, g10]
  have S9 : SB v8_ v7_.heap.size [g0, g1, g2, g3, g4, g5, g6, g7, g8, g9, g10] := by rw [hv8_]; exact Sg.cells [g0, g1, g2, g3, g4, g5, g6, g7, g8, g9, g10] rfl
  have hgv7_ : n + 1 ≤ v7_.heap.size := hN
  replace hv8_ := Lib.hid hv8_
  go_upto_region 5 with (refine wp_stD rfl rfl (.tmp 9) (.tmp 29) rfl v7_.heap.size rfl [g0, g1, g2, g3, g4, g5, g6, g7, g8, g9, g10] rfl rfl _ Sg rfl co ?_; rw [← hv8_.out]; clear hv8_)
  clear Sg co
  have S0 := S0.nx Bv8_
  have R0 := R0.keeps hP (by omega) Bv8_
  have BB := BB.trans (Bv8_.mono (by omega))
  have R1 := R1.go hP (by omega) Bv8_
  have S3 := S3.nx Bv8_
  have R2 := R2.go hP (by omega) Bv8_
  have S5 := S5.nx Bv8_
  have R3 := R3.go hP (by omega) Bv8_
  have S7 := S7.nx Bv8_
  have R4 := R4.go hP (by omega) Bv8_
  have hN := Nat.le_trans hN Bv8_.size
  clear Bv8_
  clear ca
  have qa := same_yes (rfl : ransD d (sortD d) = ransD d (sortD d))
  have qr := same_yes (rfl : sbD d = sbD d)
  generalize listE d = e4 at *
  generalize sbE d = e3 at *
  generalize ransD d (sortD d) = t0 at *
  generalize sbD d = r0 at *
  replace qa := Lib.hid qa
  replace qr := Lib.hid qr
  go_wp2_with fail
  refine (awake11_any v8_ (hT.go hn BB)).mono ?_
  rintro e v9_ ⟨rfl, E9_⟩
  have S0 := S0.nx E9_
  have R0 := R0.keeps hP (by omega) E9_
  have BB := BB.trans (E9_.mono (by omega))
  have R1 := R1.go hP (by omega) E9_
  have S3 := S3.nx E9_
  have R2 := R2.go hP (by omega) E9_
  have S5 := S5.nx E9_
  have R3 := R3.go hP (by omega) E9_
  have S7 := S7.nx E9_
  have R4 := R4.go hP (by omega) E9_
  have S9 := S9.nx E9_
  have hN := Nat.le_trans hN E9_.size
  clear E9_
  have ka_0 := S3.cell 0; have ka_1 := S3.cell 1; have ka_2 := S3.cell 2; have ka_3 := S3.cell 3; have ka_4 := S3.cell 4; have ka_5 := S3.cell 5; have ka_6 := S3.cell 6; have ka_7 := S3.cell 7; have ka_8 := S3.cell 8; have ka_9 := S3.cell 9; have ka_10 := S3.cell 10
  have kb_0 := S5.cell 0; have kb_1 := S5.cell 1; have kb_2 := S5.cell 2; have kb_3 := S5.cell 3; have kb_4 := S5.cell 4; have kb_5 := S5.cell 5; have kb_6 := S5.cell 6; have kb_7 := S5.cell 7; have kb_8 := S5.cell 8; have kb_9 := S5.cell 9; have kb_10 := S5.cell 10
  have cs := rsame_go _ t0 t0 (Nat.le_refl _) _ _ v9_ (R1.rd (fun z hz => hz.lt hP (by omega))) (R2.rd (fun z hz => hz.lt hP (by omega)))
  rw [qa.out] at cs
  go_wp2_with fail
  refine (cs).mono ?_
  rintro e v10_ ⟨rfl, E10_⟩
  have S0 := S0.nx E10_
  have R0 := R0.keeps hP (by omega) E10_
  have BB := BB.trans (E10_.mono (by omega))
  have R1 := R1.go hP (by omega) E10_
  have S3 := S3.nx E10_
  have R2 := R2.go hP (by omega) E10_
  have S5 := S5.nx E10_
  have R3 := R3.go hP (by omega) E10_
  have S7 := S7.nx E10_
  have R4 := R4.go hP (by omega) E10_
  have S9 := S9.nx E10_
  have hN := Nat.le_trans hN E10_.size
  clear cs E10_
  clear ka_0 ka_1 ka_2 ka_3 ka_4 ka_5 ka_6 ka_7 ka_8 ka_9 ka_10 kb_0 kb_1 kb_2 kb_3 kb_4 kb_5 kb_6 kb_7 kb_8 kb_9 kb_10
  have ka_0 := S7.cell 0; have ka_1 := S7.cell 1; have ka_2 := S7.cell 2; have ka_3 := S7.cell 3; have ka_4 := S7.cell 4; have ka_5 := S7.cell 5; have ka_6 := S7.cell 6; have ka_7 := S7.cell 7; have ka_8 := S7.cell 8; have ka_9 := S7.cell 9; have ka_10 := S7.cell 10
  have kb_0 := S9.cell 0; have kb_1 := S9.cell 1; have kb_2 := S9.cell 2; have kb_3 := S9.cell 3; have kb_4 := S9.cell 4; have kb_5 := S9.cell 5; have kb_6 := S9.cell 6; have kb_7 := S9.cell 7; have kb_8 := S9.cell 8; have kb_9 := S9.cell 9; have kb_10 := S9.cell 10
  have cs := rsame_go _ r0 r0 (Nat.le_refl _) _ _ v10_ (R3.rd (fun z hz => hz.lt hP (by omega))) (R4.rd (fun z hz => hz.lt hP (by omega)))
  rw [qr.out] at cs
  go_wp2_with fail
  refine (cs).mono ?_
  rintro e v11_ ⟨rfl, E11_⟩
  have S0 := S0.nx E11_
  have R0 := R0.keeps hP (by omega) E11_
  have BB := BB.trans (E11_.mono (by omega))
  have R1 := R1.go hP (by omega) E11_
  have S3 := S3.nx E11_
  have R2 := R2.go hP (by omega) E11_
  have S5 := S5.nx E11_
  have R3 := R3.go hP (by omega) E11_
  have S7 := S7.nx E11_
  have R4 := R4.go hP (by omega) E11_
  have S9 := S9.nx E11_
  have hN := Nat.le_trans hN E11_.size
  clear cs E11_
  clear ka_0 ka_1 ka_2 ka_3 ka_4 ka_5 ka_6 ka_7 ka_8 ka_9 ka_10 kb_0 kb_1 kb_2 kb_3 kb_4 kb_5 kb_6 kb_7 kb_8 kb_9 kb_10
  go_wp2_with fail
  go_ret
  try rw [hn]
  exact ⟨by first | rfl | simp, BB⟩
theorem sorted_card (d : Dat) (vd : Value) (w : World) (hD : RD w w.heap.size d vd) (hT : Lib.Utf8Tabs (Tryz.lays196_ren.g 3) (Tryz.lays196_ren.g 4) w) :
    Calls Tryz.prog 4 #[vd] w fun e w' => e = .returned (.bool true) ∧ Below w.heap.size w w' := sorted_walk d vd w _ (fun _ h => h) hD.rdp hT

end Go.Proofs.YtilhnjecnhpmlaaGreatDoor
