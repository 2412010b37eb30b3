/- Walk: ListsMade. -/
import Derived.Test.YtilhnjecnhpmlaaDoorGN
namespace Go.Proofs.YtilhnjecnhpmlaaDoor
open Go.RowKit

set_option maxRecDepth 100000 in
set_option maxHeartbeats 16000000 in
theorem made_walk (A : Option Addr) (c : Nat) (l : List Dat) (d : Dat) (v : Value) (k : Int) (w : World) (P : Nat → Prop) (hP : ∀ b, P b → b < w.heap.size) (hL : RLs w P A c l) (hll : l.length ≤ 2000000) (hR : RDP w P d v) (hT : Tabs w) :
    Calls Tryd.prog 4 #[.slice A l.length c, v, .int .i64 k] w fun e w' => e = .returned (.bool true) ∧ Below w.heap.size w w' := by
  obtain ⟨ls, rfl, ll, lo⟩ := hR.agg
  match ls, ll, lo with
  | [y0, y1, y2, y3, y4, y5, y6, y7, y8, y9, y10], _, lo =>
  have S0 := SB.new w [y0, y1, y2, y3, y4, y5, y6, y7, y8, y9, y10] 31
  have BB := bal w (.cells #[y0, y1, y2, y3, y4, y5, y6, y7, y8, y9, y10] 31)
  have R0 : RDP _ P d _ := hR.step (fun z hz => BB.block z (hP z hz)) (fun z hz => hz)
  have L0 : RLs _ P A c l := hL.step (fun z hz => BB.block z (hP z hz)) (fun z hz => hz)
  obtain ⟨W0, hW0⟩ : ∃ W0, W0 = w.alloc (.cells #[y0, y1, y2, y3, y4, y5, y6, y7, y8, y9, y10] 31) := ⟨_, rfl⟩
  have hN : w.heap.size + 1 ≤ W0.heap.size := by rw [hW0]; simp
  rw [← hW0] at S0 BB R0 L0
  go_enter Tryd.func4, Tryd.ntmps4
  go_upto_region 1 with fail
  rw [← hW0]
  clear hW0 hR hL
  generalize hn : w.heap.size = n at *
  have k0 := S0.cell 0; have k1 := S0.cell 1; have k2 := S0.cell 2; have k3 := S0.cell 3; have k4 := S0.cell 4; have k5 := S0.cell 5; have k6 := S0.cell 6; have k7 := S0.cell 7; have k8 := S0.cell 8; have k9 := S0.cell 9; have k10 := S0.cell 10
  go_wp2_with fail
  refine (litemsAll_any d _ W0 P (fun z hz => by have := hP z hz; omega) R0 (hT.go hn BB)).mono ?_
  rintro e w1 ⟨A1, c1, rfl, L1, B1⟩
  have L1 := L1.from_ (m := n + 1) hN
  have S0 := S0.nx B1
  have R0 := R0.keeps hP (by omega) B1
  have L0 := L0.keeps hP (by omega) B1
  have BB := BB.trans (B1.mono (by omega))
  have hN := Nat.le_trans hN B1.size
  clear k0 k1 k2 k3 k4 k5 k6 k7 k8 k9 k10
  go_upto_region 2 with fail
  have k0 := S0.cell 0; have k1 := S0.cell 1; have k2 := S0.cell 2; have k3 := S0.cell 3; have k4 := S0.cell 4; have k5 := S0.cell 5; have k6 := S0.cell 6; have k7 := S0.cell 7; have k8 := S0.cell 8; have k9 := S0.cell 9; have k10 := S0.cell 10
  go_wp2_with fail
  refine (ritemsAll_any d _ w1 P (fun z hz => by have := hP z hz; omega) R0).mono ?_
  rintro e w2 ⟨A2, c2, rfl, O2, B2⟩
  have L2 := (O2.rls (by have := listL_len d; omega)).from_ (m := n + 1) hN
  have S0 := S0.nx B2
  have R0 := R0.keeps hP (by omega) B2
  have L0 := L0.keeps hP (by omega) B2
  have BB := BB.trans (B2.mono (by omega))
  have L1 := L1.go hP (by omega) B2
  have hN := Nat.le_trans hN B2.size
  clear k0 k1 k2 k3 k4 k5 k6 k7 k8 k9 k10
  clear O2
  go_upto_region 3 with fail
  go_wp2_with fail
  refine (lappend_any A c l w2 P (fun z hz => by have := hP z hz; omega) L0 hll (hT.go hn BB)).mono ?_
  rintro e w3 ⟨v3, rfl, R3, B3⟩
  have R3 := R3.from_ (m := n + 1) hN
  have S0 := S0.nx B3
  have R0 := R0.keeps hP (by omega) B3
  have L0 := L0.keeps hP (by omega) B3
  have BB := BB.trans (B3.mono (by omega))
  have L1 := L1.go hP (by omega) B3
  have L2 := L2.go hP (by omega) B3
  have hN := Nat.le_trans hN B3.size
  obtain ⟨cs, rfl, cl, co⟩ := R3.agg
  match cs, cl, co with
  | [a0, a1, a2, a3, a4, a5, a6, a7, a8, a9, a10], _, co =>
  have Sg := SB.new w3 [.int .i64 0, .int .i64 0, .bool false, .slice none 0 0, .slice none 0 0, .bool false, .slice none 0 0, .slice none 0 0, .string { data := #[] }, .slice none 0 0, .slice none 0 0] 31
  obtain ⟨w4, hw4⟩ : ∃ w4, w4 = (w3.alloc (.cells #[.int .i64 0, .int .i64 0, .bool false, .slice none 0 0, .slice none 0 0, .bool false, .slice none 0 0, .slice none 0 0, .string { data := #[] }, .slice none 0 0, .slice none 0 0] 31)).setCells w3.heap.size 0 [a0, a1, a2, a3, a4, a5, a6, a7, a8, a9, a10] := ⟨_, rfl⟩
  have Bw4 : Below w3.heap.size w3 w4 := by rw [hw4]; exact below_cso (bal w3 _) (Nat.le_refl _) 0 [a0, a1, a2, a3, a4, a5, a6, a7, a8, a9, a10]
  have S3 : SB w4 w3.heap.size [a0, a1, a2, a3, a4, a5, a6, a7, a8, a9, a10] := by rw [hw4]; exact Sg.cells [a0, a1, a2, a3, a4, a5, a6, a7, a8, a9, a10] rfl
  have hgw3 : n + 1 ≤ w3.heap.size := hN
  replace hw4 := Lib.hid hw4
  go_upto_region 4 with (refine wp_stD rfl rfl (.tmp 11) (.tmp 36) rfl w3.heap.size rfl [a0, a1, a2, a3, a4, a5, a6, a7, a8, a9, a10] rfl rfl _ Sg rfl co ?_; rw [← hw4.out]; clear hw4)
  clear Sg
  have S0 := S0.nx Bw4
  have R0 := R0.keeps hP (by omega) Bw4
  have L0 := L0.keeps hP (by omega) Bw4
  have BB := BB.trans (Bw4.mono (by omega))
  have L1 := L1.go hP (by omega) Bw4
  have L2 := L2.go hP (by omega) Bw4
  have R3 := R3.go hP (by omega) Bw4
  have hN := Nat.le_trans hN Bw4.size
  clear co
  go_wp2_with fail
  refine (rappend_any A c l w4 P (fun z hz => by have := hP z hz; omega) L0 hll).mono ?_
  rintro e w5 ⟨v4, rfl, R4, B5⟩
  have R4 := R4.from_ (m := n + 1) hN
  have S0 := S0.nx B5
  have R0 := R0.keeps hP (by omega) B5
  have L0 := L0.keeps hP (by omega) B5
  have BB := BB.trans (B5.mono (by omega))
  have L1 := L1.go hP (by omega) B5
  have L2 := L2.go hP (by omega) B5
  have R3 := R3.go hP (by omega) B5
  have S3 := S3.nx B5
  have hN := Nat.le_trans hN B5.size
  obtain ⟨cs, rfl, cl, co⟩ := R4.agg
  match cs, cl, co with
  | [b0, b1, b2, b3, b4, b5, b6, b7, b8, b9, b10], _, co =>
  have Sg := SB.new w5 [.int .i64 0, .int .i64 0, .bool false, .slice none 0 0, .slice none 0 0, .bool false, .slice none 0 0, .slice none 0 0, .string { data := #[] }, .slice none 0 0, .slice none 0 0] 31
  obtain ⟨w6, hw6⟩ : ∃ w6, w6 = (w5.alloc (.cells #[.int .i64 0, .int .i64 0, .bool false, .slice none 0 0, .slice none 0 0, .bool false, .slice none 0 0, .slice none 0 0, .string { data := #[] }, .slice none 0 0, .slice none 0 0] 31)).setCells w5.heap.size 0 [b0, b1, b2, b3, b4, b5, b6, b7, b8, b9, b10] := ⟨_, rfl⟩
  have Bw6 : Below w5.heap.size w5 w6 := by rw [hw6]; exact below_cso (bal w5 _) (Nat.le_refl _) 0 [b0, b1, b2, b3, b4, b5, b6, b7, b8, b9, b10]
  have S4 : SB w6 w5.heap.size [b0, b1, b2, b3, b4, b5, b6, b7, b8, b9, b10] := by rw [hw6]; exact Sg.cells [b0, b1, b2, b3, b4, b5, b6, b7, b8, b9, b10] rfl
  have hgw5 : n + 1 ≤ w5.heap.size := hN
  replace hw6 := Lib.hid hw6
  go_upto_region 5 with (refine wp_stD rfl rfl (.tmp 13) (.tmp 41) rfl w5.heap.size rfl [b0, b1, b2, b3, b4, b5, b6, b7, b8, b9, b10] rfl rfl _ Sg rfl co ?_; rw [← hw6.out]; clear hw6)
  clear Sg
  have S0 := S0.nx Bw6
  have R0 := R0.keeps hP (by omega) Bw6
  have L0 := L0.keeps hP (by omega) Bw6
  have BB := BB.trans (Bw6.mono (by omega))
  have L1 := L1.go hP (by omega) Bw6
  have L2 := L2.go hP (by omega) Bw6
  have R3 := R3.go hP (by omega) Bw6
  have S3 := S3.nx Bw6
  have R4 := R4.go hP (by omega) Bw6
  have hN := Nat.le_trans hN Bw6.size
  clear co
  have k0 := S0.cell 0; have k1 := S0.cell 1; have k2 := S0.cell 2; have k3 := S0.cell 3; have k4 := S0.cell 4; have k5 := S0.cell 5; have k6 := S0.cell 6; have k7 := S0.cell 7; have k8 := S0.cell 8; have k9 := S0.cell 9; have k10 := S0.cell 10
  go_wp2_with fail
  refine (lreverse_any d _ w6 P (fun z hz => by have := hP z hz; omega) R0 (hT.go hn BB)).mono ?_
  rintro e w7 ⟨v5, rfl, R5, B7⟩
  have R5 := R5.from_ (m := n + 1) hN
  have S0 := S0.nx B7
  have R0 := R0.keeps hP (by omega) B7
  have L0 := L0.keeps hP (by omega) B7
  have BB := BB.trans (B7.mono (by omega))
  have L1 := L1.go hP (by omega) B7
  have L2 := L2.go hP (by omega) B7
  have R3 := R3.go hP (by omega) B7
  have S3 := S3.nx B7
  have R4 := R4.go hP (by omega) B7
  have S4 := S4.nx B7
  have hN := Nat.le_trans hN B7.size
  clear k0 k1 k2 k3 k4 k5 k6 k7 k8 k9 k10
  obtain ⟨cs, rfl, cl, co⟩ := R5.agg
  match cs, cl, co with
  | [f0, f1, f2, f3, f4, f5, f6, f7, f8, f9, f10], _, co =>
  have Sg := SB.new w7 [.int .i64 0, .int .i64 0, .bool false, .slice none 0 0, .slice none 0 0, .bool false, .slice none 0 0, .slice none 0 0, .string { data := #[] }, .slice none 0 0, .slice none 0 0] 31
  obtain ⟨w8, hw8⟩ : ∃ w8, w8 = (w7.alloc (.cells #[.int .i64 0, .int .i64 0, .bool false, .slice none 0 0, .slice none 0 0, .bool false, .slice none 0 0, .slice none 0 0, .string { data := #[] }, .slice none 0 0, .slice none 0 0] 31)).setCells w7.heap.size 0 [f0, f1, f2, f3, f4, f5, f6, f7, f8, f9, f10] := ⟨_, rfl⟩
  have Bw8 : Below w7.heap.size w7 w8 := by rw [hw8]; exact below_cso (bal w7 _) (Nat.le_refl _) 0 [f0, f1, f2, f3, f4, f5, f6, f7, f8, f9, f10]
  have S5 : SB w8 w7.heap.size [f0, f1, f2, f3, f4, f5, f6, f7, f8, f9, f10] := by rw [hw8]; exact Sg.cells [f0, f1, f2, f3, f4, f5, f6, f7, f8, f9, f10] rfl
  have hgw7 : n + 1 ≤ w7.heap.size := hN
  replace hw8 := Lib.hid hw8
  go_upto_region 6 with (refine wp_stD rfl rfl (.tmp 15) (.tmp 46) rfl w7.heap.size rfl [f0, f1, f2, f3, f4, f5, f6, f7, f8, f9, f10] rfl rfl _ Sg rfl co ?_; rw [← hw8.out]; clear hw8)
  clear Sg
  have S0 := S0.nx Bw8
  have R0 := R0.keeps hP (by omega) Bw8
  have L0 := L0.keeps hP (by omega) Bw8
  have BB := BB.trans (Bw8.mono (by omega))
  have L1 := L1.go hP (by omega) Bw8
  have L2 := L2.go hP (by omega) Bw8
  have R3 := R3.go hP (by omega) Bw8
  have S3 := S3.nx Bw8
  have R4 := R4.go hP (by omega) Bw8
  have S4 := S4.nx Bw8
  have R5 := R5.go hP (by omega) Bw8
  have hN := Nat.le_trans hN Bw8.size
  clear co
  have k0 := S0.cell 0; have k1 := S0.cell 1; have k2 := S0.cell 2; have k3 := S0.cell 3; have k4 := S0.cell 4; have k5 := S0.cell 5; have k6 := S0.cell 6; have k7 := S0.cell 7; have k8 := S0.cell 8; have k9 := S0.cell 9; have k10 := S0.cell 10
  have cr := rreverse_any d _ w8 P (fun z hz => by have := hP z hz; omega) R0
  rw [(rans_eq d).1, (rans_eq d).2] at cr
  go_wp2_with fail
  refine (cr).mono ?_
  rintro e w9 ⟨v6, rfl, R6, B9⟩
  have R6 := R6.from_ (m := n + 1) hN
  have S0 := S0.nx B9
  have R0 := R0.keeps hP (by omega) B9
  have L0 := L0.keeps hP (by omega) B9
  have BB := BB.trans (B9.mono (by omega))
  have L1 := L1.go hP (by omega) B9
  have L2 := L2.go hP (by omega) B9
  have R3 := R3.go hP (by omega) B9
  have S3 := S3.nx B9
  have R4 := R4.go hP (by omega) B9
  have S4 := S4.nx B9
  have R5 := R5.go hP (by omega) B9
  have S5 := S5.nx B9
  have hN := Nat.le_trans hN B9.size
  clear cr
  clear k0 k1 k2 k3 k4 k5 k6 k7 k8 k9 k10
  obtain ⟨cs, rfl, cl, co⟩ := R6.agg
  match cs, cl, co with
  | [g0, g1, g2, g3, g4, g5, g6, g7, g8, g9, g10], _, co =>
  have Sg := SB.new w9 [.int .i64 0, .int .i64 0, .bool false, .slice none 0 0, .slice none 0 0, .bool false, .slice none 0 0, .slice none 0 0, .string { data := #[] }, .slice none 0 0, .slice none 0 0] 31
  obtain ⟨w10, hw10⟩ : ∃ w10, w10 = (w9.alloc (.cells #[.int .i64 0, .int .i64 0, .bool false, .slice none 0 0, .slice none 0 0, .bool false, .slice none 0 0, .slice none 0 0, .string { data := #[] }, .slice none 0 0, .slice none 0 0] 31)).setCells w9.heap.size 0 [g0, g1, g2, g3, g4, g5, g6, g7, g8, g9, g10] := ⟨_, rfl⟩
  have Bw10 : Below w9.heap.size w9 w10 := by rw [hw10]; exact below_cso (bal w9 _) (Nat.le_refl _) 0 [g0, g1, g2, g3, g4, g5, g6, g7, g8, g9, g10]
  have S6 : SB w10 w9.heap.size [g0, g1, g2, g3, g4, g5, g6, g7, g8, g9, g10] := by rw [hw10]; exact Sg.cells [g0, g1, g2, g3, g4, g5, g6, g7, g8, g9, g10] rfl
  have hgw9 : n + 1 ≤ w9.heap.size := hN
  replace hw10 := Lib.hid hw10
  go_upto_region 7 with (refine wp_stD rfl rfl (.tmp 17) (.tmp 51) rfl w9.heap.size rfl [g0, g1, g2, g3, g4, g5, g6, g7, g8, g9, g10] rfl rfl _ Sg rfl co ?_; rw [← hw10.out]; clear hw10)
  clear Sg
  have S0 := S0.nx Bw10
  have R0 := R0.keeps hP (by omega) Bw10
  have L0 := L0.keeps hP (by omega) Bw10
  have BB := BB.trans (Bw10.mono (by omega))
  have L1 := L1.go hP (by omega) Bw10
  have L2 := L2.go hP (by omega) Bw10
  have R3 := R3.go hP (by omega) Bw10
  have S3 := S3.nx Bw10
  have R4 := R4.go hP (by omega) Bw10
  have S4 := S4.nx Bw10
  have R5 := R5.go hP (by omega) Bw10
  have S5 := S5.nx Bw10
  have R6 := R6.go hP (by omega) Bw10
  have hN := Nat.le_trans hN Bw10.size
  clear co
  have k0 := S0.cell 0; have k1 := S0.cell 1; have k2 := S0.cell 2; have k3 := S0.cell 3; have k4 := S0.cell 4; have k5 := S0.cell 5; have k6 := S0.cell 6; have k7 := S0.cell 7; have k8 := S0.cell 8; have k9 := S0.cell 9; have k10 := S0.cell 10
  go_wp2_with fail
  refine (ltail_any d _ k w10 P (fun z hz => by have := hP z hz; omega) R0 (hT.go hn BB)).mono ?_
  rintro e w11 ⟨v7, rfl, R7, B11⟩
  have R7 := R7.from_ (m := n + 1) hN
  have S0 := S0.nx B11
  have R0 := R0.keeps hP (by omega) B11
  have L0 := L0.keeps hP (by omega) B11
  have BB := BB.trans (B11.mono (by omega))
  have L1 := L1.go hP (by omega) B11
  have L2 := L2.go hP (by omega) B11
  have R3 := R3.go hP (by omega) B11
  have S3 := S3.nx B11
  have R4 := R4.go hP (by omega) B11
  have S4 := S4.nx B11
  have R5 := R5.go hP (by omega) B11
  have S5 := S5.nx B11
  have R6 := R6.go hP (by omega) B11
  have S6 := S6.nx B11
  have hN := Nat.le_trans hN B11.size
  clear k0 k1 k2 k3 k4 k5 k6 k7 k8 k9 k10
  obtain ⟨cs, rfl, cl, co⟩ := R7.agg
  match cs, cl, co with
  | [h0, h1, h2, h3, h4, h5, h6, h7, h8, h9, h10], _, co =>
  have Sg := SB.new w11 [.int .i64 0, .int .i64 0, .bool false, .slice none 0 0, .slice none 0 0, .bool false, .slice none 0 0, .slice none 0 0, .string { data := #[] }, .slice none 0 0, .slice none 0 0] 31
  obtain ⟨w12, hw12⟩ : ∃ w12, w12 = (w11.alloc (.cells #[.int .i64 0, .int .i64 0, .bool false, .slice none 0 0, .slice none 0 0, .bool false, .slice none 0 0, .slice none 0 0, .string { data := #[] }, .slice none 0 0, .slice none 0 0] 31)).setCells w11.heap.size 0 [h0, h1, h2, h3, h4, h5, h6, h7, h8, h9, h10] := ⟨_, rfl⟩
  have Bw12 : Below w11.heap.size w11 w12 := by rw [hw12]; exact below_cso (bal w11 _) (Nat.le_refl _) 0 [h0, h1, h2, h3, h4, h5, h6, h7, h8, h9, h10]
  have S7 : SB w12 w11.heap.size [h0, h1, h2, h3, h4, h5, h6, h7, h8, h9, h10] := by rw [hw12]; exact Sg.cells [h0, h1, h2, h3, h4, h5, h6, h7, h8, h9, h10] rfl
  have hgw11 : n + 1 ≤ w11.heap.size := hN
  replace hw12 := Lib.hid hw12
  go_upto_region 8 with (refine wp_stD rfl rfl (.tmp 19) (.tmp 57) rfl w11.heap.size rfl [h0, h1, h2, h3, h4, h5, h6, h7, h8, h9, h10] rfl rfl _ Sg rfl co ?_; rw [← hw12.out]; clear hw12)
  clear Sg
  have S0 := S0.nx Bw12
  have R0 := R0.keeps hP (by omega) Bw12
  have L0 := L0.keeps hP (by omega) Bw12
  have BB := BB.trans (Bw12.mono (by omega))
  have L1 := L1.go hP (by omega) Bw12
  have L2 := L2.go hP (by omega) Bw12
  have R3 := R3.go hP (by omega) Bw12
  have S3 := S3.nx Bw12
  have R4 := R4.go hP (by omega) Bw12
  have S4 := S4.nx Bw12
  have R5 := R5.go hP (by omega) Bw12
  have S5 := S5.nx Bw12
  have R6 := R6.go hP (by omega) Bw12
  have S6 := S6.nx Bw12
  have R7 := R7.go hP (by omega) Bw12
  have hN := Nat.le_trans hN Bw12.size
  clear co
  have k0 := S0.cell 0; have k1 := S0.cell 1; have k2 := S0.cell 2; have k3 := S0.cell 3; have k4 := S0.cell 4; have k5 := S0.cell 5; have k6 := S0.cell 6; have k7 := S0.cell 7; have k8 := S0.cell 8; have k9 := S0.cell 9; have k10 := S0.cell 10
  have cr := rtailAll_any d _ k w12 P (fun z hz => by have := hP z hz; omega) R0
  rw [(rtail_eq d k).1, (rtail_eq d k).2] at cr
  go_wp2_with fail
  refine (cr).mono ?_
  rintro e w13 ⟨v8, rfl, R8, B13⟩
  have R8 := R8.from_ (m := n + 1) hN
  have S0 := S0.nx B13
  have R0 := R0.keeps hP (by omega) B13
  have L0 := L0.keeps hP (by omega) B13
  have BB := BB.trans (B13.mono (by omega))
  have L1 := L1.go hP (by omega) B13
  have L2 := L2.go hP (by omega) B13
  have R3 := R3.go hP (by omega) B13
  have S3 := S3.nx B13
  have R4 := R4.go hP (by omega) B13
  have S4 := S4.nx B13
  have R5 := R5.go hP (by omega) B13
  have S5 := S5.nx B13
  have R6 := R6.go hP (by omega) B13
  have S6 := S6.nx B13
  have R7 := R7.go hP (by omega) B13
  have S7 := S7.nx B13
  have hN := Nat.le_trans hN B13.size
  clear cr
  clear k0 k1 k2 k3 k4 k5 k6 k7 k8 k9 k10
  obtain ⟨cs, rfl, cl, co⟩ := R8.agg
  match cs, cl, co with
  | [i0, i1, i2, i3, i4, i5, i6, i7, i8, i9, i10], _, co =>
  have Sg := SB.new w13 [.int .i64 0, .int .i64 0, .bool false, .slice none 0 0, .slice none 0 0, .bool false, .slice none 0 0, .slice none 0 0, .string { data := #[] }, .slice none 0 0, .slice none 0 0] 31
  obtain ⟨w14, hw14⟩ : ∃ w14, w14 = (w13.alloc (.cells #[.int .i64 0, .int .i64 0, .bool false, .slice none 0 0, .slice none 0 0, .bool false, .slice none 0 0, .slice none 0 0, .string { data := #[] }, .slice none 0 0, .slice none 0 0] 31)).setCells w13.heap.size 0 [i0, i1, i2, i3, i4, i5, i6, i7, i8, i9, i10] := ⟨_, rfl⟩
  have Bw14 : Below w13.heap.size w13 w14 := by rw [hw14]; exact below_cso (bal w13 _) (Nat.le_refl _) 0 [i0, i1, i2, i3, i4, i5, i6, i7, i8, i9, i10]
  have S8 : SB w14 w13.heap.size [i0, i1, i2, i3, i4, i5, i6, i7, i8, i9, i10] := by rw [hw14]; exact Sg.cells [i0, i1, i2, i3, i4, i5, i6, i7, i8, i9, i10] rfl
  have hgw13 : n + 1 ≤ w13.heap.size := hN
  replace hw14 := Lib.hid hw14
  go_upto_region 9 with (refine wp_stD rfl rfl (.tmp 21) (.tmp 63) rfl w13.heap.size rfl [i0, i1, i2, i3, i4, i5, i6, i7, i8, i9, i10] rfl rfl _ Sg rfl co ?_; rw [← hw14.out]; clear hw14)
  clear Sg
  have S0 := S0.nx Bw14
  have R0 := R0.keeps hP (by omega) Bw14
  have L0 := L0.keeps hP (by omega) Bw14
  have BB := BB.trans (Bw14.mono (by omega))
  have L1 := L1.go hP (by omega) Bw14
  have L2 := L2.go hP (by omega) Bw14
  have R3 := R3.go hP (by omega) Bw14
  have S3 := S3.nx Bw14
  have R4 := R4.go hP (by omega) Bw14
  have S4 := S4.nx Bw14
  have R5 := R5.go hP (by omega) Bw14
  have S5 := S5.nx Bw14
  have R6 := R6.go hP (by omega) Bw14
  have S6 := S6.nx Bw14
  have R7 := R7.go hP (by omega) Bw14
  have S7 := S7.nx Bw14
  have R8 := R8.go hP (by omega) Bw14
  have hN := Nat.le_trans hN Bw14.size
  clear co
  have qs := same_yes (rfl : ofD l = ofD l)
  have qa := same_yes (rfl : appD l = appD l)
  have qr := same_yes (rfl : ansD d (revD d) = ansD d (revD d))
  have qt := same_yes (rfl : tailD d k = tailD d k)
  have ql := sameA_iff.2 (rfl : listL d = listL d)
  generalize tailE d k = e4 at *
  generalize ansE d (revD d) = e3 at *
  generalize appE l = e2 at *
  generalize listE d = e1 at *
  generalize tailD d k = t0 at *
  generalize ansD d (revD d) = r0 at *
  generalize appD l = p0 at *
  replace qs := Lib.hid qs
  replace qa := Lib.hid qa
  replace qr := Lib.hid qr
  replace qt := Lib.hid qt
  replace ql := Lib.hid ql
  go_wp2_with fail
  refine (awake11_any w14 (hT.go hn BB)).mono ?_
  rintro e w15 ⟨rfl, B15⟩
  have S0 := S0.nx B15
  have R0 := R0.keeps hP (by omega) B15
  have L0 := L0.keeps hP (by omega) B15
  have BB := BB.trans (B15.mono (by omega))
  have L1 := L1.go hP (by omega) B15
  have L2 := L2.go hP (by omega) B15
  have R3 := R3.go hP (by omega) B15
  have S3 := S3.nx B15
  have R4 := R4.go hP (by omega) B15
  have S4 := S4.nx B15
  have R5 := R5.go hP (by omega) B15
  have S5 := S5.nx B15
  have R6 := R6.go hP (by omega) B15
  have S6 := S6.nx B15
  have R7 := R7.go hP (by omega) B15
  have S7 := S7.nx B15
  have R8 := R8.go hP (by omega) B15
  have S8 := S8.nx B15
  have hN := Nat.le_trans hN B15.size
  go_wp2_with fail
  refine (lof_any A c l w15 P (fun z hz => by have := hP z hz; omega) L0 (hT.go hn BB)).mono ?_
  rintro e w16 ⟨v9, rfl, R9, B16⟩
  have R9 := R9.from_ (m := n + 1) hN
  have S0 := S0.nx B16
  have R0 := R0.keeps hP (by omega) B16
  have L0 := L0.keeps hP (by omega) B16
  have BB := BB.trans (B16.mono (by omega))
  have L1 := L1.go hP (by omega) B16
  have L2 := L2.go hP (by omega) B16
  have R3 := R3.go hP (by omega) B16
  have S3 := S3.nx B16
  have R4 := R4.go hP (by omega) B16
  have S4 := S4.nx B16
  have R5 := R5.go hP (by omega) B16
  have S5 := S5.nx B16
  have R6 := R6.go hP (by omega) B16
  have S6 := S6.nx B16
  have R7 := R7.go hP (by omega) B16
  have S7 := S7.nx B16
  have R8 := R8.go hP (by omega) B16
  have S8 := S8.nx B16
  have hN := Nat.le_trans hN B16.size
  go_wp2_with fail
  refine (rlof_any A c l w16 P (fun z hz => by have := hP z hz; omega) L0).mono ?_
  rintro e w17 ⟨v10, rfl, R10, B17⟩
  have R10 := R10.from_ (m := n + 1) hN
  have S0 := S0.nx B17
  have R0 := R0.keeps hP (by omega) B17
  have L0 := L0.keeps hP (by omega) B17
  have BB := BB.trans (B17.mono (by omega))
  have L1 := L1.go hP (by omega) B17
  have L2 := L2.go hP (by omega) B17
  have R3 := R3.go hP (by omega) B17
  have S3 := S3.nx B17
  have R4 := R4.go hP (by omega) B17
  have S4 := S4.nx B17
  have R5 := R5.go hP (by omega) B17
  have S5 := S5.nx B17
  have R6 := R6.go hP (by omega) B17
  have S6 := S6.nx B17
  have R7 := R7.go hP (by omega) B17
  have S7 := S7.nx B17
  have R8 := R8.go hP (by omega) B17
  have S8 := S8.nx B17
  have R9 := R9.go hP (by omega) B17
  have hN := Nat.le_trans hN B17.size
  have cs := rsame_go _ (ofD l) (ofD l) (Nat.le_refl _) _ _ w17 (R9.rd (fun z hz => hz.lt hP (by omega))) (R10.rd (fun z hz => hz.lt hP (by omega)))
  rw [qs.out] at cs
  go_wp2_with fail
  refine (cs).mono ?_
  rintro e w18 ⟨rfl, B18⟩
  have S0 := S0.nx B18
  have R0 := R0.keeps hP (by omega) B18
  have L0 := L0.keeps hP (by omega) B18
  have BB := BB.trans (B18.mono (by omega))
  have L1 := L1.go hP (by omega) B18
  have L2 := L2.go hP (by omega) B18
  have R3 := R3.go hP (by omega) B18
  have S3 := S3.nx B18
  have R4 := R4.go hP (by omega) B18
  have S4 := S4.nx B18
  have R5 := R5.go hP (by omega) B18
  have S5 := S5.nx B18
  have R6 := R6.go hP (by omega) B18
  have S6 := S6.nx B18
  have R7 := R7.go hP (by omega) B18
  have S7 := S7.nx B18
  have R8 := R8.go hP (by omega) B18
  have S8 := S8.nx B18
  have R9 := R9.go hP (by omega) B18
  have hN := Nat.le_trans hN B18.size
  clear cs R10 R9
  have cs := rsameAll_any A1 A2 c1 c2 (listL d) (listL d) w18 (Out P (n + 1) w18) (Out.all hP (by omega)) L1 L2
  rw [ql.out] at cs
  go_wp2_with fail
  refine (cs).mono ?_
  rintro e w19 ⟨rfl, B19⟩
  have S0 := S0.nx B19
  have R0 := R0.keeps hP (by omega) B19
  have L0 := L0.keeps hP (by omega) B19
  have BB := BB.trans (B19.mono (by omega))
  have L1 := L1.go hP (by omega) B19
  have L2 := L2.go hP (by omega) B19
  have R3 := R3.go hP (by omega) B19
  have S3 := S3.nx B19
  have R4 := R4.go hP (by omega) B19
  have S4 := S4.nx B19
  have R5 := R5.go hP (by omega) B19
  have S5 := S5.nx B19
  have R6 := R6.go hP (by omega) B19
  have S6 := S6.nx B19
  have R7 := R7.go hP (by omega) B19
  have S7 := S7.nx B19
  have R8 := R8.go hP (by omega) B19
  have S8 := S8.nx B19
  have hN := Nat.le_trans hN B19.size
  clear cs
  have j0 := S3.cell 0; have j1 := S3.cell 1; have j2 := S3.cell 2; have j3 := S3.cell 3; have j4 := S3.cell 4; have j5 := S3.cell 5; have j6 := S3.cell 6; have j7 := S3.cell 7; have j8 := S3.cell 8; have j9 := S3.cell 9; have j10 := S3.cell 10; have k0 := S4.cell 0; have k1 := S4.cell 1; have k2 := S4.cell 2; have k3 := S4.cell 3; have k4 := S4.cell 4; have k5 := S4.cell 5; have k6 := S4.cell 6; have k7 := S4.cell 7; have k8 := S4.cell 8; have k9 := S4.cell 9; have k10 := S4.cell 10
  have cs := rsame_go _ p0 p0 (Nat.le_refl _) _ _ w19 (R3.rd (fun z hz => hz.lt hP (by omega))) (R4.rd (fun z hz => hz.lt hP (by omega)))
  rw [qa.out] at cs
  go_wp2_with fail
  refine (cs).mono ?_
  rintro e w20 ⟨rfl, B20⟩
  have S0 := S0.nx B20
  have R0 := R0.keeps hP (by omega) B20
  have L0 := L0.keeps hP (by omega) B20
  have BB := BB.trans (B20.mono (by omega))
  have L1 := L1.go hP (by omega) B20
  have L2 := L2.go hP (by omega) B20
  have R3 := R3.go hP (by omega) B20
  have S3 := S3.nx B20
  have R4 := R4.go hP (by omega) B20
  have S4 := S4.nx B20
  have R5 := R5.go hP (by omega) B20
  have S5 := S5.nx B20
  have R6 := R6.go hP (by omega) B20
  have S6 := S6.nx B20
  have R7 := R7.go hP (by omega) B20
  have S7 := S7.nx B20
  have R8 := R8.go hP (by omega) B20
  have S8 := S8.nx B20
  have hN := Nat.le_trans hN B20.size
  clear cs
  clear j0 k0 j1 k1 j2 k2 j3 k3 j4 k4 j5 k5 j6 k6 j7 k7 j8 k8 j9 k9 j10 k10
  have j0 := S5.cell 0; have j1 := S5.cell 1; have j2 := S5.cell 2; have j3 := S5.cell 3; have j4 := S5.cell 4; have j5 := S5.cell 5; have j6 := S5.cell 6; have j7 := S5.cell 7; have j8 := S5.cell 8; have j9 := S5.cell 9; have j10 := S5.cell 10; have k0 := S6.cell 0; have k1 := S6.cell 1; have k2 := S6.cell 2; have k3 := S6.cell 3; have k4 := S6.cell 4; have k5 := S6.cell 5; have k6 := S6.cell 6; have k7 := S6.cell 7; have k8 := S6.cell 8; have k9 := S6.cell 9; have k10 := S6.cell 10
  have cs := rsame_go _ r0 r0 (Nat.le_refl _) _ _ w20 (R5.rd (fun z hz => hz.lt hP (by omega))) (R6.rd (fun z hz => hz.lt hP (by omega)))
  rw [qr.out] at cs
  go_wp2_with fail
  refine (cs).mono ?_
  rintro e w21 ⟨rfl, B21⟩
  have S0 := S0.nx B21
  have R0 := R0.keeps hP (by omega) B21
  have L0 := L0.keeps hP (by omega) B21
  have BB := BB.trans (B21.mono (by omega))
  have L1 := L1.go hP (by omega) B21
  have L2 := L2.go hP (by omega) B21
  have R3 := R3.go hP (by omega) B21
  have S3 := S3.nx B21
  have R4 := R4.go hP (by omega) B21
  have S4 := S4.nx B21
  have R5 := R5.go hP (by omega) B21
  have S5 := S5.nx B21
  have R6 := R6.go hP (by omega) B21
  have S6 := S6.nx B21
  have R7 := R7.go hP (by omega) B21
  have S7 := S7.nx B21
  have R8 := R8.go hP (by omega) B21
  have S8 := S8.nx B21
  have hN := Nat.le_trans hN B21.size
  clear cs
  clear j0 k0 j1 k1 j2 k2 j3 k3 j4 k4 j5 k5 j6 k6 j7 k7 j8 k8 j9 k9 j10 k10
  have j0 := S7.cell 0; have j1 := S7.cell 1; have j2 := S7.cell 2; have j3 := S7.cell 3; have j4 := S7.cell 4; have j5 := S7.cell 5; have j6 := S7.cell 6; have j7 := S7.cell 7; have j8 := S7.cell 8; have j9 := S7.cell 9; have j10 := S7.cell 10; have k0 := S8.cell 0; have k1 := S8.cell 1; have k2 := S8.cell 2; have k3 := S8.cell 3; have k4 := S8.cell 4; have k5 := S8.cell 5; have k6 := S8.cell 6; have k7 := S8.cell 7; have k8 := S8.cell 8; have k9 := S8.cell 9; have k10 := S8.cell 10
  have cs := rsame_go _ t0 t0 (Nat.le_refl _) _ _ w21 (R7.rd (fun z hz => hz.lt hP (by omega))) (R8.rd (fun z hz => hz.lt hP (by omega)))
  rw [qt.out] at cs
  go_wp2_with fail
  refine (cs).mono ?_
  rintro e w22 ⟨rfl, B22⟩
  have S0 := S0.nx B22
  have R0 := R0.keeps hP (by omega) B22
  have L0 := L0.keeps hP (by omega) B22
  have BB := BB.trans (B22.mono (by omega))
  have L1 := L1.go hP (by omega) B22
  have L2 := L2.go hP (by omega) B22
  have R3 := R3.go hP (by omega) B22
  have S3 := S3.nx B22
  have R4 := R4.go hP (by omega) B22
  have S4 := S4.nx B22
  have R5 := R5.go hP (by omega) B22
  have S5 := S5.nx B22
  have R6 := R6.go hP (by omega) B22
  have S6 := S6.nx B22
  have R7 := R7.go hP (by omega) B22
  have S7 := S7.nx B22
  have R8 := R8.go hP (by omega) B22
  have S8 := S8.nx B22
  have hN := Nat.le_trans hN B22.size
  clear cs
  clear j0 k0 j1 k1 j2 k2 j3 k3 j4 k4 j5 k5 j6 k6 j7 k7 j8 k8 j9 k9 j10 k10
  go_wp2_with fail
  go_ret
  try rw [hn]
  exact ⟨rfl, BB⟩

theorem made_card (A : Option Addr) (c : Nat) (l : List Dat) (d : Dat) (v : Value) (k : Int) (w : World) (hL : RLs w (fun b => b < w.heap.size) A c l) (hll : l.length ≤ 1048576) (hR : RD w w.heap.size d v) (hT : Lib.Utf8Tabs (Tryd.lays196_ren.g 3) (Tryd.lays196_ren.g 4) w) :
    Calls Tryd.prog 4 #[.slice A l.length c, v, .int .i64 k] w fun e w' => e = .returned (.bool true) ∧ Below w.heap.size w w' := made_walk A c l d v k w _ (fun _ h => h) hL (by omega) hR.rdp hT
end Go.Proofs.YtilhnjecnhpmlaaDoor
