/- Walk: ListsJoins. -/
import Derived.Test.YtilhnjecnhpmlaaDoorGN
namespace Go.Proofs.YtilhnjecnhpmlaaDoor
open Go.RowKit

set_option maxRecDepth 100000 in
set_option maxHeartbeats 32000000 in
theorem joins_walk (A1 A2 A3 : Option Addr) (c1 c2 c3 : Nat) (a b c : List Dat) (w : World) (P : Nat → Prop) (hP : ∀ b, P b → b < w.heap.size) (hA : RLs w P A1 c1 a) (hB : RLs w P A2 c2 b) (hC : RLs w P A3 c3 c) (hT : Tabs w) :
    Calls Tryd.prog 3 #[.slice A1 a.length c1, .slice A2 b.length c2, .slice A3 c.length c3] w fun e w' => e = .returned (.bool true) ∧ Below w.heap.size w w' := by
  have BB := Below.refl w.heap.size w
  have hN : w.heap.size ≤ w.heap.size := Nat.le_refl _
  have b1 := hA.2.1
  have b2 := hB.2.1
  have b3 := hC.2.1
  go_enter Tryd.func3, Tryd.ntmps3
  obtain ⟨n, hn⟩ : ∃ n, Hid (w.heap.size = n) := ⟨_, Lib.hid rfl⟩
  have hn := hn.out
  rw [hn] at BB hP
  have hN : n ≤ w.heap.size := by omega
  replace hn := Lib.hid hn
  by_cases hs : (a.length : Int) + (b.length : Int) + (c.length : Int) ≤ 200
  · have hs1 : ¬ (200 : Int) < (a.length : Int) + (b.length : Int) + (c.length : Int) := by omega
    go_upto_region 3 with fail
    clear hs1
    replace hn := hn.out
    go_wp2_with fail
    refine (lof_any A1 c1 a w P (fun z hz => by have := hP z hz; omega) hA (hT.go hn BB)).mono ?_
    rintro e v1_ ⟨vx, rfl, RX, E1_⟩
    have RX := RX.from_ (m := n) hN
    have hA := hA.keeps hP (by omega) E1_
    have hB := hB.keeps hP (by omega) E1_
    have hC := hC.keeps hP (by omega) E1_
    have BB := BB.trans (E1_.mono (by omega))
    have hN := Nat.le_trans hN E1_.size
    clear E1_
    go_wp2_with fail
    refine (lof_any A2 c2 b v1_ P (fun z hz => by have := hP z hz; omega) hB (hT.go hn BB)).mono ?_
    rintro e v2_ ⟨vy, rfl, RY, E2_⟩
    have RY := RY.from_ (m := n) hN
    have hA := hA.keeps hP (by omega) E2_
    have hB := hB.keeps hP (by omega) E2_
    have hC := hC.keeps hP (by omega) E2_
    have BB := BB.trans (E2_.mono (by omega))
    have RX := RX.go hP (by omega) E2_
    have hN := Nat.le_trans hN E2_.size
    clear E2_
    go_wp2_with fail
    refine (lof_any A3 c3 c v2_ P (fun z hz => by have := hP z hz; omega) hC (hT.go hn BB)).mono ?_
    rintro e v3_ ⟨vz, rfl, RZ, E3_⟩
    have RZ := RZ.from_ (m := n) hN
    have hA := hA.keeps hP (by omega) E3_
    have hB := hB.keeps hP (by omega) E3_
    have hC := hC.keeps hP (by omega) E3_
    have BB := BB.trans (E3_.mono (by omega))
    have RX := RX.go hP (by omega) E3_
    have RY := RY.go hP (by omega) E3_
    have hN := Nat.le_trans hN E3_.size
    clear E3_
    clear hA hB hC
    obtain ⟨cs, rfl, cl, co⟩ := RX.agg
    match cs, cl, co with
    | [a0, a1, a2, a3, a4, a5, a6, a7, a8, a9, a10], _, ox =>
    obtain ⟨cs, rfl, cl, co⟩ := RY.agg
    match cs, cl, co with
    | [b0, b1, b2, b3, b4, b5, b6, b7, b8, b9, b10], _, oy =>
    obtain ⟨cs, rfl, cl, co⟩ := RZ.agg
    match cs, cl, co with
    | [f0, f1, f2, f3, f4, f5, f6, f7, f8, f9, f10], _, oz =>
    obtain ⟨W3, hW3⟩ : ∃ W3, W3 = (((v3_).alloc (.cells #[.int .i64 0, .int .i64 0, .bool false, .slice none 0 0, .slice none 0 0, .bool false, .slice none 0 0, .slice none 0 0, .string { data := #[] }, .slice none 0 0, .slice none 0 0] 31)).alloc (.cells #[.int .i64 0, .int .i64 0, .bool false, .slice none 0 0, .slice none 0 0, .bool false, .slice none 0 0, .slice none 0 0, .string { data := #[] }, .slice none 0 0, .slice none 0 0] 31)).alloc (.cells #[.int .i64 0, .int .i64 0, .bool false, .slice none 0 0, .slice none 0 0, .bool false, .slice none 0 0, .slice none 0 0, .string { data := #[] }, .slice none 0 0, .slice none 0 0] 31) := ⟨_, rfl⟩
    have BZ := (((Below.refl (v3_).heap.size v3_).alloc (Nat.le_refl _) (.cells #[.int .i64 0, .int .i64 0, .bool false, .slice none 0 0, .slice none 0 0, .bool false, .slice none 0 0, .slice none 0 0, .string { data := #[] }, .slice none 0 0, .slice none 0 0] 31)).alloc (by simp) (.cells #[.int .i64 0, .int .i64 0, .bool false, .slice none 0 0, .slice none 0 0, .bool false, .slice none 0 0, .slice none 0 0, .string { data := #[] }, .slice none 0 0, .slice none 0 0] 31)).alloc (by simp; omega) (.cells #[.int .i64 0, .int .i64 0, .bool false, .slice none 0 0, .slice none 0 0, .bool false, .slice none 0 0, .slice none 0 0, .string { data := #[] }, .slice none 0 0, .slice none 0 0] 31)
    have z1 : ((v3_).alloc (.cells #[.int .i64 0, .int .i64 0, .bool false, .slice none 0 0, .slice none 0 0, .bool false, .slice none 0 0, .slice none 0 0, .string { data := #[] }, .slice none 0 0, .slice none 0 0] 31)).heap.size = (v3_).heap.size + 1 := by simp
    have z2 : (((v3_).alloc (.cells #[.int .i64 0, .int .i64 0, .bool false, .slice none 0 0, .slice none 0 0, .bool false, .slice none 0 0, .slice none 0 0, .string { data := #[] }, .slice none 0 0, .slice none 0 0] 31)).alloc (.cells #[.int .i64 0, .int .i64 0, .bool false, .slice none 0 0, .slice none 0 0, .bool false, .slice none 0 0, .slice none 0 0, .string { data := #[] }, .slice none 0 0, .slice none 0 0] 31)).heap.size = (v3_).heap.size + 2 := by simp
    have SA := ((SB.new v3_ [.int .i64 0, .int .i64 0, .bool false, .slice none 0 0, .slice none 0 0, .bool false, .slice none 0 0, .slice none 0 0, .string { data := #[] }, .slice none 0 0, .slice none 0 0] 31).nx (bal _ (.cells #[.int .i64 0, .int .i64 0, .bool false, .slice none 0 0, .slice none 0 0, .bool false, .slice none 0 0, .slice none 0 0, .string { data := #[] }, .slice none 0 0, .slice none 0 0] 31))).nx (bal _ (.cells #[.int .i64 0, .int .i64 0, .bool false, .slice none 0 0, .slice none 0 0, .bool false, .slice none 0 0, .slice none 0 0, .string { data := #[] }, .slice none 0 0, .slice none 0 0] 31))
    have SB_ := (SB.new ((v3_).alloc (.cells #[.int .i64 0, .int .i64 0, .bool false, .slice none 0 0, .slice none 0 0, .bool false, .slice none 0 0, .slice none 0 0, .string { data := #[] }, .slice none 0 0, .slice none 0 0] 31)) [.int .i64 0, .int .i64 0, .bool false, .slice none 0 0, .slice none 0 0, .bool false, .slice none 0 0, .slice none 0 0, .string { data := #[] }, .slice none 0 0, .slice none 0 0] 31).nx (bal _ (.cells #[.int .i64 0, .int .i64 0, .bool false, .slice none 0 0, .slice none 0 0, .bool false, .slice none 0 0, .slice none 0 0, .string { data := #[] }, .slice none 0 0, .slice none 0 0] 31))
    have SC := SB.new (((v3_).alloc (.cells #[.int .i64 0, .int .i64 0, .bool false, .slice none 0 0, .slice none 0 0, .bool false, .slice none 0 0, .slice none 0 0, .string { data := #[] }, .slice none 0 0, .slice none 0 0] 31)).alloc (.cells #[.int .i64 0, .int .i64 0, .bool false, .slice none 0 0, .slice none 0 0, .bool false, .slice none 0 0, .slice none 0 0, .string { data := #[] }, .slice none 0 0, .slice none 0 0] 31)) [.int .i64 0, .int .i64 0, .bool false, .slice none 0 0, .slice none 0 0, .bool false, .slice none 0 0, .slice none 0 0, .string { data := #[] }, .slice none 0 0, .slice none 0 0] 31
    rw [z1] at SB_
    rw [z2] at SC
    rw [← hW3] at SA SB_ SC BZ
    clear z1 z2
    have SB_ := SB_.cells_far (g := (v3_).heap.size) (by omega) [a0, a1, a2, a3, a4, a5, a6, a7, a8, a9, a10]
    have SC := SC.cells_far (g := (v3_).heap.size) (by omega) [a0, a1, a2, a3, a4, a5, a6, a7, a8, a9, a10]
    have S7 := SA.cells [a0, a1, a2, a3, a4, a5, a6, a7, a8, a9, a10] rfl
    have BZ := below_cso BZ (b := (v3_).heap.size) (by omega) 0 [a0, a1, a2, a3, a4, a5, a6, a7, a8, a9, a10]
    have SC := SC.cells_far (g := (v3_).heap.size + 1) (by omega) [b0, b1, b2, b3, b4, b5, b6, b7, b8, b9, b10]
    have S7 := S7.cells_far (g := (v3_).heap.size + 1) (by omega) [b0, b1, b2, b3, b4, b5, b6, b7, b8, b9, b10]
    have S8 := SB_.cells [b0, b1, b2, b3, b4, b5, b6, b7, b8, b9, b10] rfl
    have BZ := below_cso BZ (b := (v3_).heap.size + 1) (by omega) 0 [b0, b1, b2, b3, b4, b5, b6, b7, b8, b9, b10]
    have S7 := S7.cells_far (g := (v3_).heap.size + 2) (by omega) [f0, f1, f2, f3, f4, f5, f6, f7, f8, f9, f10]
    have S8 := S8.cells_far (g := (v3_).heap.size + 2) (by omega) [f0, f1, f2, f3, f4, f5, f6, f7, f8, f9, f10]
    have S9 := SC.cells [f0, f1, f2, f3, f4, f5, f6, f7, f8, f9, f10] rfl
    have BZ := below_cso BZ (b := (v3_).heap.size + 2) (by omega) 0 [f0, f1, f2, f3, f4, f5, f6, f7, f8, f9, f10]
    obtain ⟨W4, hW4⟩ : ∃ W4, W4 = ((W3.setCells (v3_).heap.size 0 [a0, a1, a2, a3, a4, a5, a6, a7, a8, a9, a10]).setCells ((v3_).heap.size + 1) 0 [b0, b1, b2, b3, b4, b5, b6, b7, b8, b9, b10]).setCells ((v3_).heap.size + 2) 0 [f0, f1, f2, f3, f4, f5, f6, f7, f8, f9, f10] := ⟨_, rfl⟩
    rw [← hW4] at S7 S8 S9 BZ
    replace hW3 := Lib.hid hW3
    replace hW4 := Lib.hid hW4
    go_upto_region 4 with (rw [← hW3.out]; clear hW3; refine wp_stD rfl rfl (.tmp 7) (.tmp 41) rfl (v3_).heap.size rfl [a0, a1, a2, a3, a4, a5, a6, a7, a8, a9, a10] rfl rfl _ SA rfl ox ?_; refine wp_stD rfl rfl (.tmp 8) (.tmp 43) rfl ((v3_).heap.size + 1) rfl [b0, b1, b2, b3, b4, b5, b6, b7, b8, b9, b10] rfl rfl _ SB_ rfl oy ?_; refine wp_stD rfl rfl (.tmp 9) (.tmp 45) rfl ((v3_).heap.size + 2) rfl [f0, f1, f2, f3, f4, f5, f6, f7, f8, f9, f10] rfl rfl _ SC rfl oz ?_; rw [← hW4.out]; clear hW4)
    clear SA SB_ SC ox oy oz
    have BB := BB.trans (BZ.mono (by omega))
    have RX := RX.go hP (by omega) BZ
    have RY := RY.go hP (by omega) BZ
    have RZ := RZ.go hP (by omega) BZ
    have hN := Nat.le_trans hN BZ.size
    clear BZ
    have ka_0 := S7.cell 0; have ka_1 := S7.cell 1; have ka_2 := S7.cell 2; have ka_3 := S7.cell 3; have ka_4 := S7.cell 4; have ka_5 := S7.cell 5; have ka_6 := S7.cell 6; have ka_7 := S7.cell 7; have ka_8 := S7.cell 8; have ka_9 := S7.cell 9; have ka_10 := S7.cell 10
    have kb_0 := S8.cell 0; have kb_1 := S8.cell 1; have kb_2 := S8.cell 2; have kb_3 := S8.cell 3; have kb_4 := S8.cell 4; have kb_5 := S8.cell 5; have kb_6 := S8.cell 6; have kb_7 := S8.cell 7; have kb_8 := S8.cell 8; have kb_9 := S8.cell 9; have kb_10 := S8.cell 10
    have SK := SB.new W4 [a0, a1, a2, a3, a4, a5, a6, a7, a8, a9, a10, b0, b1, b2, b3, b4, b5, b6, b7, b8, b9, b10] 31
    have Ba := bal W4 (.cells #[a0, a1, a2, a3, a4, a5, a6, a7, a8, a9, a10, b0, b1, b2, b3, b4, b5, b6, b7, b8, b9, b10] 31)
    obtain ⟨v4_, hv4_⟩ : ∃ v4_, v4_ = W4.alloc (.cells #[a0, a1, a2, a3, a4, a5, a6, a7, a8, a9, a10, b0, b1, b2, b3, b4, b5, b6, b7, b8, b9, b10] 31) := ⟨_, rfl⟩
    rw [← hv4_] at SK Ba
    replace hv4_ := Lib.hid hv4_
    have hgk : n ≤ W4.heap.size := hN
    have BB := BB.trans (Ba.mono (by omega))
    have RX := RX.go hP (by omega) Ba
    have RY := RY.go hP (by omega) Ba
    have RZ := RZ.go hP (by omega) Ba
    have S7 := S7.nx Ba
    have S8 := S8.nx Ba
    have S9 := S9.nx Ba
    have hN := Nat.le_trans hN Ba.size
    have LK : RLs v4_ (Out P n v4_) (some ⟨W4.heap.size, 0, none⟩) 2 [ofD a, ofD b] := RLs.many (ls := [[a0, a1, a2, a3, a4, a5, a6, a7, a8, a9, a10], [b0, b1, b2, b3, b4, b5, b6, b7, b8, b9, b10]]) (by intro cs h; simp only [List.mem_cons, List.not_mem_nil, or_false] at h; rcases h with rfl | rfl <;> rfl) SK (.inr ⟨hgk, SK.2⟩) (by simp)
      (fun i x hx => match i, hx with
        | 0, hx => by
          obtain rfl : ofD a = x := by simpa using hx
          exact ⟨_, rfl, RX⟩
        | 1, hx => by
          obtain rfl : ofD b = x := by simpa using hx
          exact ⟨_, rfl, RY⟩
        | i + 2, hx => by simp at hx)
    clear SK Ba
    go_wp2_with fail
    rw [← hv4_.out]
    clear hv4_
    clear ka_0 ka_1 ka_2 ka_3 ka_4 ka_5 ka_6 ka_7 ka_8 ka_9 ka_10 kb_0 kb_1 kb_2 kb_3 kb_4 kb_5 kb_6 kb_7 kb_8 kb_9 kb_10
    refine (lappend_any (some ⟨W4.heap.size, 0, none⟩) 2 [ofD a, ofD b] v4_ (Out P n v4_) (Out.all hP (by omega)) LK (by simp) (hT.go hn BB)).mono ?_
    rintro e v5_ ⟨v1, rfl, RXY, E5_⟩
    have RXY := RXY.res (m := n) hN E5_.size
    clear LK hgk
    have BB := BB.trans (E5_.mono (by omega))
    have RX := RX.go hP (by omega) E5_
    have RY := RY.go hP (by omega) E5_
    have RZ := RZ.go hP (by omega) E5_
    have S7 := S7.nx E5_
    have S8 := S8.nx E5_
    have S9 := S9.nx E5_
    have hN := Nat.le_trans hN E5_.size
    clear E5_
    generalize he1 : appE [ofD a, ofD b] = e1 at *
    generalize hxy : appD [ofD a, ofD b] = xy at *
    replace he1 := Lib.hid he1
    replace hxy := Lib.hid hxy
    obtain ⟨cs, rfl, cl, co⟩ := RXY.agg
    match cs, cl, co with
    | [g0, g1, g2, g3, g4, g5, g6, g7, g8, g9, g10], _, co =>
    have Sg := SB.new v5_ [.int .i64 0, .int .i64 0, .bool false, .slice none 0 0, .slice none 0 0, .bool false, .slice none 0 0, .slice none 0 0, .string { data := #[] }, .slice none 0 0, .slice none 0 0] 31
    obtain ⟨v6_, hv6_⟩ : ∃ v6_, v6_ = (v5_.alloc (.cells #[.int .i64 0, .int .i64 0, .bool false, .slice none 0 0, .slice none 0 0, .bool false, .slice none 0 0, .slice none 0 0, .string { data := #[] }, .slice none 0 0, .slice none 0 0] 31)).setCells v5_.heap.size 0 [g0, g1, g2, g3, g4, g5, g6, g7, g8, g9, g10] := ⟨_, rfl⟩
    have Bv6_ : Below v5_.heap.size v5_ v6_ := by rw [hv6_]; exact below_cso (bal v5_ _) (Nat.le_refl _) 0 [g0, g1, g2, g3, g4, g5, g6, g7, g8, g9, g10]
    have S10 : SB v6_ v5_.heap.size [g0, g1, g2, g3, g4, g5, g6, g7, g8, g9, g10] := by rw [hv6_]; exact Sg.cells [g0, g1, g2, g3, g4, g5, g6, g7, g8, g9, g10] rfl
    have hgv5_ : n ≤ v5_.heap.size := hN
    replace hv6_ := Lib.hid hv6_
    go_upto_region 5 with (refine wp_stD rfl rfl (.tmp 10) (.tmp 51) rfl v5_.heap.size rfl [g0, g1, g2, g3, g4, g5, g6, g7, g8, g9, g10] rfl rfl _ Sg rfl co ?_; rw [← hv6_.out]; clear hv6_)
    clear Sg co
    have BB := BB.trans (Bv6_.mono (by omega))
    have RX := RX.go hP (by omega) Bv6_
    have RY := RY.go hP (by omega) Bv6_
    have RZ := RZ.go hP (by omega) Bv6_
    have S7 := S7.nx Bv6_
    have S8 := S8.nx Bv6_
    have S9 := S9.nx Bv6_
    have RXY := RXY.go hP (by omega) Bv6_
    have hN := Nat.le_trans hN Bv6_.size
    clear Bv6_
    have kg_0 := S10.cell 0; have kg_1 := S10.cell 1; have kg_2 := S10.cell 2; have kg_3 := S10.cell 3; have kg_4 := S10.cell 4; have kg_5 := S10.cell 5; have kg_6 := S10.cell 6; have kg_7 := S10.cell 7; have kg_8 := S10.cell 8; have kg_9 := S10.cell 9; have kg_10 := S10.cell 10
    have kf_0 := S9.cell 0; have kf_1 := S9.cell 1; have kf_2 := S9.cell 2; have kf_3 := S9.cell 3; have kf_4 := S9.cell 4; have kf_5 := S9.cell 5; have kf_6 := S9.cell 6; have kf_7 := S9.cell 7; have kf_8 := S9.cell 8; have kf_9 := S9.cell 9; have kf_10 := S9.cell 10
    have SK := SB.new v6_ [g0, g1, g2, g3, g4, g5, g6, g7, g8, g9, g10, f0, f1, f2, f3, f4, f5, f6, f7, f8, f9, f10] 31
    have Ba := bal v6_ (.cells #[g0, g1, g2, g3, g4, g5, g6, g7, g8, g9, g10, f0, f1, f2, f3, f4, f5, f6, f7, f8, f9, f10] 31)
    obtain ⟨v7_, hv7_⟩ : ∃ v7_, v7_ = v6_.alloc (.cells #[g0, g1, g2, g3, g4, g5, g6, g7, g8, g9, g10, f0, f1, f2, f3, f4, f5, f6, f7, f8, f9, f10] 31) := ⟨_, rfl⟩
    rw [← hv7_] at SK Ba
    replace hv7_ := Lib.hid hv7_
    have hgk : n ≤ v6_.heap.size := hN
    have BB := BB.trans (Ba.mono (by omega))
    have RX := RX.go hP (by omega) Ba
    have RY := RY.go hP (by omega) Ba
    have RZ := RZ.go hP (by omega) Ba
    have S7 := S7.nx Ba
    have S8 := S8.nx Ba
    have S9 := S9.nx Ba
    have RXY := RXY.go hP (by omega) Ba
    have S10 := S10.nx Ba
    have hN := Nat.le_trans hN Ba.size
    have LK : RLs v7_ (Out P n v7_) (some ⟨v6_.heap.size, 0, none⟩) 2 [xy, ofD c] := RLs.many (ls := [[g0, g1, g2, g3, g4, g5, g6, g7, g8, g9, g10], [f0, f1, f2, f3, f4, f5, f6, f7, f8, f9, f10]]) (by intro cs h; simp only [List.mem_cons, List.not_mem_nil, or_false] at h; rcases h with rfl | rfl <;> rfl) SK (.inr ⟨hgk, SK.2⟩) (by simp)
      (fun i x hx => match i, hx with
        | 0, hx => by
          obtain rfl : xy = x := by simpa using hx
          exact ⟨_, rfl, RXY⟩
        | 1, hx => by
          obtain rfl : ofD c = x := by simpa using hx
          exact ⟨_, rfl, RZ⟩
        | i + 2, hx => by simp at hx)
    clear SK Ba
    go_wp2_with fail
    rw [← hv7_.out]
    clear hv7_
    clear kg_0 kg_1 kg_2 kg_3 kg_4 kg_5 kg_6 kg_7 kg_8 kg_9 kg_10 kf_0 kf_1 kf_2 kf_3 kf_4 kf_5 kf_6 kf_7 kf_8 kf_9 kf_10
    refine (lappend_any (some ⟨v6_.heap.size, 0, none⟩) 2 [xy, ofD c] v7_ (Out P n v7_) (Out.all hP (by omega)) LK (by simp) (hT.go hn BB)).mono ?_
    rintro e v8_ ⟨v2, rfl, RL, E8_⟩
    have RL := RL.res (m := n) hN E8_.size
    clear LK hgk
    have BB := BB.trans (E8_.mono (by omega))
    have RX := RX.go hP (by omega) E8_
    have RY := RY.go hP (by omega) E8_
    have RZ := RZ.go hP (by omega) E8_
    have S7 := S7.nx E8_
    have S8 := S8.nx E8_
    have S9 := S9.nx E8_
    have RXY := RXY.go hP (by omega) E8_
    have S10 := S10.nx E8_
    have hN := Nat.le_trans hN E8_.size
    clear E8_
    generalize he2 : appE [xy, ofD c] = e2 at *
    generalize hle : appD [xy, ofD c] = le at *
    replace he2 := Lib.hid he2
    replace hle := Lib.hid hle
    obtain ⟨cs, rfl, cl, co⟩ := RL.agg
    match cs, cl, co with
    | [h0, h1, h2, h3, h4, h5, h6, h7, h8, h9, h10], _, co =>
    have Sg := SB.new v8_ [.int .i64 0, .int .i64 0, .bool false, .slice none 0 0, .slice none 0 0, .bool false, .slice none 0 0, .slice none 0 0, .string { data := #[] }, .slice none 0 0, .slice none 0 0] 31
    obtain ⟨v9_, hv9_⟩ : ∃ v9_, v9_ = (v8_.alloc (.cells #[.int .i64 0, .int .i64 0, .bool false, .slice none 0 0, .slice none 0 0, .bool false, .slice none 0 0, .slice none 0 0, .string { data := #[] }, .slice none 0 0, .slice none 0 0] 31)).setCells v8_.heap.size 0 [h0, h1, h2, h3, h4, h5, h6, h7, h8, h9, h10] := ⟨_, rfl⟩
    have Bv9_ : Below v8_.heap.size v8_ v9_ := by rw [hv9_]; exact below_cso (bal v8_ _) (Nat.le_refl _) 0 [h0, h1, h2, h3, h4, h5, h6, h7, h8, h9, h10]
    have S12 : SB v9_ v8_.heap.size [h0, h1, h2, h3, h4, h5, h6, h7, h8, h9, h10] := by rw [hv9_]; exact Sg.cells [h0, h1, h2, h3, h4, h5, h6, h7, h8, h9, h10] rfl
    have hgv8_ : n ≤ v8_.heap.size := hN
    replace hv9_ := Lib.hid hv9_
    go_upto_region 6 with (refine wp_stD rfl rfl (.tmp 12) (.tmp 58) rfl v8_.heap.size rfl [h0, h1, h2, h3, h4, h5, h6, h7, h8, h9, h10] rfl rfl _ Sg rfl co ?_; rw [← hv9_.out]; clear hv9_)
    clear Sg co
    have BB := BB.trans (Bv9_.mono (by omega))
    have RX := RX.go hP (by omega) Bv9_
    have RY := RY.go hP (by omega) Bv9_
    have RZ := RZ.go hP (by omega) Bv9_
    have S7 := S7.nx Bv9_
    have S8 := S8.nx Bv9_
    have S9 := S9.nx Bv9_
    have RXY := RXY.go hP (by omega) Bv9_
    have S10 := S10.nx Bv9_
    have RL := RL.go hP (by omega) Bv9_
    have hN := Nat.le_trans hN Bv9_.size
    clear Bv9_
    go_wp2_with fail
    refine (awake11_any v9_ (hT.go hn BB)).mono ?_
    rintro e v10_ ⟨rfl, E10_⟩
    have BB := BB.trans (E10_.mono (by omega))
    have RX := RX.go hP (by omega) E10_
    have RY := RY.go hP (by omega) E10_
    have RZ := RZ.go hP (by omega) E10_
    have S7 := S7.nx E10_
    have S8 := S8.nx E10_
    have S9 := S9.nx E10_
    have RXY := RXY.go hP (by omega) E10_
    have S10 := S10.nx E10_
    have RL := RL.go hP (by omega) E10_
    have S12 := S12.nx E10_
    have hN := Nat.le_trans hN E10_.size
    have fin : ∀ w5, Below n w w5 → Calls Tryd.prog 7 #[] w5 fun e w' => e = .returned (.bool true) ∧ Below w5.heap.size w5 w' := fun w5 h => awake11_any w5 (hT.go hn h)
    by_cases h1 : e1 = 0
    · by_cases h2 : e2 = 0
      · subst h1 h2
        have law := joins_law a b c he1.out (by rw [hxy.out]; exact he2.out)
        rw [hxy.out, hle.out] at law
        rw [Int.natCast_add] at law
        obtain ⟨LW1, LW2, LW3, LW4, LW5⟩ := law
        replace LW1 := Lib.hid LW1
        replace LW2 := Lib.hid (same_iff.2 LW2)
        replace LW3 := Lib.hid (same_iff.2 LW3)
        replace LW4 := Lib.hid (same_iff.2 LW4)
        replace LW5 := Lib.hid (same_iff.2 LW5)
        go_upto_region 8 with fail
        clear fin
        have kb_0 := S8.cell 0; have kb_1 := S8.cell 1; have kb_2 := S8.cell 2; have kb_3 := S8.cell 3; have kb_4 := S8.cell 4; have kb_5 := S8.cell 5; have kb_6 := S8.cell 6; have kb_7 := S8.cell 7; have kb_8 := S8.cell 8; have kb_9 := S8.cell 9; have kb_10 := S8.cell 10
        have kf_0 := S9.cell 0; have kf_1 := S9.cell 1; have kf_2 := S9.cell 2; have kf_3 := S9.cell 3; have kf_4 := S9.cell 4; have kf_5 := S9.cell 5; have kf_6 := S9.cell 6; have kf_7 := S9.cell 7; have kf_8 := S9.cell 8; have kf_9 := S9.cell 9; have kf_10 := S9.cell 10
        have SK := SB.new v10_ [b0, b1, b2, b3, b4, b5, b6, b7, b8, b9, b10, f0, f1, f2, f3, f4, f5, f6, f7, f8, f9, f10] 31
        have Ba := bal v10_ (.cells #[b0, b1, b2, b3, b4, b5, b6, b7, b8, b9, b10, f0, f1, f2, f3, f4, f5, f6, f7, f8, f9, f10] 31)
        obtain ⟨v11_, hv11_⟩ : ∃ v11_, v11_ = v10_.alloc (.cells #[b0, b1, b2, b3, b4, b5, b6, b7, b8, b9, b10, f0, f1, f2, f3, f4, f5, f6, f7, f8, f9, f10] 31) := ⟨_, rfl⟩
        rw [← hv11_] at SK Ba
        replace hv11_ := Lib.hid hv11_
        have hgk : n ≤ v10_.heap.size := hN
        have BB := BB.trans (Ba.mono (by omega))
        have RX := RX.go hP (by omega) Ba
        have RY := RY.go hP (by omega) Ba
        have RZ := RZ.go hP (by omega) Ba
        have S7 := S7.nx Ba
        have S8 := S8.nx Ba
        have S9 := S9.nx Ba
        have RXY := RXY.go hP (by omega) Ba
        have S10 := S10.nx Ba
        have RL := RL.go hP (by omega) Ba
        have S12 := S12.nx Ba
        have hN := Nat.le_trans hN Ba.size
        have LK : RLs v11_ (Out P n v11_) (some ⟨v10_.heap.size, 0, none⟩) 2 [ofD b, ofD c] := RLs.many (ls := [[b0, b1, b2, b3, b4, b5, b6, b7, b8, b9, b10], [f0, f1, f2, f3, f4, f5, f6, f7, f8, f9, f10]]) (by intro cs h; simp only [List.mem_cons, List.not_mem_nil, or_false] at h; rcases h with rfl | rfl <;> rfl) SK (.inr ⟨hgk, SK.2⟩) (by simp)
          (fun i x hx => match i, hx with
            | 0, hx => by
              obtain rfl : ofD b = x := by simpa using hx
              exact ⟨_, rfl, RY⟩
            | 1, hx => by
              obtain rfl : ofD c = x := by simpa using hx
              exact ⟨_, rfl, RZ⟩
            | i + 2, hx => by simp at hx)
        clear SK Ba
        go_wp2_with fail
        rw [← hv11_.out]
        clear hv11_
        clear kb_0 kb_1 kb_2 kb_3 kb_4 kb_5 kb_6 kb_7 kb_8 kb_9 kb_10 kf_0 kf_1 kf_2 kf_3 kf_4 kf_5 kf_6 kf_7 kf_8 kf_9 kf_10
        refine (lappend_any (some ⟨v10_.heap.size, 0, none⟩) 2 [ofD b, ofD c] v11_ (Out P n v11_) (Out.all hP (by omega)) LK (by simp) (hT.go hn BB)).mono ?_
        rintro e v12_ ⟨v3, rfl, RYZ, E12_⟩
        have RYZ := RYZ.res (m := n) hN E12_.size
        clear LK hgk
        have BB := BB.trans (E12_.mono (by omega))
        have RX := RX.go hP (by omega) E12_
        have RY := RY.go hP (by omega) E12_
        have RZ := RZ.go hP (by omega) E12_
        have S7 := S7.nx E12_
        have S8 := S8.nx E12_
        have S9 := S9.nx E12_
        have RXY := RXY.go hP (by omega) E12_
        have S10 := S10.nx E12_
        have RL := RL.go hP (by omega) E12_
        have S12 := S12.nx E12_
        have hN := Nat.le_trans hN E12_.size
        clear E12_
        generalize appE [ofD b, ofD c] = e3 at *
        generalize appD [ofD b, ofD c] = yz at *
        obtain ⟨cs, rfl, cl, co⟩ := RYZ.agg
        match cs, cl, co with
        | [i0, i1, i2, i3, i4, i5, i6, i7, i8, i9, i10], _, co =>
        have Sg := SB.new v12_ [.int .i64 0, .int .i64 0, .bool false, .slice none 0 0, .slice none 0 0, .bool false, .slice none 0 0, .slice none 0 0, .string { data := #[] }, .slice none 0 0, .slice none 0 0] 31
        obtain ⟨v13_, hv13_⟩ : ∃ v13_, v13_ = (v12_.alloc (.cells #[.int .i64 0, .int .i64 0, .bool false, .slice none 0 0, .slice none 0 0, .bool false, .slice none 0 0, .slice none 0 0, .string { data := #[] }, .slice none 0 0, .slice none 0 0] 31)).setCells v12_.heap.size 0 [i0, i1, i2, i3, i4, i5, i6, i7, i8, i9, i10] := ⟨_, rfl⟩
        have Bv13_ : Below v12_.heap.size v12_ v13_ := by rw [hv13_]; exact below_cso (bal v12_ _) (Nat.le_refl _) 0 [i0, i1, i2, i3, i4, i5, i6, i7, i8, i9, i10]
        have S14 : SB v13_ v12_.heap.size [i0, i1, i2, i3, i4, i5, i6, i7, i8, i9, i10] := by rw [hv13_]; exact Sg.cells [i0, i1, i2, i3, i4, i5, i6, i7, i8, i9, i10] rfl
        have hgv12_ : n ≤ v12_.heap.size := hN
        replace hv13_ := Lib.hid hv13_
        go_upto_region 9 with (refine wp_stD rfl rfl (.tmp 14) (.tmp 76) rfl v12_.heap.size rfl [i0, i1, i2, i3, i4, i5, i6, i7, i8, i9, i10] rfl rfl _ Sg rfl co ?_; rw [← hv13_.out]; clear hv13_)
        clear Sg co
        have BB := BB.trans (Bv13_.mono (by omega))
        have RX := RX.go hP (by omega) Bv13_
        have RY := RY.go hP (by omega) Bv13_
        have RZ := RZ.go hP (by omega) Bv13_
        have S7 := S7.nx Bv13_
        have S8 := S8.nx Bv13_
        have S9 := S9.nx Bv13_
        have RXY := RXY.go hP (by omega) Bv13_
        have S10 := S10.nx Bv13_
        have RL := RL.go hP (by omega) Bv13_
        have S12 := S12.nx Bv13_
        have RYZ := RYZ.go hP (by omega) Bv13_
        have hN := Nat.le_trans hN Bv13_.size
        clear Bv13_
        have ka_0 := S7.cell 0; have ka_1 := S7.cell 1; have ka_2 := S7.cell 2; have ka_3 := S7.cell 3; have ka_4 := S7.cell 4; have ka_5 := S7.cell 5; have ka_6 := S7.cell 6; have ka_7 := S7.cell 7; have ka_8 := S7.cell 8; have ka_9 := S7.cell 9; have ka_10 := S7.cell 10
        have ki_0 := S14.cell 0; have ki_1 := S14.cell 1; have ki_2 := S14.cell 2; have ki_3 := S14.cell 3; have ki_4 := S14.cell 4; have ki_5 := S14.cell 5; have ki_6 := S14.cell 6; have ki_7 := S14.cell 7; have ki_8 := S14.cell 8; have ki_9 := S14.cell 9; have ki_10 := S14.cell 10
        have SK := SB.new v13_ [a0, a1, a2, a3, a4, a5, a6, a7, a8, a9, a10, i0, i1, i2, i3, i4, i5, i6, i7, i8, i9, i10] 31
        have Ba := bal v13_ (.cells #[a0, a1, a2, a3, a4, a5, a6, a7, a8, a9, a10, i0, i1, i2, i3, i4, i5, i6, i7, i8, i9, i10] 31)
        obtain ⟨v14_, hv14_⟩ : ∃ v14_, v14_ = v13_.alloc (.cells #[a0, a1, a2, a3, a4, a5, a6, a7, a8, a9, a10, i0, i1, i2, i3, i4, i5, i6, i7, i8, i9, i10] 31) := ⟨_, rfl⟩
        rw [← hv14_] at SK Ba
        replace hv14_ := Lib.hid hv14_
        have hgk : n ≤ v13_.heap.size := hN
        have BB := BB.trans (Ba.mono (by omega))
        have RX := RX.go hP (by omega) Ba
        have RY := RY.go hP (by omega) Ba
        have RZ := RZ.go hP (by omega) Ba
        have S7 := S7.nx Ba
        have S8 := S8.nx Ba
        have S9 := S9.nx Ba
        have RXY := RXY.go hP (by omega) Ba
        have S10 := S10.nx Ba
        have RL := RL.go hP (by omega) Ba
        have S12 := S12.nx Ba
        have RYZ := RYZ.go hP (by omega) Ba
        have S14 := S14.nx Ba
        have hN := Nat.le_trans hN Ba.size
        have LK : RLs v14_ (Out P n v14_) (some ⟨v13_.heap.size, 0, none⟩) 2 [ofD a, yz] := RLs.many (ls := [[a0, a1, a2, a3, a4, a5, a6, a7, a8, a9, a10], [i0, i1, i2, i3, i4, i5, i6, i7, i8, i9, i10]]) (by intro cs h; simp only [List.mem_cons, List.not_mem_nil, or_false] at h; rcases h with rfl | rfl <;> rfl) SK (.inr ⟨hgk, SK.2⟩) (by simp)
          (fun i x hx => match i, hx with
            | 0, hx => by
              obtain rfl : ofD a = x := by simpa using hx
              exact ⟨_, rfl, RX⟩
            | 1, hx => by
              obtain rfl : yz = x := by simpa using hx
              exact ⟨_, rfl, RYZ⟩
            | i + 2, hx => by simp at hx)
        clear SK Ba
        go_wp2_with fail
        rw [← hv14_.out]
        clear hv14_
        clear ka_0 ka_1 ka_2 ka_3 ka_4 ka_5 ka_6 ka_7 ka_8 ka_9 ka_10 ki_0 ki_1 ki_2 ki_3 ki_4 ki_5 ki_6 ki_7 ki_8 ki_9 ki_10
        refine (lappend_any (some ⟨v13_.heap.size, 0, none⟩) 2 [ofD a, yz] v14_ (Out P n v14_) (Out.all hP (by omega)) LK (by simp) (hT.go hn BB)).mono ?_
        rintro e v15_ ⟨v4, rfl, RR, E15_⟩
        have RR := RR.res (m := n) hN E15_.size
        clear LK hgk
        have BB := BB.trans (E15_.mono (by omega))
        have RX := RX.go hP (by omega) E15_
        have RY := RY.go hP (by omega) E15_
        have RZ := RZ.go hP (by omega) E15_
        have S7 := S7.nx E15_
        have S8 := S8.nx E15_
        have S9 := S9.nx E15_
        have RXY := RXY.go hP (by omega) E15_
        have S10 := S10.nx E15_
        have RL := RL.go hP (by omega) E15_
        have S12 := S12.nx E15_
        have RYZ := RYZ.go hP (by omega) E15_
        have S14 := S14.nx E15_
        have hN := Nat.le_trans hN E15_.size
        clear E15_
        generalize appE [ofD a, yz] = e4 at *
        generalize appD [ofD a, yz] = ri at *
        clear S14 RYZ
        obtain ⟨cs, rfl, cl, co⟩ := RR.agg
        match cs, cl, co with
        | [q0, q1, q2, q3, q4, q5, q6, q7, q8, q9, q10], _, co =>
        have Sg := SB.new v15_ [.int .i64 0, .int .i64 0, .bool false, .slice none 0 0, .slice none 0 0, .bool false, .slice none 0 0, .slice none 0 0, .string { data := #[] }, .slice none 0 0, .slice none 0 0] 31
        obtain ⟨v16_, hv16_⟩ : ∃ v16_, v16_ = (v15_.alloc (.cells #[.int .i64 0, .int .i64 0, .bool false, .slice none 0 0, .slice none 0 0, .bool false, .slice none 0 0, .slice none 0 0, .string { data := #[] }, .slice none 0 0, .slice none 0 0] 31)).setCells v15_.heap.size 0 [q0, q1, q2, q3, q4, q5, q6, q7, q8, q9, q10] := ⟨_, rfl⟩
        have Bv16_ : Below v15_.heap.size v15_ v16_ := by rw [hv16_]; exact below_cso (bal v15_ _) (Nat.le_refl _) 0 [q0, q1, q2, q3, q4, q5, q6, q7, q8, q9, q10]
        have S16 : SB v16_ v15_.heap.size [q0, q1, q2, q3, q4, q5, q6, q7, q8, q9, q10] := by rw [hv16_]; exact Sg.cells [q0, q1, q2, q3, q4, q5, q6, q7, q8, q9, q10] rfl
        have hgv15_ : n ≤ v15_.heap.size := hN
        replace hv16_ := Lib.hid hv16_
        go_upto_region 10 with (refine wp_stD rfl rfl (.tmp 16) (.tmp 83) rfl v15_.heap.size rfl [q0, q1, q2, q3, q4, q5, q6, q7, q8, q9, q10] rfl rfl _ Sg rfl co ?_; rw [← hv16_.out]; clear hv16_)
        clear Sg co
        have BB := BB.trans (Bv16_.mono (by omega))
        have RX := RX.go hP (by omega) Bv16_
        have RY := RY.go hP (by omega) Bv16_
        have RZ := RZ.go hP (by omega) Bv16_
        have S7 := S7.nx Bv16_
        have S8 := S8.nx Bv16_
        have S9 := S9.nx Bv16_
        have RXY := RXY.go hP (by omega) Bv16_
        have S10 := S10.nx Bv16_
        have RL := RL.go hP (by omega) Bv16_
        have S12 := S12.nx Bv16_
        have RR := RR.go hP (by omega) Bv16_
        have hN := Nat.le_trans hN Bv16_.size
        clear Bv16_
        have ka_0 := S7.cell 0; have ka_1 := S7.cell 1; have ka_2 := S7.cell 2; have ka_3 := S7.cell 3; have ka_4 := S7.cell 4; have ka_5 := S7.cell 5; have ka_6 := S7.cell 6; have ka_7 := S7.cell 7; have ka_8 := S7.cell 8; have ka_9 := S7.cell 9; have ka_10 := S7.cell 10
        have kb_0 := S8.cell 0; have kb_1 := S8.cell 1; have kb_2 := S8.cell 2; have kb_3 := S8.cell 3; have kb_4 := S8.cell 4; have kb_5 := S8.cell 5; have kb_6 := S8.cell 6; have kb_7 := S8.cell 7; have kb_8 := S8.cell 8; have kb_9 := S8.cell 9; have kb_10 := S8.cell 10
        have kf_0 := S9.cell 0; have kf_1 := S9.cell 1; have kf_2 := S9.cell 2; have kf_3 := S9.cell 3; have kf_4 := S9.cell 4; have kf_5 := S9.cell 5; have kf_6 := S9.cell 6; have kf_7 := S9.cell 7; have kf_8 := S9.cell 8; have kf_9 := S9.cell 9; have kf_10 := S9.cell 10
        have SK := SB.new v16_ [a0, a1, a2, a3, a4, a5, a6, a7, a8, a9, a10, b0, b1, b2, b3, b4, b5, b6, b7, b8, b9, b10, f0, f1, f2, f3, f4, f5, f6, f7, f8, f9, f10] 31
        have Ba := bal v16_ (.cells #[a0, a1, a2, a3, a4, a5, a6, a7, a8, a9, a10, b0, b1, b2, b3, b4, b5, b6, b7, b8, b9, b10, f0, f1, f2, f3, f4, f5, f6, f7, f8, f9, f10] 31)
        obtain ⟨v17_, hv17_⟩ : ∃ v17_, v17_ = v16_.alloc (.cells #[a0, a1, a2, a3, a4, a5, a6, a7, a8, a9, a10, b0, b1, b2, b3, b4, b5, b6, b7, b8, b9, b10, f0, f1, f2, f3, f4, f5, f6, f7, f8, f9, f10] 31) := ⟨_, rfl⟩
        rw [← hv17_] at SK Ba
        replace hv17_ := Lib.hid hv17_
        have hgk : n ≤ v16_.heap.size := hN
        have BB := BB.trans (Ba.mono (by omega))
        have RX := RX.go hP (by omega) Ba
        have RY := RY.go hP (by omega) Ba
        have RZ := RZ.go hP (by omega) Ba
        have S7 := S7.nx Ba
        have S8 := S8.nx Ba
        have S9 := S9.nx Ba
        have RXY := RXY.go hP (by omega) Ba
        have S10 := S10.nx Ba
        have RL := RL.go hP (by omega) Ba
        have S12 := S12.nx Ba
        have RR := RR.go hP (by omega) Ba
        have S16 := S16.nx Ba
        have hN := Nat.le_trans hN Ba.size
        have LK : RLs v17_ (Out P n v17_) (some ⟨v16_.heap.size, 0, none⟩) 3 [ofD a, ofD b, ofD c] := RLs.many (ls := [[a0, a1, a2, a3, a4, a5, a6, a7, a8, a9, a10], [b0, b1, b2, b3, b4, b5, b6, b7, b8, b9, b10], [f0, f1, f2, f3, f4, f5, f6, f7, f8, f9, f10]]) (by intro cs h; simp only [List.mem_cons, List.not_mem_nil, or_false] at h; rcases h with rfl | rfl | rfl <;> rfl) SK (.inr ⟨hgk, SK.2⟩) (by simp)
          (fun i x hx => match i, hx with
            | 0, hx => by
              obtain rfl : ofD a = x := by simpa using hx
              exact ⟨_, rfl, RX⟩
            | 1, hx => by
              obtain rfl : ofD b = x := by simpa using hx
              exact ⟨_, rfl, RY⟩
            | 2, hx => by
              obtain rfl : ofD c = x := by simpa using hx
              exact ⟨_, rfl, RZ⟩
            | i + 3, hx => by simp at hx)
        clear SK Ba
        go_wp2_with fail
        rw [← hv17_.out]
        clear hv17_
        clear ka_0 ka_1 ka_2 ka_3 ka_4 ka_5 ka_6 ka_7 ka_8 ka_9 ka_10 kb_0 kb_1 kb_2 kb_3 kb_4 kb_5 kb_6 kb_7 kb_8 kb_9 kb_10 kf_0 kf_1 kf_2 kf_3 kf_4 kf_5 kf_6 kf_7 kf_8 kf_9 kf_10
        refine (lappend_any (some ⟨v16_.heap.size, 0, none⟩) 3 [ofD a, ofD b, ofD c] v17_ (Out P n v17_) (Out.all hP (by omega)) LK (by simp) (hT.go hn BB)).mono ?_
        rintro e v18_ ⟨v5, rfl, RA, E18_⟩
        have RA := RA.res (m := n) hN E18_.size
        clear LK hgk
        have BB := BB.trans (E18_.mono (by omega))
        have RX := RX.go hP (by omega) E18_
        have RY := RY.go hP (by omega) E18_
        have RZ := RZ.go hP (by omega) E18_
        have S7 := S7.nx E18_
        have S8 := S8.nx E18_
        have S9 := S9.nx E18_
        have RXY := RXY.go hP (by omega) E18_
        have S10 := S10.nx E18_
        have RL := RL.go hP (by omega) E18_
        have S12 := S12.nx E18_
        have RR := RR.go hP (by omega) E18_
        have S16 := S16.nx E18_
        have hN := Nat.le_trans hN E18_.size
        clear E18_
        generalize appE [ofD a, ofD b, ofD c] = e5 at *
        generalize appD [ofD a, ofD b, ofD c] = al at *
        obtain ⟨cs, rfl, cl, co⟩ := RA.agg
        match cs, cl, co with
        | [o0, o1, o2, o3, o4, o5, o6, o7, o8, o9, o10], _, co =>
        have Sg := SB.new v18_ [.int .i64 0, .int .i64 0, .bool false, .slice none 0 0, .slice none 0 0, .bool false, .slice none 0 0, .slice none 0 0, .string { data := #[] }, .slice none 0 0, .slice none 0 0] 31
        obtain ⟨v19_, hv19_⟩ : ∃ v19_, v19_ = (v18_.alloc (.cells #[.int .i64 0, .int .i64 0, .bool false, .slice none 0 0, .slice none 0 0, .bool false, .slice none 0 0, .slice none 0 0, .string { data := #[] }, .slice none 0 0, .slice none 0 0] 31)).setCells v18_.heap.size 0 [o0, o1, o2, o3, o4, o5, o6, o7, o8, o9, o10] := ⟨_, rfl⟩
        have Bv19_ : Below v18_.heap.size v18_ v19_ := by rw [hv19_]; exact below_cso (bal v18_ _) (Nat.le_refl _) 0 [o0, o1, o2, o3, o4, o5, o6, o7, o8, o9, o10]
        have S18 : SB v19_ v18_.heap.size [o0, o1, o2, o3, o4, o5, o6, o7, o8, o9, o10] := by rw [hv19_]; exact Sg.cells [o0, o1, o2, o3, o4, o5, o6, o7, o8, o9, o10] rfl
        have hgv18_ : n ≤ v18_.heap.size := hN
        replace hv19_ := Lib.hid hv19_
        go_upto_region 11 with (refine wp_stD rfl rfl (.tmp 18) (.tmp 91) rfl v18_.heap.size rfl [o0, o1, o2, o3, o4, o5, o6, o7, o8, o9, o10] rfl rfl _ Sg rfl co ?_; rw [← hv19_.out]; clear hv19_)
        clear Sg co
        have BB := BB.trans (Bv19_.mono (by omega))
        have RX := RX.go hP (by omega) Bv19_
        have RY := RY.go hP (by omega) Bv19_
        have RZ := RZ.go hP (by omega) Bv19_
        have S7 := S7.nx Bv19_
        have S8 := S8.nx Bv19_
        have S9 := S9.nx Bv19_
        have RXY := RXY.go hP (by omega) Bv19_
        have S10 := S10.nx Bv19_
        have RL := RL.go hP (by omega) Bv19_
        have S12 := S12.nx Bv19_
        have RR := RR.go hP (by omega) Bv19_
        have S16 := S16.nx Bv19_
        have RA := RA.go hP (by omega) Bv19_
        have hN := Nat.le_trans hN Bv19_.size
        clear Bv19_
        have kh_0 := S12.cell 0; have kh_1 := S12.cell 1; have kh_2 := S12.cell 2; have kh_3 := S12.cell 3; have kh_4 := S12.cell 4; have kh_5 := S12.cell 5; have kh_6 := S12.cell 6; have kh_7 := S12.cell 7; have kh_8 := S12.cell 8; have kh_9 := S12.cell 9; have kh_10 := S12.cell 10
        have hwl : IntKind.i64.wrap ((a.length : Int) + (b.length : Int)) = (a.length : Int) + (b.length : Int) := IntWalk.i64_in _ (by omega)
        obtain ⟨kk, hkk⟩ : ∃ kk, Hid ((a.length : Int) + (b.length : Int) = kk) := ⟨_, Lib.hid rfl⟩
        rw [hkk.out] at LW1 LW4
        go_wp2_with fail
        rw [hkk.out]
        refine (ltail_any le _ kk v19_ (Out P n v19_) (Out.all hP (by omega)) RL (hT.go hn BB)).mono ?_
        rintro e v20_ ⟨v6, rfl, RT, E20_⟩
        have RT := RT.res (m := n) hN E20_.size
        clear hwl
        clear kh_0 kh_1 kh_2 kh_3 kh_4 kh_5 kh_6 kh_7 kh_8 kh_9 kh_10
        have BB := BB.trans (E20_.mono (by omega))
        have RX := RX.go hP (by omega) E20_
        have RY := RY.go hP (by omega) E20_
        have RZ := RZ.go hP (by omega) E20_
        have S7 := S7.nx E20_
        have S8 := S8.nx E20_
        have S9 := S9.nx E20_
        have RXY := RXY.go hP (by omega) E20_
        have S10 := S10.nx E20_
        have RL := RL.go hP (by omega) E20_
        have S12 := S12.nx E20_
        have RR := RR.go hP (by omega) E20_
        have S16 := S16.nx E20_
        have RA := RA.go hP (by omega) E20_
        have S18 := S18.nx E20_
        have hN := Nat.le_trans hN E20_.size
        rw [LW1.out]
        clear LW1
        generalize tailD le kk = tl at *
        obtain ⟨cs, rfl, cl, co⟩ := RT.agg
        match cs, cl, co with
        | [p0, p1, p2, p3, p4, p5, p6, p7, p8, p9, p10], _, co =>
        have Sg := SB.new v20_ [.int .i64 0, .int .i64 0, .bool false, .slice none 0 0, .slice none 0 0, .bool false, .slice none 0 0, .slice none 0 0, .string { data := #[] }, .slice none 0 0, .slice none 0 0] 31
        obtain ⟨v21_, hv21_⟩ : ∃ v21_, v21_ = (v20_.alloc (.cells #[.int .i64 0, .int .i64 0, .bool false, .slice none 0 0, .slice none 0 0, .bool false, .slice none 0 0, .slice none 0 0, .string { data := #[] }, .slice none 0 0, .slice none 0 0] 31)).setCells v20_.heap.size 0 [p0, p1, p2, p3, p4, p5, p6, p7, p8, p9, p10] := ⟨_, rfl⟩
        have Bv21_ : Below v20_.heap.size v20_ v21_ := by rw [hv21_]; exact below_cso (bal v20_ _) (Nat.le_refl _) 0 [p0, p1, p2, p3, p4, p5, p6, p7, p8, p9, p10]
        have S20 : SB v21_ v20_.heap.size [p0, p1, p2, p3, p4, p5, p6, p7, p8, p9, p10] := by rw [hv21_]; exact Sg.cells [p0, p1, p2, p3, p4, p5, p6, p7, p8, p9, p10] rfl
        have hgv20_ : n ≤ v20_.heap.size := hN
        replace hv21_ := Lib.hid hv21_
        go_upto_region 12 with (refine wp_stD rfl rfl (.tmp 20) (.tmp 101) rfl v20_.heap.size rfl [p0, p1, p2, p3, p4, p5, p6, p7, p8, p9, p10] rfl rfl _ Sg rfl co ?_; rw [← hv21_.out]; clear hv21_)
        clear Sg co
        have BB := BB.trans (Bv21_.mono (by omega))
        have RX := RX.go hP (by omega) Bv21_
        have RY := RY.go hP (by omega) Bv21_
        have RZ := RZ.go hP (by omega) Bv21_
        have S7 := S7.nx Bv21_
        have S8 := S8.nx Bv21_
        have S9 := S9.nx Bv21_
        have RXY := RXY.go hP (by omega) Bv21_
        have S10 := S10.nx Bv21_
        have RL := RL.go hP (by omega) Bv21_
        have S12 := S12.nx Bv21_
        have RR := RR.go hP (by omega) Bv21_
        have S16 := S16.nx Bv21_
        have RA := RA.go hP (by omega) Bv21_
        have S18 := S18.nx Bv21_
        have RT := RT.go hP (by omega) Bv21_
        have hN := Nat.le_trans hN Bv21_.size
        clear Bv21_
        have kc_0 := S10.cell 0; have kc_1 := S10.cell 1; have kc_2 := S10.cell 2; have kc_3 := S10.cell 3; have kc_4 := S10.cell 4; have kc_5 := S10.cell 5; have kc_6 := S10.cell 6; have kc_7 := S10.cell 7; have kc_8 := S10.cell 8; have kc_9 := S10.cell 9; have kc_10 := S10.cell 10
        go_wp2_with fail
        refine (lreverse_any (xy) _ v21_ (Out P n v21_) (Out.all hP (by omega)) RXY (hT.go hn BB)).mono ?_
        rintro e v22_ ⟨v7, rfl, RV, E22_⟩
        have RV := RV.res (m := n) hN E22_.size
        clear kc_0 kc_1 kc_2 kc_3 kc_4 kc_5 kc_6 kc_7 kc_8 kc_9 kc_10
        have BB := BB.trans (E22_.mono (by omega))
        have RX := RX.go hP (by omega) E22_
        have RY := RY.go hP (by omega) E22_
        have RZ := RZ.go hP (by omega) E22_
        have S7 := S7.nx E22_
        have S8 := S8.nx E22_
        have S9 := S9.nx E22_
        have RXY := RXY.go hP (by omega) E22_
        have S10 := S10.nx E22_
        have RL := RL.go hP (by omega) E22_
        have S12 := S12.nx E22_
        have RR := RR.go hP (by omega) E22_
        have S16 := S16.nx E22_
        have RA := RA.go hP (by omega) E22_
        have S18 := S18.nx E22_
        have RT := RT.go hP (by omega) E22_
        have S20 := S20.nx E22_
        have hN := Nat.le_trans hN E22_.size
        generalize ansE (xy) (revD (xy)) = erv at *
        generalize ansD (xy) (revD (xy)) = rv at *
        clear E22_ RXY S10
        obtain ⟨cs, rfl, cl, co⟩ := RV.agg
        match cs, cl, co with
        | [s0, s1, s2, s3, s4, s5, s6, s7, s8, s9, s10], _, co =>
        have Sg := SB.new v22_ [.int .i64 0, .int .i64 0, .bool false, .slice none 0 0, .slice none 0 0, .bool false, .slice none 0 0, .slice none 0 0, .string { data := #[] }, .slice none 0 0, .slice none 0 0] 31
        obtain ⟨v23_, hv23_⟩ : ∃ v23_, v23_ = (v22_.alloc (.cells #[.int .i64 0, .int .i64 0, .bool false, .slice none 0 0, .slice none 0 0, .bool false, .slice none 0 0, .slice none 0 0, .string { data := #[] }, .slice none 0 0, .slice none 0 0] 31)).setCells v22_.heap.size 0 [s0, s1, s2, s3, s4, s5, s6, s7, s8, s9, s10] := ⟨_, rfl⟩
        have Bv23_ : Below v22_.heap.size v22_ v23_ := by rw [hv23_]; exact below_cso (bal v22_ _) (Nat.le_refl _) 0 [s0, s1, s2, s3, s4, s5, s6, s7, s8, s9, s10]
        have S22 : SB v23_ v22_.heap.size [s0, s1, s2, s3, s4, s5, s6, s7, s8, s9, s10] := by rw [hv23_]; exact Sg.cells [s0, s1, s2, s3, s4, s5, s6, s7, s8, s9, s10] rfl
        have hgv22_ : n ≤ v22_.heap.size := hN
        replace hv23_ := Lib.hid hv23_
        go_upto_region 13 with (refine wp_stD rfl rfl (.tmp 22) (.tmp 106) rfl v22_.heap.size rfl [s0, s1, s2, s3, s4, s5, s6, s7, s8, s9, s10] rfl rfl _ Sg rfl co ?_; rw [← hv23_.out]; clear hv23_)
        clear Sg co
        have BB := BB.trans (Bv23_.mono (by omega))
        have RX := RX.go hP (by omega) Bv23_
        have RY := RY.go hP (by omega) Bv23_
        have RZ := RZ.go hP (by omega) Bv23_
        have S7 := S7.nx Bv23_
        have S8 := S8.nx Bv23_
        have S9 := S9.nx Bv23_
        have RL := RL.go hP (by omega) Bv23_
        have S12 := S12.nx Bv23_
        have RR := RR.go hP (by omega) Bv23_
        have S16 := S16.nx Bv23_
        have RA := RA.go hP (by omega) Bv23_
        have S18 := S18.nx Bv23_
        have RT := RT.go hP (by omega) Bv23_
        have S20 := S20.nx Bv23_
        have RV := RV.go hP (by omega) Bv23_
        have hN := Nat.le_trans hN Bv23_.size
        clear Bv23_
        have kc_0 := S7.cell 0; have kc_1 := S7.cell 1; have kc_2 := S7.cell 2; have kc_3 := S7.cell 3; have kc_4 := S7.cell 4; have kc_5 := S7.cell 5; have kc_6 := S7.cell 6; have kc_7 := S7.cell 7; have kc_8 := S7.cell 8; have kc_9 := S7.cell 9; have kc_10 := S7.cell 10
        go_wp2_with fail
        refine (lreverse_any (ofD a) _ v23_ (Out P n v23_) (Out.all hP (by omega)) RX (hT.go hn BB)).mono ?_
        rintro e v24_ ⟨v8, rfl, RVX, E24_⟩
        have RVX := RVX.res (m := n) hN E24_.size
        clear kc_0 kc_1 kc_2 kc_3 kc_4 kc_5 kc_6 kc_7 kc_8 kc_9 kc_10
        have BB := BB.trans (E24_.mono (by omega))
        have RX := RX.go hP (by omega) E24_
        have RY := RY.go hP (by omega) E24_
        have RZ := RZ.go hP (by omega) E24_
        have S7 := S7.nx E24_
        have S8 := S8.nx E24_
        have S9 := S9.nx E24_
        have RL := RL.go hP (by omega) E24_
        have S12 := S12.nx E24_
        have RR := RR.go hP (by omega) E24_
        have S16 := S16.nx E24_
        have RA := RA.go hP (by omega) E24_
        have S18 := S18.nx E24_
        have RT := RT.go hP (by omega) E24_
        have S20 := S20.nx E24_
        have RV := RV.go hP (by omega) E24_
        have S22 := S22.nx E24_
        have hN := Nat.le_trans hN E24_.size
        generalize ansE (ofD a) (revD (ofD a)) = erx at *
        generalize ansD (ofD a) (revD (ofD a)) = rx at *
        clear E24_ RX S7
        obtain ⟨cs, rfl, cl, co⟩ := RVX.agg
        match cs, cl, co with
        | [t0, t1, t2, t3, t4, t5, t6, t7, t8, t9, t10], _, co =>
        have Sg := SB.new v24_ [.int .i64 0, .int .i64 0, .bool false, .slice none 0 0, .slice none 0 0, .bool false, .slice none 0 0, .slice none 0 0, .string { data := #[] }, .slice none 0 0, .slice none 0 0] 31
        obtain ⟨v25_, hv25_⟩ : ∃ v25_, v25_ = (v24_.alloc (.cells #[.int .i64 0, .int .i64 0, .bool false, .slice none 0 0, .slice none 0 0, .bool false, .slice none 0 0, .slice none 0 0, .string { data := #[] }, .slice none 0 0, .slice none 0 0] 31)).setCells v24_.heap.size 0 [t0, t1, t2, t3, t4, t5, t6, t7, t8, t9, t10] := ⟨_, rfl⟩
        have Bv25_ : Below v24_.heap.size v24_ v25_ := by rw [hv25_]; exact below_cso (bal v24_ _) (Nat.le_refl _) 0 [t0, t1, t2, t3, t4, t5, t6, t7, t8, t9, t10]
        have S24 : SB v25_ v24_.heap.size [t0, t1, t2, t3, t4, t5, t6, t7, t8, t9, t10] := by rw [hv25_]; exact Sg.cells [t0, t1, t2, t3, t4, t5, t6, t7, t8, t9, t10] rfl
        have hgv24_ : n ≤ v24_.heap.size := hN
        replace hv25_ := Lib.hid hv25_
        go_upto_region 14 with (refine wp_stD rfl rfl (.tmp 24) (.tmp 111) rfl v24_.heap.size rfl [t0, t1, t2, t3, t4, t5, t6, t7, t8, t9, t10] rfl rfl _ Sg rfl co ?_; rw [← hv25_.out]; clear hv25_)
        clear Sg co
        have BB := BB.trans (Bv25_.mono (by omega))
        have RY := RY.go hP (by omega) Bv25_
        have RZ := RZ.go hP (by omega) Bv25_
        have S8 := S8.nx Bv25_
        have S9 := S9.nx Bv25_
        have RL := RL.go hP (by omega) Bv25_
        have S12 := S12.nx Bv25_
        have RR := RR.go hP (by omega) Bv25_
        have S16 := S16.nx Bv25_
        have RA := RA.go hP (by omega) Bv25_
        have S18 := S18.nx Bv25_
        have RT := RT.go hP (by omega) Bv25_
        have S20 := S20.nx Bv25_
        have RV := RV.go hP (by omega) Bv25_
        have S22 := S22.nx Bv25_
        have RVX := RVX.go hP (by omega) Bv25_
        have hN := Nat.le_trans hN Bv25_.size
        clear Bv25_
        have kc_0 := S8.cell 0; have kc_1 := S8.cell 1; have kc_2 := S8.cell 2; have kc_3 := S8.cell 3; have kc_4 := S8.cell 4; have kc_5 := S8.cell 5; have kc_6 := S8.cell 6; have kc_7 := S8.cell 7; have kc_8 := S8.cell 8; have kc_9 := S8.cell 9; have kc_10 := S8.cell 10
        go_wp2_with fail
        refine (lreverse_any (ofD b) _ v25_ (Out P n v25_) (Out.all hP (by omega)) RY (hT.go hn BB)).mono ?_
        rintro e v26_ ⟨v9, rfl, RVY, E26_⟩
        have RVY := RVY.res (m := n) hN E26_.size
        clear kc_0 kc_1 kc_2 kc_3 kc_4 kc_5 kc_6 kc_7 kc_8 kc_9 kc_10
        have BB := BB.trans (E26_.mono (by omega))
        have RY := RY.go hP (by omega) E26_
        have RZ := RZ.go hP (by omega) E26_
        have S8 := S8.nx E26_
        have S9 := S9.nx E26_
        have RL := RL.go hP (by omega) E26_
        have S12 := S12.nx E26_
        have RR := RR.go hP (by omega) E26_
        have S16 := S16.nx E26_
        have RA := RA.go hP (by omega) E26_
        have S18 := S18.nx E26_
        have RT := RT.go hP (by omega) E26_
        have S20 := S20.nx E26_
        have RV := RV.go hP (by omega) E26_
        have S22 := S22.nx E26_
        have RVX := RVX.go hP (by omega) E26_
        have S24 := S24.nx E26_
        have hN := Nat.le_trans hN E26_.size
        generalize ansE (ofD b) (revD (ofD b)) = ery at *
        generalize ansD (ofD b) (revD (ofD b)) = ry at *
        clear E26_ RY S8
        obtain ⟨cs, rfl, cl, co⟩ := RVY.agg
        match cs, cl, co with
        | [d0, d1, d2, d3, d4, d5, d6, d7, d8, d9, d10], _, co =>
        have Sg := SB.new v26_ [.int .i64 0, .int .i64 0, .bool false, .slice none 0 0, .slice none 0 0, .bool false, .slice none 0 0, .slice none 0 0, .string { data := #[] }, .slice none 0 0, .slice none 0 0] 31
        obtain ⟨v27_, hv27_⟩ : ∃ v27_, v27_ = (v26_.alloc (.cells #[.int .i64 0, .int .i64 0, .bool false, .slice none 0 0, .slice none 0 0, .bool false, .slice none 0 0, .slice none 0 0, .string { data := #[] }, .slice none 0 0, .slice none 0 0] 31)).setCells v26_.heap.size 0 [d0, d1, d2, d3, d4, d5, d6, d7, d8, d9, d10] := ⟨_, rfl⟩
        have Bv27_ : Below v26_.heap.size v26_ v27_ := by rw [hv27_]; exact below_cso (bal v26_ _) (Nat.le_refl _) 0 [d0, d1, d2, d3, d4, d5, d6, d7, d8, d9, d10]
        have S26 : SB v27_ v26_.heap.size [d0, d1, d2, d3, d4, d5, d6, d7, d8, d9, d10] := by rw [hv27_]; exact Sg.cells [d0, d1, d2, d3, d4, d5, d6, d7, d8, d9, d10] rfl
        have hgv26_ : n ≤ v26_.heap.size := hN
        replace hv27_ := Lib.hid hv27_
        go_upto_region 15 with (refine wp_stD rfl rfl (.tmp 26) (.tmp 116) rfl v26_.heap.size rfl [d0, d1, d2, d3, d4, d5, d6, d7, d8, d9, d10] rfl rfl _ Sg rfl co ?_; rw [← hv27_.out]; clear hv27_)
        clear Sg co
        have BB := BB.trans (Bv27_.mono (by omega))
        have RZ := RZ.go hP (by omega) Bv27_
        have S9 := S9.nx Bv27_
        have RL := RL.go hP (by omega) Bv27_
        have S12 := S12.nx Bv27_
        have RR := RR.go hP (by omega) Bv27_
        have S16 := S16.nx Bv27_
        have RA := RA.go hP (by omega) Bv27_
        have S18 := S18.nx Bv27_
        have RT := RT.go hP (by omega) Bv27_
        have S20 := S20.nx Bv27_
        have RV := RV.go hP (by omega) Bv27_
        have S22 := S22.nx Bv27_
        have RVX := RVX.go hP (by omega) Bv27_
        have S24 := S24.nx Bv27_
        have RVY := RVY.go hP (by omega) Bv27_
        have hN := Nat.le_trans hN Bv27_.size
        clear Bv27_
        have kd_0 := S26.cell 0; have kd_1 := S26.cell 1; have kd_2 := S26.cell 2; have kd_3 := S26.cell 3; have kd_4 := S26.cell 4; have kd_5 := S26.cell 5; have kd_6 := S26.cell 6; have kd_7 := S26.cell 7; have kd_8 := S26.cell 8; have kd_9 := S26.cell 9; have kd_10 := S26.cell 10
        have kt_0 := S24.cell 0; have kt_1 := S24.cell 1; have kt_2 := S24.cell 2; have kt_3 := S24.cell 3; have kt_4 := S24.cell 4; have kt_5 := S24.cell 5; have kt_6 := S24.cell 6; have kt_7 := S24.cell 7; have kt_8 := S24.cell 8; have kt_9 := S24.cell 9; have kt_10 := S24.cell 10
        have SK := SB.new v27_ [d0, d1, d2, d3, d4, d5, d6, d7, d8, d9, d10, t0, t1, t2, t3, t4, t5, t6, t7, t8, t9, t10] 31
        have Ba := bal v27_ (.cells #[d0, d1, d2, d3, d4, d5, d6, d7, d8, d9, d10, t0, t1, t2, t3, t4, t5, t6, t7, t8, t9, t10] 31)
        obtain ⟨v28_, hv28_⟩ : ∃ v28_, v28_ = v27_.alloc (.cells #[d0, d1, d2, d3, d4, d5, d6, d7, d8, d9, d10, t0, t1, t2, t3, t4, t5, t6, t7, t8, t9, t10] 31) := ⟨_, rfl⟩
        rw [← hv28_] at SK Ba
        replace hv28_ := Lib.hid hv28_
        have hgk : n ≤ v27_.heap.size := hN
        have BB := BB.trans (Ba.mono (by omega))
        have RZ := RZ.go hP (by omega) Ba
        have S9 := S9.nx Ba
        have RL := RL.go hP (by omega) Ba
        have S12 := S12.nx Ba
        have RR := RR.go hP (by omega) Ba
        have S16 := S16.nx Ba
        have RA := RA.go hP (by omega) Ba
        have S18 := S18.nx Ba
        have RT := RT.go hP (by omega) Ba
        have S20 := S20.nx Ba
        have RV := RV.go hP (by omega) Ba
        have S22 := S22.nx Ba
        have RVX := RVX.go hP (by omega) Ba
        have S24 := S24.nx Ba
        have RVY := RVY.go hP (by omega) Ba
        have S26 := S26.nx Ba
        have hN := Nat.le_trans hN Ba.size
        have LK : RLs v28_ (Out P n v28_) (some ⟨v27_.heap.size, 0, none⟩) 2 [ry, rx] := RLs.many (ls := [[d0, d1, d2, d3, d4, d5, d6, d7, d8, d9, d10], [t0, t1, t2, t3, t4, t5, t6, t7, t8, t9, t10]]) (by intro cs h; simp only [List.mem_cons, List.not_mem_nil, or_false] at h; rcases h with rfl | rfl <;> rfl) SK (.inr ⟨hgk, SK.2⟩) (by simp)
          (fun i x hx => match i, hx with
            | 0, hx => by
              obtain rfl : ry = x := by simpa using hx
              exact ⟨_, rfl, RVY⟩
            | 1, hx => by
              obtain rfl : rx = x := by simpa using hx
              exact ⟨_, rfl, RVX⟩
            | i + 2, hx => by simp at hx)
        clear SK Ba
        go_wp2_with fail
        rw [← hv28_.out]
        clear hv28_
        clear kd_0 kd_1 kd_2 kd_3 kd_4 kd_5 kd_6 kd_7 kd_8 kd_9 kd_10 kt_0 kt_1 kt_2 kt_3 kt_4 kt_5 kt_6 kt_7 kt_8 kt_9 kt_10
        refine (lappend_any (some ⟨v27_.heap.size, 0, none⟩) 2 [ry, rx] v28_ (Out P n v28_) (Out.all hP (by omega)) LK (by simp) (hT.go hn BB)).mono ?_
        rintro e v29_ ⟨v10, rfl, RO, E29_⟩
        have RO := RO.res (m := n) hN E29_.size
        clear LK hgk
        have BB := BB.trans (E29_.mono (by omega))
        have RZ := RZ.go hP (by omega) E29_
        have S9 := S9.nx E29_
        have RL := RL.go hP (by omega) E29_
        have S12 := S12.nx E29_
        have RR := RR.go hP (by omega) E29_
        have S16 := S16.nx E29_
        have RA := RA.go hP (by omega) E29_
        have S18 := S18.nx E29_
        have RT := RT.go hP (by omega) E29_
        have S20 := S20.nx E29_
        have RV := RV.go hP (by omega) E29_
        have S22 := S22.nx E29_
        have RVX := RVX.go hP (by omega) E29_
        have S24 := S24.nx E29_
        have RVY := RVY.go hP (by omega) E29_
        have S26 := S26.nx E29_
        have hN := Nat.le_trans hN E29_.size
        clear E29_
        generalize appE [ry, rx] = e6 at *
        generalize appD [ry, rx] = ot at *
        clear S24 S26 RVX RVY
        obtain ⟨cs, rfl, cl, co⟩ := RO.agg
        match cs, cl, co with
        | [m0, m1, m2, m3, m4, m5, m6, m7, m8, m9, m10], _, co =>
        have Sg := SB.new v29_ [.int .i64 0, .int .i64 0, .bool false, .slice none 0 0, .slice none 0 0, .bool false, .slice none 0 0, .slice none 0 0, .string { data := #[] }, .slice none 0 0, .slice none 0 0] 31
        obtain ⟨v30_, hv30_⟩ : ∃ v30_, v30_ = (v29_.alloc (.cells #[.int .i64 0, .int .i64 0, .bool false, .slice none 0 0, .slice none 0 0, .bool false, .slice none 0 0, .slice none 0 0, .string { data := #[] }, .slice none 0 0, .slice none 0 0] 31)).setCells v29_.heap.size 0 [m0, m1, m2, m3, m4, m5, m6, m7, m8, m9, m10] := ⟨_, rfl⟩
        have Bv30_ : Below v29_.heap.size v29_ v30_ := by rw [hv30_]; exact below_cso (bal v29_ _) (Nat.le_refl _) 0 [m0, m1, m2, m3, m4, m5, m6, m7, m8, m9, m10]
        have S28 : SB v30_ v29_.heap.size [m0, m1, m2, m3, m4, m5, m6, m7, m8, m9, m10] := by rw [hv30_]; exact Sg.cells [m0, m1, m2, m3, m4, m5, m6, m7, m8, m9, m10] rfl
        have hgv29_ : n ≤ v29_.heap.size := hN
        replace hv30_ := Lib.hid hv30_
        go_upto_region 16 with (refine wp_stD rfl rfl (.tmp 28) (.tmp 123) rfl v29_.heap.size rfl [m0, m1, m2, m3, m4, m5, m6, m7, m8, m9, m10] rfl rfl _ Sg rfl co ?_; rw [← hv30_.out]; clear hv30_)
        clear Sg co
        have BB := BB.trans (Bv30_.mono (by omega))
        have RZ := RZ.go hP (by omega) Bv30_
        have S9 := S9.nx Bv30_
        have RL := RL.go hP (by omega) Bv30_
        have S12 := S12.nx Bv30_
        have RR := RR.go hP (by omega) Bv30_
        have S16 := S16.nx Bv30_
        have RA := RA.go hP (by omega) Bv30_
        have S18 := S18.nx Bv30_
        have RT := RT.go hP (by omega) Bv30_
        have S20 := S20.nx Bv30_
        have RV := RV.go hP (by omega) Bv30_
        have S22 := S22.nx Bv30_
        have RO := RO.go hP (by omega) Bv30_
        have hN := Nat.le_trans hN Bv30_.size
        clear Bv30_
        have ka_0 := S12.cell 0; have ka_1 := S12.cell 1; have ka_2 := S12.cell 2; have ka_3 := S12.cell 3; have ka_4 := S12.cell 4; have ka_5 := S12.cell 5; have ka_6 := S12.cell 6; have ka_7 := S12.cell 7; have ka_8 := S12.cell 8; have ka_9 := S12.cell 9; have ka_10 := S12.cell 10
        have kb_0 := S16.cell 0; have kb_1 := S16.cell 1; have kb_2 := S16.cell 2; have kb_3 := S16.cell 3; have kb_4 := S16.cell 4; have kb_5 := S16.cell 5; have kb_6 := S16.cell 6; have kb_7 := S16.cell 7; have kb_8 := S16.cell 8; have kb_9 := S16.cell 9; have kb_10 := S16.cell 10
        have cs := rsame_go _ (le) (ri) (Nat.le_refl _) _ _ v30_ (RL.rd (fun z hz => hz.lt hP (by omega))) (RR.rd (fun z hz => hz.lt hP (by omega)))
        rw [LW2.out] at cs
        go_wp2_with fail
        refine (cs).mono ?_
        rintro e v31_ ⟨rfl, E31_⟩
        have BB := BB.trans (E31_.mono (by omega))
        have RZ := RZ.go hP (by omega) E31_
        have S9 := S9.nx E31_
        have RL := RL.go hP (by omega) E31_
        have S12 := S12.nx E31_
        have RR := RR.go hP (by omega) E31_
        have S16 := S16.nx E31_
        have RA := RA.go hP (by omega) E31_
        have S18 := S18.nx E31_
        have RT := RT.go hP (by omega) E31_
        have S20 := S20.nx E31_
        have RV := RV.go hP (by omega) E31_
        have S22 := S22.nx E31_
        have RO := RO.go hP (by omega) E31_
        have S28 := S28.nx E31_
        have hN := Nat.le_trans hN E31_.size
        clear cs E31_
        clear ka_0 ka_1 ka_2 ka_3 ka_4 ka_5 ka_6 ka_7 ka_8 ka_9 ka_10 kb_0 kb_1 kb_2 kb_3 kb_4 kb_5 kb_6 kb_7 kb_8 kb_9 kb_10
        have ka_0 := S12.cell 0; have ka_1 := S12.cell 1; have ka_2 := S12.cell 2; have ka_3 := S12.cell 3; have ka_4 := S12.cell 4; have ka_5 := S12.cell 5; have ka_6 := S12.cell 6; have ka_7 := S12.cell 7; have ka_8 := S12.cell 8; have ka_9 := S12.cell 9; have ka_10 := S12.cell 10
        have kb_0 := S18.cell 0; have kb_1 := S18.cell 1; have kb_2 := S18.cell 2; have kb_3 := S18.cell 3; have kb_4 := S18.cell 4; have kb_5 := S18.cell 5; have kb_6 := S18.cell 6; have kb_7 := S18.cell 7; have kb_8 := S18.cell 8; have kb_9 := S18.cell 9; have kb_10 := S18.cell 10
        have cs := rsame_go _ (le) (al) (Nat.le_refl _) _ _ v31_ (RL.rd (fun z hz => hz.lt hP (by omega))) (RA.rd (fun z hz => hz.lt hP (by omega)))
        rw [LW3.out] at cs
        go_wp2_with fail
        refine (cs).mono ?_
        rintro e v32_ ⟨rfl, E32_⟩
        have BB := BB.trans (E32_.mono (by omega))
        have RZ := RZ.go hP (by omega) E32_
        have S9 := S9.nx E32_
        have RL := RL.go hP (by omega) E32_
        have S12 := S12.nx E32_
        have RR := RR.go hP (by omega) E32_
        have S16 := S16.nx E32_
        have RA := RA.go hP (by omega) E32_
        have S18 := S18.nx E32_
        have RT := RT.go hP (by omega) E32_
        have S20 := S20.nx E32_
        have RV := RV.go hP (by omega) E32_
        have S22 := S22.nx E32_
        have RO := RO.go hP (by omega) E32_
        have S28 := S28.nx E32_
        have hN := Nat.le_trans hN E32_.size
        clear cs E32_
        clear ka_0 ka_1 ka_2 ka_3 ka_4 ka_5 ka_6 ka_7 ka_8 ka_9 ka_10 kb_0 kb_1 kb_2 kb_3 kb_4 kb_5 kb_6 kb_7 kb_8 kb_9 kb_10
        have ka_0 := S20.cell 0; have ka_1 := S20.cell 1; have ka_2 := S20.cell 2; have ka_3 := S20.cell 3; have ka_4 := S20.cell 4; have ka_5 := S20.cell 5; have ka_6 := S20.cell 6; have ka_7 := S20.cell 7; have ka_8 := S20.cell 8; have ka_9 := S20.cell 9; have ka_10 := S20.cell 10
        have kb_0 := S9.cell 0; have kb_1 := S9.cell 1; have kb_2 := S9.cell 2; have kb_3 := S9.cell 3; have kb_4 := S9.cell 4; have kb_5 := S9.cell 5; have kb_6 := S9.cell 6; have kb_7 := S9.cell 7; have kb_8 := S9.cell 8; have kb_9 := S9.cell 9; have kb_10 := S9.cell 10
        have cs := rsame_go _ (tl) (ofD c) (Nat.le_refl _) _ _ v32_ (RT.rd (fun z hz => hz.lt hP (by omega))) (RZ.rd (fun z hz => hz.lt hP (by omega)))
        rw [LW4.out] at cs
        go_wp2_with fail
        refine (cs).mono ?_
        rintro e v33_ ⟨rfl, E33_⟩
        have BB := BB.trans (E33_.mono (by omega))
        have RZ := RZ.go hP (by omega) E33_
        have S9 := S9.nx E33_
        have RL := RL.go hP (by omega) E33_
        have S12 := S12.nx E33_
        have RR := RR.go hP (by omega) E33_
        have S16 := S16.nx E33_
        have RA := RA.go hP (by omega) E33_
        have S18 := S18.nx E33_
        have RT := RT.go hP (by omega) E33_
        have S20 := S20.nx E33_
        have RV := RV.go hP (by omega) E33_
        have S22 := S22.nx E33_
        have RO := RO.go hP (by omega) E33_
        have S28 := S28.nx E33_
        have hN := Nat.le_trans hN E33_.size
        clear cs E33_
        clear ka_0 ka_1 ka_2 ka_3 ka_4 ka_5 ka_6 ka_7 ka_8 ka_9 ka_10 kb_0 kb_1 kb_2 kb_3 kb_4 kb_5 kb_6 kb_7 kb_8 kb_9 kb_10
        have ka_0 := S22.cell 0; have ka_1 := S22.cell 1; have ka_2 := S22.cell 2; have ka_3 := S22.cell 3; have ka_4 := S22.cell 4; have ka_5 := S22.cell 5; have ka_6 := S22.cell 6; have ka_7 := S22.cell 7; have ka_8 := S22.cell 8; have ka_9 := S22.cell 9; have ka_10 := S22.cell 10
        have kb_0 := S28.cell 0; have kb_1 := S28.cell 1; have kb_2 := S28.cell 2; have kb_3 := S28.cell 3; have kb_4 := S28.cell 4; have kb_5 := S28.cell 5; have kb_6 := S28.cell 6; have kb_7 := S28.cell 7; have kb_8 := S28.cell 8; have kb_9 := S28.cell 9; have kb_10 := S28.cell 10
        have cs := rsame_go _ (rv) (ot) (Nat.le_refl _) _ _ v33_ (RV.rd (fun z hz => hz.lt hP (by omega))) (RO.rd (fun z hz => hz.lt hP (by omega)))
        rw [LW5.out] at cs
        go_wp2_with fail
        refine (cs).mono ?_
        rintro e v34_ ⟨rfl, E34_⟩
        have BB := BB.trans (E34_.mono (by omega))
        have RZ := RZ.go hP (by omega) E34_
        have S9 := S9.nx E34_
        have RL := RL.go hP (by omega) E34_
        have S12 := S12.nx E34_
        have RR := RR.go hP (by omega) E34_
        have S16 := S16.nx E34_
        have RA := RA.go hP (by omega) E34_
        have S18 := S18.nx E34_
        have RT := RT.go hP (by omega) E34_
        have S20 := S20.nx E34_
        have RV := RV.go hP (by omega) E34_
        have S22 := S22.nx E34_
        have RO := RO.go hP (by omega) E34_
        have S28 := S28.nx E34_
        have hN := Nat.le_trans hN E34_.size
        clear cs E34_
        clear ka_0 ka_1 ka_2 ka_3 ka_4 ka_5 ka_6 ka_7 ka_8 ka_9 ka_10 kb_0 kb_1 kb_2 kb_3 kb_4 kb_5 kb_6 kb_7 kb_8 kb_9 kb_10
        go_wp2_with fail
        go_ret
        rw [hn]
        exact ⟨rfl, BB⟩
      · subst h1
        have hz : (e2 != 0) = true := by simpa using h2
        go_wp2_with fail
        refine (fin _ BB).mono ?_
        rintro e w9 ⟨rfl, B9⟩
        have BB := BB.trans (B9.mono (by omega))
        go_wp2_with fail
        go_ret
        rw [hn]
        exact ⟨rfl, BB⟩
    · skip
      have hz : (e1 != 0) = true := by simpa using h1
      go_wp2_with fail
      refine (fin _ BB).mono ?_
      rintro e w9 ⟨rfl, B9⟩
      have BB := BB.trans (B9.mono (by omega))
      go_wp2_with fail
      go_ret
      rw [hn]
      exact ⟨rfl, BB⟩
  · have hs1 : (200 : Int) < (a.length : Int) + (b.length : Int) + (c.length : Int) := by omega
    replace hn := hn.out
    go_wp2_with fail
    refine (awake11_any w hT).mono ?_
    rintro e w9 ⟨rfl, B9⟩
    go_wp2_with fail
    go_ret
    exact ⟨rfl, B9⟩

theorem joins_card (A1 : Option Addr) (c1 : Nat) (a : List Dat) (A2 : Option Addr) (c2 : Nat) (b : List Dat) (A3 : Option Addr) (c3 : Nat) (c : List Dat) (w : World) (hA : RLs w (fun b => b < w.heap.size) A1 c1 a) (_ : a.length ≤ 1048576) (hB : RLs w (fun b => b < w.heap.size) A2 c2 b) (_ : b.length ≤ 1048576) (hC : RLs w (fun b => b < w.heap.size) A3 c3 c) (_ : c.length ≤ 1048576) (hT : Lib.Utf8Tabs (Tryd.lays196_ren.g 3) (Tryd.lays196_ren.g 4) w) :
    Calls Tryd.prog 3 #[.slice A1 a.length c1, .slice A2 b.length c2, .slice A3 c.length c3] w fun e w' => e = .returned (.bool true) ∧ Below w.heap.size w w' := joins_walk A1 A2 A3 c1 c2 c3 a b c w _ (fun _ h => h) hA hB hC hT
end Go.Proofs.YtilhnjecnhpmlaaDoor
