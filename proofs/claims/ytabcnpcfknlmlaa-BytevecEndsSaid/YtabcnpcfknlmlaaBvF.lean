/- The walk of BytevecEnds. -/
import Derived.Test.YtabcnpcfknlmlaaBvE
namespace Go.Proofs.Ytabcnpcfknlmlaa
open Go.RowKit

/-- the first k bytes from the end -/
def rvT (l : List UInt8) (k : Nat) : List UInt8 := l.reverse.take k
theorem rvT_len {l : List UInt8} {k : Nat} (h : k ≤ l.length) : (rvT l k).length = k := by unfold rvT; simp; omega
theorem rvT_all (l : List UInt8) : rvT l l.length = l.reverse := by
  unfold rvT
  exact List.take_of_length_le (by simp)
theorem rvT_succ {l : List UInt8} {k j : Nat} (h : k < l.length) (hj : j = l.length - 1 - k) : rvT l (k + 1) = rvT l k ++ [bg l j] := by
  unfold rvT
  rw [take_bg (by simpa using h), bg_rev h, hj]


set_option maxRecDepth 100000 in
set_option maxHeartbeats 16000000 in
theorem ends_b (A : Option Addr) (c : Nat) (l : List UInt8) (w : World) (h : RB w w.heap.size A c l) (h1 : 1 ≤ l.length) (h2 : l.length ≤ 64) (rx rs rf ri z : Rw)
    (gX : getQ l 0 (l.length : Int) true false = (rx, z, 0)) (gY : getQ l.reverse 0 (l.length : Int) false false = (rx, z, 0)) (gS : getQ l 0 (l.length : Int) true true = (rs, z, 0))
    (gF : qexptA ri z (l.length : Int) = (rf, z, 0)) (gI : ∀ w', Calls Try.prog 21 #[.int .i64 256] w' (RetN w' ri z)) (gC : qcmpA rx z rf z = (-1, 0)) (nx : sameB rx z rx z = true) (ns : sameB rs z rs z = true)
    (hc : 128 ≤ (bg l 0).toNat) (gD : qsubA rx z rf z = (rs, z, 0)) :
    Calls Try.prog 7 #[.slice A l.length c] w fun e w' => e = .returned (.bool true) ∧ Below w.heap.size w w' := by
  have hl := h.big
  obtain ⟨b', off', rfl, hlt, hx⟩ := RM.at_ h (by omega)
  have e1 : ¬ (l.length : Int) < 1 := by omega
  have e2 : ¬ (64 : Int) < (l.length : Int) := by omega
  have hi0 : (0 : Int) < (l.length : Int) := by omega
  have hb255 := (bg l 0).toNat_lt
  have hge : (128 : Int) ≤ ((bg l 0).toNat : Int) := by omega
  have o1 := fun w' x => get_any (some ⟨b', off', none⟩) c l.length l 0 (l.length : Int) true false w' rfl x (by omega) (by omega) (by omega) (by omega)
  rw [gX] at o1
  have o3 := fun w' x => get_any (some ⟨b', off', none⟩) c l.length l 0 (l.length : Int) true true w' rfl x (by omega) (by omega) (by omega) (by omega)
  rw [gS] at o3
  have o2 := fun A5 c5 w' x => get_any A5 c5 l.length l.reverse 0 (l.length : Int) false false w' (by simp) x (by omega) (by omega) (by omega) (by omega)
  rw [gY] at o2
  have o5 := fun V w' h => eexpt_any (V := V) (r := ri) (i := z) (n := (l.length : Int)) (w := w') h
  rw [gF] at o5
  have o6 := fun V U w' h1 h2 => esub_any (V := V) (U := U) (r := rx) (i := z) (r' := rf) (i' := z) (w := w') h1 h2
  rw [gD] at o6
  have o7 := fun V U w' h1 h2 => ecmp_any (V := V) (U := U) (r := rx) (i := z) (r' := rf) (i' := z) (w := w') h1 h2
  rw [gC] at o7
  have l1 := fun V U w' h1 h2 => esame_any V U rx z rx z w' h1 h2
  rw [nx] at l1
  have l2 := fun V U w' h1 h2 => esame_any V U rs z rs z w' h1 h2
  rw [ns] at l2
  clear gX gY gS gF gC nx ns gD
  go_enter Try.func7, Try.ntmps7
  go_wp2_with fail
  refine (awake5_any _).mono ?_; rintro e w2 ⟨rfl, B2⟩
  go_wp2_with fail
  go_loopg [4, 5] l.length (fun gg rv iv wr => ∃ (k : Nat) (A5 : Option Addr) (c5 : Nat), k ≤ l.length ∧ l.length - k = gg ∧ iv = .int .i64 (k : Int) ∧ rv = .slice A5 (rvT l k).length c5 ∧ OB wr w2.heap.size A5 c5 (rvT l k) ∧ Below w2.heap.size w2 wr)
  case atStart => exact ⟨0, _, 0, Nat.zero_le _, rfl, rfl, rfl, OB.empty w2, bal _ _⟩
  case round =>
    obtain ⟨k, A5, c5, hk, rfl, rfl, rfl, O5, B5⟩ := hrel
    by_cases h0 : k < l.length
    · obtain ⟨j, hj⟩ : ∃ j, j = l.length - 1 - k := ⟨_, rfl⟩
      have hj1 : (l.length : Int) - 1 - (k : Int) = (j : Int) := by omega
      have hj2 : (j : Int) < (l.length : Int) := by omega
      have hT := Lib.hid (rvT_succ h0 hj)
      have x1 := ((bt B2 B5).cell (p := ⟨b', off' + j, none⟩) hlt).trans (hx j _ (bg_get? (by omega)))
      have hn : (rvT l k).length = k := rvT_len hk
      have hone := RB.one wr 5 (bg l j)
      have Ba := bal wr (.cells #[.int .u8 ((bg l j).toNat : Int)] 5)
      have hkl := Nat.le_trans hk h2
      simp only [f8] at x1
      have hlen : (rvT l k).length + [bg l j].length ≤ 140737488351232 := by rw [hn]; simp; omega
      have HL := Lib.hid hlen
      clear hj hlen hn hkl hx o1 o2 o3 o5 o7 l1 l2 gI o6
      go_wp2_with (at_builtin; refine wp_appB _ rfl _ _ rfl w2.heap.size _ _ _ (rvT l k) rfl rfl (O5.alloc _) _ _ _ [bg l j] rfl rfl _ hone HL.out (Nat.le_trans B5.size Ba.size) ?_; intro A' c' w' g1 g2 g3)
      go_roundg (l.length - (k + 1))
      case measure => omega
      case rel => exact ⟨k + 1, A', c', by omega, rfl, by go_num, by rw [hT.out, List.length_append]; rfl, by rw [hT.out]; exact g1, (B5.trans (Ba.mono B5.size)).trans g3⟩
    · obtain rfl : k = l.length := by omega
      have hv := rvT_all l
      have hvl := rvT_len (Nat.le_refl l.length)
      rw [hvl]
      rw [hv] at O5
      clear hv hvl h0 hk
      have C0 := bt B2 B5
      have hA := RM.step h C0 C0.size
      have hR := OM.rl O5
      have q00 : w.cell? ⟨b', off', none⟩ = some (.int .u8 ((bg l 0).toNat : Int)) := by have := hx 0 _ (bg_get? (by omega)); simpa only [f8, Nat.add_zero] using this
      clear hx O5 B5 B2
      go_wp2_with fail
      refine (o1 _ hA).mono ?_; rintro e w30 ⟨A30a, c30a, D30a, d30a, A30b, c30b, D30b, d30b, rfl, O30a, O30b, O30c, O30d, B30⟩
      try dsimp only at O30a O30b O30c O30d
      have H_x : VN w30 w30.heap.size (.agg #[.bool rx.s, .slice A30a rx.a.length c30a, .slice D30a rx.b.length d30a, .bool z.s, .slice A30b z.a.length c30b, .slice D30b z.b.length d30b]) rx z := ⟨A30a, c30a, D30a, d30a, A30b, c30b, D30b, d30b, rfl, O30a.rw, O30b.rw, O30c.rw, O30d.rw⟩
      clear O30a O30b O30c O30d
      have C0 := bt C0 B30
      have hA := RM.step hA B30 (Below.size B30)
      have hR := RM.step hR B30 (Below.size B30)
      have L30 := bal w30 (.cells #[.bool rx.s, .slice A30a rx.a.length c30a, .slice D30a rx.b.length d30a, .bool z.s, .slice A30b z.a.length c30b, .slice D30b z.b.length d30b] 27)
      have S_x := SB.new w30 [.bool rx.s, .slice A30a rx.a.length c30a, .slice D30a rx.b.length d30a, .bool z.s, .slice A30b z.a.length c30b, .slice D30b z.b.length d30b] 27
      have H_x := H_x.st L30
      have C0 := bt C0 L30
      have hA := RM.step hA L30 (Below.size L30)
      have hR := RM.step hR L30 (Below.size L30)
      go_wp2_with fail
      refine (o2 _ _ _ hR).mono ?_; rintro e w31 ⟨A31a, c31a, D31a, d31a, A31b, c31b, D31b, d31b, rfl, O31a, O31b, O31c, O31d, B31⟩
      try dsimp only at O31a O31b O31c O31d
      have H_y : VN w31 w31.heap.size (.agg #[.bool rx.s, .slice A31a rx.a.length c31a, .slice D31a rx.b.length d31a, .bool z.s, .slice A31b z.a.length c31b, .slice D31b z.b.length d31b]) rx z := ⟨A31a, c31a, D31a, d31a, A31b, c31b, D31b, d31b, rfl, O31a.rw, O31b.rw, O31c.rw, O31d.rw⟩
      clear O31a O31b O31c O31d
      have S_x := S_x.nx B31
      have H_x := H_x.st B31
      have C0 := bt C0 B31
      have hA := RM.step hA B31 (Below.size B31)
      have hR := RM.step hR B31 (Below.size B31)
      have L31 := bal w31 (.cells #[.bool rx.s, .slice A31a rx.a.length c31a, .slice D31a rx.b.length d31a, .bool z.s, .slice A31b z.a.length c31b, .slice D31b z.b.length d31b] 27)
      have S_y := SB.new w31 [.bool rx.s, .slice A31a rx.a.length c31a, .slice D31a rx.b.length d31a, .bool z.s, .slice A31b z.a.length c31b, .slice D31b z.b.length d31b] 27
      have S_x := S_x.nx L31
      have H_x := H_x.st L31
      have H_y := H_y.st L31
      have C0 := bt C0 L31
      have hA := RM.step hA L31 (Below.size L31)
      have hR := RM.step hR L31 (Below.size L31)
      clear hR
      go_wp2_with fail
      refine (o3 _ hA).mono ?_; rintro e w32 ⟨A32a, c32a, D32a, d32a, A32b, c32b, D32b, d32b, rfl, O32a, O32b, O32c, O32d, B32⟩
      try dsimp only at O32a O32b O32c O32d
      have H_s : VN w32 w32.heap.size (.agg #[.bool rs.s, .slice A32a rs.a.length c32a, .slice D32a rs.b.length d32a, .bool z.s, .slice A32b z.a.length c32b, .slice D32b z.b.length d32b]) rs z := ⟨A32a, c32a, D32a, d32a, A32b, c32b, D32b, d32b, rfl, O32a.rw, O32b.rw, O32c.rw, O32d.rw⟩
      clear O32a O32b O32c O32d
      have S_x := S_x.nx B32
      have H_x := H_x.st B32
      have S_y := S_y.nx B32
      have H_y := H_y.st B32
      have C0 := bt C0 B32
      have hA := RM.step hA B32 (Below.size B32)
      have L32 := bal w32 (.cells #[.bool rs.s, .slice A32a rs.a.length c32a, .slice D32a rs.b.length d32a, .bool z.s, .slice A32b z.a.length c32b, .slice D32b z.b.length d32b] 27)
      have S_s := SB.new w32 [.bool rs.s, .slice A32a rs.a.length c32a, .slice D32a rs.b.length d32a, .bool z.s, .slice A32b z.a.length c32b, .slice D32b z.b.length d32b] 27
      have S_x := S_x.nx L32
      have H_x := H_x.st L32
      have S_y := S_y.nx L32
      have H_y := H_y.st L32
      have H_s := H_s.st L32
      have C0 := bt C0 L32
      have hA := RM.step hA L32 (Below.size L32)
      clear hA
      go_wp2_with fail
      refine (gI _).mono ?_; rintro e w33 ⟨A33a, c33a, D33a, d33a, A33b, c33b, D33b, d33b, rfl, O33a, O33b, O33c, O33d, B33⟩
      try dsimp only at O33a O33b O33c O33d
      have H_i : VN w33 w33.heap.size (.agg #[.bool ri.s, .slice A33a ri.a.length c33a, .slice D33a ri.b.length d33a, .bool z.s, .slice A33b z.a.length c33b, .slice D33b z.b.length d33b]) ri z := ⟨A33a, c33a, D33a, d33a, A33b, c33b, D33b, d33b, rfl, O33a.rw, O33b.rw, O33c.rw, O33d.rw⟩
      clear O33a O33b O33c O33d
      have S_x := S_x.nx B33
      have H_x := H_x.st B33
      have S_y := S_y.nx B33
      have H_y := H_y.st B33
      have S_s := S_s.nx B33
      have H_s := H_s.st B33
      have C0 := bt C0 B33
      go_wp2_with fail
      refine (o5 _ _ H_i).mono ?_; rintro e w34 ⟨A34a, c34a, D34a, d34a, A34b, c34b, D34b, d34b, rfl, O34a, O34b, O34c, O34d, B34⟩
      clear H_i
      try dsimp only at O34a O34b O34c O34d
      have H_f : VN w34 w34.heap.size (.agg #[.bool rf.s, .slice A34a rf.a.length c34a, .slice D34a rf.b.length d34a, .bool z.s, .slice A34b z.a.length c34b, .slice D34b z.b.length d34b]) rf z := ⟨A34a, c34a, D34a, d34a, A34b, c34b, D34b, d34b, rfl, O34a.rw, O34b.rw, O34c.rw, O34d.rw⟩
      clear O34a O34b O34c O34d
      have S_x := S_x.nx B34
      have H_x := H_x.st B34
      have S_y := S_y.nx B34
      have H_y := H_y.st B34
      have S_s := S_s.nx B34
      have H_s := H_s.st B34
      have C0 := bt C0 B34
      have Lf := bal w34 (.cells #[.bool rf.s, .slice A34a rf.a.length c34a, .slice D34a rf.b.length d34a, .bool z.s, .slice A34b z.a.length c34b, .slice D34b z.b.length d34b] 27)
      have S_f := SB.new w34 [.bool rf.s, .slice A34a rf.a.length c34a, .slice D34a rf.b.length d34a, .bool z.s, .slice A34b z.a.length c34b, .slice D34b z.b.length d34b] 27
      have S_x := S_x.nx Lf
      have H_x := H_x.st Lf
      have S_y := S_y.nx Lf
      have H_y := H_y.st Lf
      have S_s := S_s.nx Lf
      have H_s := H_s.st Lf
      have H_f := H_f.st Lf
      have C0 := bt C0 Lf
      have i0 := S_x.cell 0
      have i1 := S_x.cell 1
      have i2 := S_x.cell 2
      have i3 := S_x.cell 3
      have i4 := S_x.cell 4
      have i5 := S_x.cell 5
      have Lw := bal (w34.alloc (.cells #[.bool rf.s, .slice A34a rf.a.length c34a, .slice D34a rf.b.length d34a, .bool z.s, .slice A34b z.a.length c34b, .slice D34b z.b.length d34b] 27)) (.cells #[.bool rx.s, .slice A30a rx.a.length c30a, .slice D30a rx.b.length d30a, .bool z.s, .slice A30b z.a.length c30b, .slice D30b z.b.length d30b] 27)
      have S_w := SB.new (w34.alloc (.cells #[.bool rf.s, .slice A34a rf.a.length c34a, .slice D34a rf.b.length d34a, .bool z.s, .slice A34b z.a.length c34b, .slice D34b z.b.length d34b] 27)) [.bool rx.s, .slice A30a rx.a.length c30a, .slice D30a rx.b.length d30a, .bool z.s, .slice A30b z.a.length c30b, .slice D30b z.b.length d30b] 27
      have zw : (w34.alloc (.cells #[.bool rf.s, .slice A34a rf.a.length c34a, .slice D34a rf.b.length d34a, .bool z.s, .slice A34b z.a.length c34b, .slice D34b z.b.length d34b] 27)).heap.size = w34.heap.size + 1 := by simp
      rw [zw] at S_w
      have Cw := bt C0 Lw
      have q1 := (Cw.cell (p := ⟨b', off' , none⟩) hlt).trans q00
      have S_xw := S_x.nx Lw
      have S_fw := S_f.nx Lw
      have H_xw := H_x.st Lw
      have H_fw := H_f.st Lw
      have m0 := S_xw.cell 0
      have m1 := S_xw.cell 1
      have m2 := S_xw.cell 2
      have m3 := S_xw.cell 3
      have m4 := S_xw.cell 4
      have m5 := S_xw.cell 5
      have n0 := S_fw.cell 0
      have n1 := S_fw.cell 1
      have n2 := S_fw.cell 2
      have n3 := S_fw.cell 3
      have n4 := S_fw.cell 4
      have n5 := S_fw.cell 5
      go_wp2_with fail
      refine (o6 _ _ _ H_xw H_fw).mono ?_; rintro e w40 ⟨A40a, c40a, D40a, d40a, A40b, c40b, D40b, d40b, rfl, O1, O2, O3, O4, B40⟩
      try dsimp only at O1 O2 O3 O4
      clear m0 m1 m2 m3 m4 m5 n0 n1 n2 n3 n4 n5 i0 i1 i2 i3 i4 i5 S_xw S_fw H_xw H_fw q1 q00
      have hgw := S_w.2
      have S_w := S_w.nx B40
      have hRC := S_w.rc (n := 6)
      have S_w := hRC.put6 (.bool rs.s) (.slice A40a rs.a.length c40a) (.slice D40a rs.b.length d40a) (.bool z.s) (.slice A40b z.a.length c40b) (.slice D40b z.b.length d40b)
      have BW := wr6_below (b := (w34.heap.size + 1)) (bt Lw B40) (Nat.le_of_eq zw) (.bool rs.s) (.slice A40a rs.a.length c40a) (.slice D40a rs.b.length d40a) (.bool z.s) (.slice A40b z.a.length c40b) (.slice D40b z.b.length d40b)
      have O1 := O1.put6 (b := (w34.heap.size + 1)) hgw (.bool rs.s) (.slice A40a rs.a.length c40a) (.slice D40a rs.b.length d40a) (.bool z.s) (.slice A40b z.a.length c40b) (.slice D40b z.b.length d40b)
      have O2 := O2.put6 (b := (w34.heap.size + 1)) hgw (.bool rs.s) (.slice A40a rs.a.length c40a) (.slice D40a rs.b.length d40a) (.bool z.s) (.slice A40b z.a.length c40b) (.slice D40b z.b.length d40b)
      have O3 := O3.put6 (b := (w34.heap.size + 1)) hgw (.bool rs.s) (.slice A40a rs.a.length c40a) (.slice D40a rs.b.length d40a) (.bool z.s) (.slice A40b z.a.length c40b) (.slice D40b z.b.length d40b)
      have O4 := O4.put6 (b := (w34.heap.size + 1)) hgw (.bool rs.s) (.slice A40a rs.a.length c40a) (.slice D40a rs.b.length d40a) (.bool z.s) (.slice A40b z.a.length c40b) (.slice D40b z.b.length d40b)
      have S_x := S_x.nx BW
      have H_x := H_x.st BW
      have S_y := S_y.nx BW
      have H_y := H_y.st BW
      have S_s := S_s.nx BW
      have H_s := H_s.st BW
      have S_f := S_f.nx BW
      have H_f := H_f.st BW
      have C0 := bt C0 BW
      obtain ⟨W, hW⟩ : ∃ W, W = wr6 w40 (w34.heap.size + 1) (.bool rs.s) (.slice A40a rs.a.length c40a) (.slice D40a rs.b.length d40a) (.bool z.s) (.slice A40b z.a.length c40b) (.slice D40b z.b.length d40b) := ⟨_, rfl⟩
      rw [← hW] at S_w C0 O1 O2 O3 O4 S_x H_x S_y H_y S_s H_s S_f H_f
      have H_w : VN W W.heap.size (.agg #[.bool rs.s, .slice A40a rs.a.length c40a, .slice D40a rs.b.length d40a, .bool z.s, .slice A40b z.a.length c40b, .slice D40b z.b.length d40b]) rs z := ⟨A40a, c40a, D40a, d40a, A40b, c40b, D40b, d40b, rfl, O1.rw, O2.rw, O3.rw, O4.rw⟩
      clear O1 O2 O3 O4 BW hgw B40
      have m0 := S_x.cell 0
      have m1 := S_x.cell 1
      have m2 := S_x.cell 2
      have m3 := S_x.cell 3
      have m4 := S_x.cell 4
      have m5 := S_x.cell 5
      have n0 := S_f.cell 0
      have n1 := S_f.cell 1
      have n2 := S_f.cell 2
      have n3 := S_f.cell 3
      have n4 := S_f.cell 4
      have n5 := S_f.cell 5
      go_wp2_with ((refine wp_st6 rfl (.tmp 14) (.tmp 79) rfl _ rfl _ _ _ _ _ _ rfl hRC rfl rfl rfl rfl rfl rfl ?_; rw [← hW]; clear hW))
      refine (o7 _ _ _ H_x H_f).mono ?_; rintro e w50 ⟨rfl, B50⟩
      clear m0 m1 m2 m3 m4 m5 n0 n1 n2 n3 n4 n5 hRC
      have S_x := S_x.nx B50
      have H_x := H_x.st B50
      have S_y := S_y.nx B50
      have H_y := H_y.st B50
      have S_s := S_s.nx B50
      have H_s := H_s.st B50
      have S_f := S_f.nx B50
      have H_f := H_f.st B50
      have S_w := S_w.nx B50
      have H_w := H_w.st B50
      have C0 := bt C0 B50
      clear S_f H_f
      have m0 := S_x.cell 0
      have m1 := S_x.cell 1
      have m2 := S_x.cell 2
      have m3 := S_x.cell 3
      have m4 := S_x.cell 4
      have m5 := S_x.cell 5
      have n0 := S_y.cell 0
      have n1 := S_y.cell 1
      have n2 := S_y.cell 2
      have n3 := S_y.cell 3
      have n4 := S_y.cell 4
      have n5 := S_y.cell 5
      go_wp2_with fail
      refine (l1 _ _ _ H_x H_y).mono ?_; rintro e w51 ⟨rfl, B51⟩
      clear m0 m1 m2 m3 m4 m5 n0 n1 n2 n3 n4 n5
      have S_x := S_x.nx B51
      have H_x := H_x.st B51
      have S_y := S_y.nx B51
      have H_y := H_y.st B51
      have S_s := S_s.nx B51
      have H_s := H_s.st B51
      have S_w := S_w.nx B51
      have H_w := H_w.st B51
      have C0 := bt C0 B51
      have m0 := S_s.cell 0
      have m1 := S_s.cell 1
      have m2 := S_s.cell 2
      have m3 := S_s.cell 3
      have m4 := S_s.cell 4
      have m5 := S_s.cell 5
      have n0 := S_w.cell 0
      have n1 := S_w.cell 1
      have n2 := S_w.cell 2
      have n3 := S_w.cell 3
      have n4 := S_w.cell 4
      have n5 := S_w.cell 5
      go_wp2_with fail
      refine (l2 _ _ _ H_s H_w).mono ?_; rintro e w52 ⟨rfl, B52⟩
      have C0 := bt C0 B52
      go_wp2_with fail
      go_ret
      exact ⟨by simp, C0⟩

set_option maxRecDepth 100000 in
set_option maxHeartbeats 16000000 in
theorem ends_s (A : Option Addr) (c : Nat) (l : List UInt8) (w : World) (h : RB w w.heap.size A c l) (h1 : 1 ≤ l.length) (h2 : l.length ≤ 64) (rx rs rf ri z : Rw)
    (gX : getQ l 0 (l.length : Int) true false = (rx, z, 0)) (gY : getQ l.reverse 0 (l.length : Int) false false = (rx, z, 0)) (gS : getQ l 0 (l.length : Int) true true = (rs, z, 0))
    (gF : qexptA ri z (l.length : Int) = (rf, z, 0)) (gI : ∀ w', Calls Try.prog 21 #[.int .i64 256] w' (RetN w' ri z)) (gC : qcmpA rx z rf z = (-1, 0)) (nx : sameB rx z rx z = true) (ns : sameB rs z rs z = true)
    (hc : (bg l 0).toNat < 128) (hsx : rs = rx) :
    Calls Try.prog 7 #[.slice A l.length c] w fun e w' => e = .returned (.bool true) ∧ Below w.heap.size w w' := by
  subst hsx
  have hl := h.big
  obtain ⟨b', off', rfl, hlt, hx⟩ := RM.at_ h (by omega)
  have e1 : ¬ (l.length : Int) < 1 := by omega
  have e2 : ¬ (64 : Int) < (l.length : Int) := by omega
  have hi0 : (0 : Int) < (l.length : Int) := by omega
  have hb255 := (bg l 0).toNat_lt
  have hge : ¬ (128 : Int) ≤ ((bg l 0).toNat : Int) := by omega
  have o1 := fun w' x => get_any (some ⟨b', off', none⟩) c l.length l 0 (l.length : Int) true false w' rfl x (by omega) (by omega) (by omega) (by omega)
  rw [gX] at o1
  have o3 := fun w' x => get_any (some ⟨b', off', none⟩) c l.length l 0 (l.length : Int) true true w' rfl x (by omega) (by omega) (by omega) (by omega)
  rw [gS] at o3
  have o2 := fun A5 c5 w' x => get_any A5 c5 l.length l.reverse 0 (l.length : Int) false false w' (by simp) x (by omega) (by omega) (by omega) (by omega)
  rw [gY] at o2
  have o5 := fun V w' h => eexpt_any (V := V) (r := ri) (i := z) (n := (l.length : Int)) (w := w') h
  rw [gF] at o5
  have o7 := fun V U w' h1 h2 => ecmp_any (V := V) (U := U) (r := rs) (i := z) (r' := rf) (i' := z) (w := w') h1 h2
  rw [gC] at o7
  have l1 := fun V U w' h1 h2 => esame_any V U rs z rs z w' h1 h2
  rw [nx] at l1
  have l2 := fun V U w' h1 h2 => esame_any V U rs z rs z w' h1 h2
  rw [ns] at l2
  clear gX gY gS gF gC nx ns
  go_enter Try.func7, Try.ntmps7
  go_wp2_with fail
  refine (awake5_any _).mono ?_; rintro e w2 ⟨rfl, B2⟩
  go_wp2_with fail
  go_loopg [4, 5] l.length (fun gg rv iv wr => ∃ (k : Nat) (A5 : Option Addr) (c5 : Nat), k ≤ l.length ∧ l.length - k = gg ∧ iv = .int .i64 (k : Int) ∧ rv = .slice A5 (rvT l k).length c5 ∧ OB wr w2.heap.size A5 c5 (rvT l k) ∧ Below w2.heap.size w2 wr)
  case atStart => exact ⟨0, _, 0, Nat.zero_le _, rfl, rfl, rfl, OB.empty w2, bal _ _⟩
  case round =>
    obtain ⟨k, A5, c5, hk, rfl, rfl, rfl, O5, B5⟩ := hrel
    by_cases h0 : k < l.length
    · obtain ⟨j, hj⟩ : ∃ j, j = l.length - 1 - k := ⟨_, rfl⟩
      have hj1 : (l.length : Int) - 1 - (k : Int) = (j : Int) := by omega
      have hj2 : (j : Int) < (l.length : Int) := by omega
      have hT := Lib.hid (rvT_succ h0 hj)
      have x1 := ((bt B2 B5).cell (p := ⟨b', off' + j, none⟩) hlt).trans (hx j _ (bg_get? (by omega)))
      have hn : (rvT l k).length = k := rvT_len hk
      have hone := RB.one wr 5 (bg l j)
      have Ba := bal wr (.cells #[.int .u8 ((bg l j).toNat : Int)] 5)
      have hkl := Nat.le_trans hk h2
      simp only [f8] at x1
      have hlen : (rvT l k).length + [bg l j].length ≤ 140737488351232 := by rw [hn]; simp; omega
      have HL := Lib.hid hlen
      clear hj hlen hn hkl hx o1 o2 o3 o5 o7 l1 l2 gI
      go_wp2_with (at_builtin; refine wp_appB _ rfl _ _ rfl w2.heap.size _ _ _ (rvT l k) rfl rfl (O5.alloc _) _ _ _ [bg l j] rfl rfl _ hone HL.out (Nat.le_trans B5.size Ba.size) ?_; intro A' c' w' g1 g2 g3)
      go_roundg (l.length - (k + 1))
      case measure => omega
      case rel => exact ⟨k + 1, A', c', by omega, rfl, by go_num, by rw [hT.out, List.length_append]; rfl, by rw [hT.out]; exact g1, (B5.trans (Ba.mono B5.size)).trans g3⟩
    · obtain rfl : k = l.length := by omega
      have hv := rvT_all l
      have hvl := rvT_len (Nat.le_refl l.length)
      rw [hvl]
      rw [hv] at O5
      clear hv hvl h0 hk
      have C0 := bt B2 B5
      have hA := RM.step h C0 C0.size
      have hR := OM.rl O5
      have q00 : w.cell? ⟨b', off', none⟩ = some (.int .u8 ((bg l 0).toNat : Int)) := by have := hx 0 _ (bg_get? (by omega)); simpa only [f8, Nat.add_zero] using this
      clear hx O5 B5 B2
      go_wp2_with fail
      refine (o1 _ hA).mono ?_; rintro e w30 ⟨A30a, c30a, D30a, d30a, A30b, c30b, D30b, d30b, rfl, O30a, O30b, O30c, O30d, B30⟩
      try dsimp only at O30a O30b O30c O30d
      have H_x : VN w30 w30.heap.size (.agg #[.bool rs.s, .slice A30a rs.a.length c30a, .slice D30a rs.b.length d30a, .bool z.s, .slice A30b z.a.length c30b, .slice D30b z.b.length d30b]) rs z := ⟨A30a, c30a, D30a, d30a, A30b, c30b, D30b, d30b, rfl, O30a.rw, O30b.rw, O30c.rw, O30d.rw⟩
      clear O30a O30b O30c O30d
      have C0 := bt C0 B30
      have hA := RM.step hA B30 (Below.size B30)
      have hR := RM.step hR B30 (Below.size B30)
      have L30 := bal w30 (.cells #[.bool rs.s, .slice A30a rs.a.length c30a, .slice D30a rs.b.length d30a, .bool z.s, .slice A30b z.a.length c30b, .slice D30b z.b.length d30b] 27)
      have S_x := SB.new w30 [.bool rs.s, .slice A30a rs.a.length c30a, .slice D30a rs.b.length d30a, .bool z.s, .slice A30b z.a.length c30b, .slice D30b z.b.length d30b] 27
      have H_x := H_x.st L30
      have C0 := bt C0 L30
      have hA := RM.step hA L30 (Below.size L30)
      have hR := RM.step hR L30 (Below.size L30)
      go_wp2_with fail
      refine (o2 _ _ _ hR).mono ?_; rintro e w31 ⟨A31a, c31a, D31a, d31a, A31b, c31b, D31b, d31b, rfl, O31a, O31b, O31c, O31d, B31⟩
      try dsimp only at O31a O31b O31c O31d
      have H_y : VN w31 w31.heap.size (.agg #[.bool rs.s, .slice A31a rs.a.length c31a, .slice D31a rs.b.length d31a, .bool z.s, .slice A31b z.a.length c31b, .slice D31b z.b.length d31b]) rs z := ⟨A31a, c31a, D31a, d31a, A31b, c31b, D31b, d31b, rfl, O31a.rw, O31b.rw, O31c.rw, O31d.rw⟩
      clear O31a O31b O31c O31d
      have S_x := S_x.nx B31
      have H_x := H_x.st B31
      have C0 := bt C0 B31
      have hA := RM.step hA B31 (Below.size B31)
      have hR := RM.step hR B31 (Below.size B31)
      have L31 := bal w31 (.cells #[.bool rs.s, .slice A31a rs.a.length c31a, .slice D31a rs.b.length d31a, .bool z.s, .slice A31b z.a.length c31b, .slice D31b z.b.length d31b] 27)
      have S_y := SB.new w31 [.bool rs.s, .slice A31a rs.a.length c31a, .slice D31a rs.b.length d31a, .bool z.s, .slice A31b z.a.length c31b, .slice D31b z.b.length d31b] 27
      have S_x := S_x.nx L31
      have H_x := H_x.st L31
      have H_y := H_y.st L31
      have C0 := bt C0 L31
      have hA := RM.step hA L31 (Below.size L31)
      have hR := RM.step hR L31 (Below.size L31)
      clear hR
      go_wp2_with fail
      refine (o3 _ hA).mono ?_; rintro e w32 ⟨A32a, c32a, D32a, d32a, A32b, c32b, D32b, d32b, rfl, O32a, O32b, O32c, O32d, B32⟩
      try dsimp only at O32a O32b O32c O32d
      have H_s : VN w32 w32.heap.size (.agg #[.bool rs.s, .slice A32a rs.a.length c32a, .slice D32a rs.b.length d32a, .bool z.s, .slice A32b z.a.length c32b, .slice D32b z.b.length d32b]) rs z := ⟨A32a, c32a, D32a, d32a, A32b, c32b, D32b, d32b, rfl, O32a.rw, O32b.rw, O32c.rw, O32d.rw⟩
      clear O32a O32b O32c O32d
      have S_x := S_x.nx B32
      have H_x := H_x.st B32
      have S_y := S_y.nx B32
      have H_y := H_y.st B32
      have C0 := bt C0 B32
      have hA := RM.step hA B32 (Below.size B32)
      have L32 := bal w32 (.cells #[.bool rs.s, .slice A32a rs.a.length c32a, .slice D32a rs.b.length d32a, .bool z.s, .slice A32b z.a.length c32b, .slice D32b z.b.length d32b] 27)
      have S_s := SB.new w32 [.bool rs.s, .slice A32a rs.a.length c32a, .slice D32a rs.b.length d32a, .bool z.s, .slice A32b z.a.length c32b, .slice D32b z.b.length d32b] 27
      have S_x := S_x.nx L32
      have H_x := H_x.st L32
      have S_y := S_y.nx L32
      have H_y := H_y.st L32
      have H_s := H_s.st L32
      have C0 := bt C0 L32
      have hA := RM.step hA L32 (Below.size L32)
      clear hA
      go_wp2_with fail
      refine (gI _).mono ?_; rintro e w33 ⟨A33a, c33a, D33a, d33a, A33b, c33b, D33b, d33b, rfl, O33a, O33b, O33c, O33d, B33⟩
      try dsimp only at O33a O33b O33c O33d
      have H_i : VN w33 w33.heap.size (.agg #[.bool ri.s, .slice A33a ri.a.length c33a, .slice D33a ri.b.length d33a, .bool z.s, .slice A33b z.a.length c33b, .slice D33b z.b.length d33b]) ri z := ⟨A33a, c33a, D33a, d33a, A33b, c33b, D33b, d33b, rfl, O33a.rw, O33b.rw, O33c.rw, O33d.rw⟩
      clear O33a O33b O33c O33d
      have S_x := S_x.nx B33
      have H_x := H_x.st B33
      have S_y := S_y.nx B33
      have H_y := H_y.st B33
      have S_s := S_s.nx B33
      have H_s := H_s.st B33
      have C0 := bt C0 B33
      go_wp2_with fail
      refine (o5 _ _ H_i).mono ?_; rintro e w34 ⟨A34a, c34a, D34a, d34a, A34b, c34b, D34b, d34b, rfl, O34a, O34b, O34c, O34d, B34⟩
      clear H_i
      try dsimp only at O34a O34b O34c O34d
      have H_f : VN w34 w34.heap.size (.agg #[.bool rf.s, .slice A34a rf.a.length c34a, .slice D34a rf.b.length d34a, .bool z.s, .slice A34b z.a.length c34b, .slice D34b z.b.length d34b]) rf z := ⟨A34a, c34a, D34a, d34a, A34b, c34b, D34b, d34b, rfl, O34a.rw, O34b.rw, O34c.rw, O34d.rw⟩
      clear O34a O34b O34c O34d
      have S_x := S_x.nx B34
      have H_x := H_x.st B34
      have S_y := S_y.nx B34
      have H_y := H_y.st B34
      have S_s := S_s.nx B34
      have H_s := H_s.st B34
      have C0 := bt C0 B34
      have Lf := bal w34 (.cells #[.bool rf.s, .slice A34a rf.a.length c34a, .slice D34a rf.b.length d34a, .bool z.s, .slice A34b z.a.length c34b, .slice D34b z.b.length d34b] 27)
      have S_f := SB.new w34 [.bool rf.s, .slice A34a rf.a.length c34a, .slice D34a rf.b.length d34a, .bool z.s, .slice A34b z.a.length c34b, .slice D34b z.b.length d34b] 27
      have S_x := S_x.nx Lf
      have H_x := H_x.st Lf
      have S_y := S_y.nx Lf
      have H_y := H_y.st Lf
      have S_s := S_s.nx Lf
      have H_s := H_s.st Lf
      have H_f := H_f.st Lf
      have C0 := bt C0 Lf
      have i0 := S_x.cell 0
      have i1 := S_x.cell 1
      have i2 := S_x.cell 2
      have i3 := S_x.cell 3
      have i4 := S_x.cell 4
      have i5 := S_x.cell 5
      have Lw := bal (w34.alloc (.cells #[.bool rf.s, .slice A34a rf.a.length c34a, .slice D34a rf.b.length d34a, .bool z.s, .slice A34b z.a.length c34b, .slice D34b z.b.length d34b] 27)) (.cells #[.bool rs.s, .slice A30a rs.a.length c30a, .slice D30a rs.b.length d30a, .bool z.s, .slice A30b z.a.length c30b, .slice D30b z.b.length d30b] 27)
      have S_w := SB.new (w34.alloc (.cells #[.bool rf.s, .slice A34a rf.a.length c34a, .slice D34a rf.b.length d34a, .bool z.s, .slice A34b z.a.length c34b, .slice D34b z.b.length d34b] 27)) [.bool rs.s, .slice A30a rs.a.length c30a, .slice D30a rs.b.length d30a, .bool z.s, .slice A30b z.a.length c30b, .slice D30b z.b.length d30b] 27
      have zw : (w34.alloc (.cells #[.bool rf.s, .slice A34a rf.a.length c34a, .slice D34a rf.b.length d34a, .bool z.s, .slice A34b z.a.length c34b, .slice D34b z.b.length d34b] 27)).heap.size = w34.heap.size + 1 := by simp
      rw [zw] at S_w
      have Cw := bt C0 Lw
      have q1 := (Cw.cell (p := ⟨b', off' , none⟩) hlt).trans q00
      have S_x := S_x.nx Lw
      have H_x := H_x.st Lw
      have S_y := S_y.nx Lw
      have H_y := H_y.st Lw
      have S_s := S_s.nx Lw
      have H_s := H_s.st Lw
      have S_f := S_f.nx Lw
      have H_f := H_f.st Lw
      have C0 := bt C0 Lw
      have H_w := H_x
      have m0 := S_x.cell 0
      have m1 := S_x.cell 1
      have m2 := S_x.cell 2
      have m3 := S_x.cell 3
      have m4 := S_x.cell 4
      have m5 := S_x.cell 5
      have n0 := S_f.cell 0
      have n1 := S_f.cell 1
      have n2 := S_f.cell 2
      have n3 := S_f.cell 3
      have n4 := S_f.cell 4
      have n5 := S_f.cell 5
      go_wp2_with fail
      refine (o7 _ _ _ H_x H_f).mono ?_; rintro e w50 ⟨rfl, B50⟩
      clear m0 m1 m2 m3 m4 m5 n0 n1 n2 n3 n4 n5 i0 i1 i2 i3 i4 i5
      have S_x := S_x.nx B50
      have H_x := H_x.st B50
      have S_y := S_y.nx B50
      have H_y := H_y.st B50
      have S_s := S_s.nx B50
      have H_s := H_s.st B50
      have S_f := S_f.nx B50
      have H_f := H_f.st B50
      have S_w := S_w.nx B50
      have H_w := H_w.st B50
      have C0 := bt C0 B50
      clear S_f H_f
      have m0 := S_x.cell 0
      have m1 := S_x.cell 1
      have m2 := S_x.cell 2
      have m3 := S_x.cell 3
      have m4 := S_x.cell 4
      have m5 := S_x.cell 5
      have n0 := S_y.cell 0
      have n1 := S_y.cell 1
      have n2 := S_y.cell 2
      have n3 := S_y.cell 3
      have n4 := S_y.cell 4
      have n5 := S_y.cell 5
      go_wp2_with fail
      refine (l1 _ _ _ H_x H_y).mono ?_; rintro e w51 ⟨rfl, B51⟩
      clear m0 m1 m2 m3 m4 m5 n0 n1 n2 n3 n4 n5
      have S_x := S_x.nx B51
      have H_x := H_x.st B51
      have S_y := S_y.nx B51
      have H_y := H_y.st B51
      have S_s := S_s.nx B51
      have H_s := H_s.st B51
      have S_w := S_w.nx B51
      have H_w := H_w.st B51
      have C0 := bt C0 B51
      have m0 := S_s.cell 0
      have m1 := S_s.cell 1
      have m2 := S_s.cell 2
      have m3 := S_s.cell 3
      have m4 := S_s.cell 4
      have m5 := S_s.cell 5
      have n0 := S_w.cell 0
      have n1 := S_w.cell 1
      have n2 := S_w.cell 2
      have n3 := S_w.cell 3
      have n4 := S_w.cell 4
      have n5 := S_w.cell 5
      go_wp2_with fail
      refine (l2 _ _ _ H_s H_w).mono ?_; rintro e w52 ⟨rfl, B52⟩
      have C0 := bt C0 B52
      go_wp2_with fail
      go_ret
      exact ⟨by simp, C0⟩

set_option maxRecDepth 100000 in
set_option maxHeartbeats 16000000 in
theorem bytevecEnds_walk (A : Option Addr) (c : Nat) (l : List UInt8) (w : World) (h : RB w w.heap.size A c l) :
    Calls Try.prog 7 #[.slice A l.length c] w fun e w' => e = .returned (.bool true) ∧ Below w.heap.size w w' := by
  have hbig := h.big
  by_cases h1 : 1 ≤ l.length
  · by_cases h2 : l.length ≤ 64
    · have q0 : qw (0 : Rat) ≤ 512 := qw_small 0 (by decide)
      have hX := lv_rev_lt l
      have hF : (256 : Int) ^ l.length = ((256 ^ l.length : Nat) : Int) := by rw [Int.natCast_pow]; rfl
      have nx : sameB (rwq (((lv l.reverse : Nat) : Int) : Rat)) (rwq 0) (rwq (((lv l.reverse : Nat) : Int) : Rat)) (rwq 0) = true := sameB_self (nB_q (qw_256 _ h2 (by omega)) q0)
      have gS := ends_signed h1 h2
      by_cases hc : 128 ≤ (bg l 0).toNat
      · rw [if_pos hc] at gS
        refine ends_b A c l w h h1 h2 _ _ _ _ _ (ends_big h1 h2) (ends_little h1 h2) gS (expt_256 h1 h2) (fun w' => int_any 256 w' (by omega) (by omega)) (cmp_256 h2 hX) nx (sameB_self (nB_q (qw_256 _ h2 ?_) q0)) hc (sub_256 h2 hX)
        rw [hF]
        omega
      · rw [if_neg hc] at gS
        exact ends_s A c l w h h1 h2 _ _ _ _ _ (ends_big h1 h2) (ends_little h1 h2) gS (expt_256 h1 h2) (fun w' => int_any 256 w' (by omega) (by omega)) (cmp_256 h2 hX) nx nx (by omega) rfl
    · have e1 : ¬ (l.length : Int) < 1 := by omega
      have e2 : (64 : Int) < (l.length : Int) := by omega
      clear h1 h2
      go_enter Try.func7, Try.ntmps7
      go_wp2_with fail
      refine (awake5_any _).mono ?_; rintro e w2 ⟨rfl, B2⟩
      go_wp2_with fail
      refine (awake5_any _).mono ?_; rintro e w3 ⟨rfl, B3⟩
      go_wp2_with fail
      go_ret
      exact ⟨rfl, bt B2 B3⟩
  · have e1 : (l.length : Int) < 1 := by omega
    clear h1
    go_enter Try.func7, Try.ntmps7
    go_wp2_with fail
    refine (awake5_any _).mono ?_; rintro e w2 ⟨rfl, B2⟩
    go_wp2_with fail
    refine (awake5_any _).mono ?_; rintro e w3 ⟨rfl, B3⟩
    go_wp2_with fail
    go_ret
    exact ⟨rfl, bt B2 B3⟩

end Go.Proofs.Ytabcnpcfknlmlaa
