/- Merged texts: BiU, BiV, BiW, BiN, BiT. -/
import Derived.Test.YtbgggepdlkbpoaaGreatDoorGQ
import Derived.Test.YtbgggepdlkbpoaaGreatDoorGO
import Derived.Deep.RegionWith
import Derived.Laws.DeepNot64
import Derived.Lib.Tables
import Derived.Lib.BitFns
namespace Go.Proofs.YtbgggepdlkbpoaaGreatDoor
open Go.RowKit

/-- a number's row, shifted up -/
theorem shift_row {s1 : Bool} {v n : Nat} {X : Int} (h : X = sgn s1 v) (L : Nat) (hL : (digs (v * 2 ^ n)).length ≤ L) :
    (if s1 = true then wordsN L ((Wp L - val (digs (v * 2 ^ n) ++ List.replicate (L - (digs (v * 2 ^ n)).length) 0)) % Wp L) else digs (v * 2 ^ n) ++ List.replicate (L - (digs (v * 2 ^ n)).length) 0) = rowI L (X * ((2 ^ n : Nat) : Int)) := by
  rw [row_pos hL, h]
  cases s1 with
  | true => rw [if_pos rfl, turn_row, sgn_true, Int.neg_mul, Int.natCast_mul]
  | false => rw [if_neg (by simp), sgn_false, Int.natCast_mul]
theorem digs_pow {n L : Nat} (h : n < 32 * L) : (digs (2 ^ n)).length ≤ L := digs_len_le.2 (by rw [Wp_eq]; exact Nat.pow_lt_pow_right (by omega) h)
theorem S2.put6g {w w1 : World} {b g n : Nat} {l1 : List Value} (h : S2 w b l1 n w1) (hg : b + 1 < g) (x y z x' y' z' : Value) : S2 w b l1 n (Go.Proofs.YtbgggepdlkbpoaaGreatDoor.wr6 w1 g x y z x' y' z') :=
  ⟨h.1.wr6 (by omega) x y z x' y' z', (h.2.1.sb.wr6 (by omega) x y z x' y' z').rc (by simp), wr6_below h.2.2 (by omega) x y z x' y' z'⟩
theorem SB.put6x {w : World} {g : Nat} {a b c d e f : Value} (h : SB w g [a, b, c, d, e, f]) (x y z x' y' z' : Value) : SB (Go.Proofs.YtbgggepdlkbpoaaGreatDoor.wr6 w g x y z x' y' z') g [x, y, z, x', y', z'] := (h.rc (n := 6)).put6 x y z x' y' z'
theorem num_row {L : Nat} {Z : Int} (h : (digs Z.natAbs).length < L) : tcI (32 * (rowI L Z).length) (val (rowI L Z)) = Z := by
  obtain ⟨h1, h2⟩ := fits_row h
  rw [rowI_len, rowI_val, tcI_low (by omega) h1 h2]


set_option maxRecDepth 100000 in
set_option maxHeartbeats 16000000 in
theorem bshift_bad (s1 s2 : Bool) (a1 b1 a2 b2 : List Nat) (A1 D1 A2 D2 : Option Addr) (c1 d1 c2 d2 : Nat) (w : World) (p1 : RW w w.heap.size A1 c1 a1) (p2 : RW w w.heap.size D1 d1 b1) (p3 : RW w w.heap.size A2 c2 a2) (p4 : RW w w.heap.size D2 d2 b2) (n : Int) (k : Int) (hk : bchkN1 ⟨s1, a1, b1⟩ ⟨s2, a2, b2⟩ = k) (hk0 : (k == 0) = false) :
    Calls Tryz.prog 9 #[.agg #[.bool s1, .slice A1 a1.length c1, .slice D1 b1.length d1, .bool s2, .slice A2 a2.length c2, .slice D2 b2.length d2], .int .i64 n] w (RetNE w (rw0, rw0, k)) := by
  have kk0 := S2.new w [.bool s1, .slice A1 a1.length c1, .slice D1 b1.length d1, .bool s2, .slice A2 a2.length c2, .slice D2 b2.length d2] [.bool false, .slice none 0 0, .slice none 0 0, .bool false, .slice none 0 0, .slice none 0 0] 26 26 6
  have LB4 := bal ((w.alloc (.cells #[.bool s1, .slice A1 a1.length c1, .slice D1 b1.length d1, .bool s2, .slice A2 a2.length c2, .slice D2 b2.length d2] 26)).alloc (.cells #[.bool false, .slice none 0 0, .slice none 0 0, .bool false, .slice none 0 0, .slice none 0 0] 26)) (.cells #[.bool s1, .slice A1 a1.length c1, .slice D1 b1.length d1, .bool s2, .slice A2 a2.length c2, .slice D2 b2.length d2] 26)
  have kk1 := kk0.nx LB4
  have SG := SB.new ((w.alloc (.cells #[.bool s1, .slice A1 a1.length c1, .slice D1 b1.length d1, .bool s2, .slice A2 a2.length c2, .slice D2 b2.length d2] 26)).alloc (.cells #[.bool false, .slice none 0 0, .slice none 0 0, .bool false, .slice none 0 0, .slice none 0 0] 26)) [.bool s1, .slice A1 a1.length c1, .slice D1 b1.length d1, .bool s2, .slice A2 a2.length c2, .slice D2 b2.length d2] 26
  have z3 : ((w.alloc (.cells #[.bool s1, .slice A1 a1.length c1, .slice D1 b1.length d1, .bool s2, .slice A2 a2.length c2, .slice D2 b2.length d2] 26)).alloc (.cells #[.bool false, .slice none 0 0, .slice none 0 0, .bool false, .slice none 0 0, .slice none 0 0] 26)).heap.size = w.heap.size + 2 := by simp
  rw [z3] at SG
  have hC := fun w' hg h1 h2 h3 h4 => bcheck1_any (w.heap.size + 2) s1 a1 b1 s2 a2 b2 A1 c1 D1 d1 A2 c2 D2 d2 w' hg h1 h2 h3 h4
  have BW := kk1.2.2
  obtain ⟨W, hW⟩ : ∃ W, W = ((w.alloc (.cells #[.bool s1, .slice A1 a1.length c1, .slice D1 b1.length d1, .bool s2, .slice A2 a2.length c2, .slice D2 b2.length d2] 26)).alloc (.cells #[.bool false, .slice none 0 0, .slice none 0 0, .bool false, .slice none 0 0, .slice none 0 0] 26)).alloc (.cells #[.bool s1, .slice A1 a1.length c1, .slice D1 b1.length d1, .bool s2, .slice A2 a2.length c2, .slice D2 b2.length d2] 26) := ⟨_, rfl⟩
  have i0 := kk0.1.cell 0
  have i1 := kk0.1.cell 1
  have i2 := kk0.1.cell 2
  have i3 := kk0.1.cell 3
  have i4 := kk0.1.cell 4
  have i5 := kk0.1.cell 5
  simp only [hk] at hC
  have Hk := Lib.hid hk
  clear hk
  have n0 : (k != 0) = true := by simp [bne, hk0]
  go_enter Tryz.func9, Tryz.ntmps9
  go_wp2_with fail
  rw [← hW] at kk1 SG BW ⊢
  clear hW kk0 i0 i1 i2 i3 i4 i5
  refine (hC W SG (st p1 BW) (st p2 BW) (st p3 BW) (st p4 BW)).mono ?_; rintro e w5 ⟨rfl, B5⟩
  clear hC
  have kk5 := kk1.nx B5
  have BB := kk5.2.2
  have hRC := kk5.2.1
  go_wp2_with (refine wp_st6 rfl (.tmp 4) (.tmp 13) rfl _ rfl _ _ _ _ _ _ rfl hRC rfl rfl rfl rfl rfl rfl ?_)
  have s6 := hRC.put6 (.bool false) (.slice none 0 0) (.slice none 0 0) (.bool false) (.slice none 0 0) (.slice none 0 0)
  have B6 := wr6_below (b := w.heap.size + 1) BB (by omega) (.bool false) (.slice none 0 0) (.slice none 0 0) (.bool false) (.slice none 0 0) (.slice none 0 0)
  have r0' := s6.cell 0
  have r1' := s6.cell 1
  have r2' := s6.cell 2
  have r3' := s6.cell 3
  have r4' := s6.cell 4
  have r5' := s6.cell 5
  refine bodyPost_ret (v := .tuple #[.agg #[.bool false, .slice none 0 0, .slice none 0 0, .bool false, .slice none 0 0, .slice none 0 0], .int .i64 k]) (by simp [results, r0', r1', r2', r3', r4', r5', go_sem]) rfl ?_
  exact retNE_nil k B6


set_option maxRecDepth 100000 in
set_option maxHeartbeats 16000000 in
theorem bshift_neg (s1 s2 : Bool) (a1 b1 a2 b2 : List Nat) (A1 D1 A2 D2 : Option Addr) (c1 d1 c2 d2 : Nat) (w : World) (p1 : RW w w.heap.size A1 c1 a1) (p2 : RW w w.heap.size D1 d1 b1) (p3 : RW w w.heap.size A2 c2 a2) (p4 : RW w w.heap.size D2 d2 b2) (n : Int) (h : n < -16384) (hk : bchkN1 ⟨s1, a1, b1⟩ ⟨s2, a2, b2⟩ = 0) :
    Calls Tryz.prog 9 #[.agg #[.bool s1, .slice A1 a1.length c1, .slice D1 b1.length d1, .bool s2, .slice A2 a2.length c2, .slice D2 b2.length d2], .int .i64 n] w (RetNE w (rw0, rw0, 1)) := by
  have kk0 := S2.new w [.bool s1, .slice A1 a1.length c1, .slice D1 b1.length d1, .bool s2, .slice A2 a2.length c2, .slice D2 b2.length d2] [.bool false, .slice none 0 0, .slice none 0 0, .bool false, .slice none 0 0, .slice none 0 0] 26 26 6
  have LB4 := bal ((w.alloc (.cells #[.bool s1, .slice A1 a1.length c1, .slice D1 b1.length d1, .bool s2, .slice A2 a2.length c2, .slice D2 b2.length d2] 26)).alloc (.cells #[.bool false, .slice none 0 0, .slice none 0 0, .bool false, .slice none 0 0, .slice none 0 0] 26)) (.cells #[.bool s1, .slice A1 a1.length c1, .slice D1 b1.length d1, .bool s2, .slice A2 a2.length c2, .slice D2 b2.length d2] 26)
  have kk1 := kk0.nx LB4
  have SG := SB.new ((w.alloc (.cells #[.bool s1, .slice A1 a1.length c1, .slice D1 b1.length d1, .bool s2, .slice A2 a2.length c2, .slice D2 b2.length d2] 26)).alloc (.cells #[.bool false, .slice none 0 0, .slice none 0 0, .bool false, .slice none 0 0, .slice none 0 0] 26)) [.bool s1, .slice A1 a1.length c1, .slice D1 b1.length d1, .bool s2, .slice A2 a2.length c2, .slice D2 b2.length d2] 26
  have z3 : ((w.alloc (.cells #[.bool s1, .slice A1 a1.length c1, .slice D1 b1.length d1, .bool s2, .slice A2 a2.length c2, .slice D2 b2.length d2] 26)).alloc (.cells #[.bool false, .slice none 0 0, .slice none 0 0, .bool false, .slice none 0 0, .slice none 0 0] 26)).heap.size = w.heap.size + 2 := by simp
  rw [z3] at SG
  have hC := fun w' hg h1 h2 h3 h4 => bcheck1_any (w.heap.size + 2) s1 a1 b1 s2 a2 b2 A1 c1 D1 d1 A2 c2 D2 d2 w' hg h1 h2 h3 h4
  have BW := kk1.2.2
  obtain ⟨W, hW⟩ : ∃ W, W = ((w.alloc (.cells #[.bool s1, .slice A1 a1.length c1, .slice D1 b1.length d1, .bool s2, .slice A2 a2.length c2, .slice D2 b2.length d2] 26)).alloc (.cells #[.bool false, .slice none 0 0, .slice none 0 0, .bool false, .slice none 0 0, .slice none 0 0] 26)).alloc (.cells #[.bool s1, .slice A1 a1.length c1, .slice D1 b1.length d1, .bool s2, .slice A2 a2.length c2, .slice D2 b2.length d2] 26) := ⟨_, rfl⟩
  have i0 := kk0.1.cell 0
  have i1 := kk0.1.cell 1
  have i2 := kk0.1.cell 2
  have i3 := kk0.1.cell 3
  have i4 := kk0.1.cell 4
  have i5 := kk0.1.cell 5
  simp only [hk] at hC
  clear hk
  have t1 : n < -16384 := h
  clear h
  go_enter Tryz.func9, Tryz.ntmps9
  go_wp2_with fail
  rw [← hW] at kk1 SG BW ⊢
  clear hW kk0 i0 i1 i2 i3 i4 i5
  refine (hC W SG (st p1 BW) (st p2 BW) (st p3 BW) (st p4 BW)).mono ?_; rintro e w5 ⟨rfl, B5⟩
  clear hC
  have kk5 := kk1.nx B5
  have BB := kk5.2.2
  have hRC := kk5.2.1
  go_wp2_with (refine wp_st6 rfl (.tmp 4) (.tmp 22) rfl _ rfl _ _ _ _ _ _ rfl hRC rfl rfl rfl rfl rfl rfl ?_)
  have s6 := hRC.put6 (.bool false) (.slice none 0 0) (.slice none 0 0) (.bool false) (.slice none 0 0) (.slice none 0 0)
  have B6 := wr6_below (b := w.heap.size + 1) BB (by omega) (.bool false) (.slice none 0 0) (.slice none 0 0) (.bool false) (.slice none 0 0) (.slice none 0 0)
  have r0' := s6.cell 0
  have r1' := s6.cell 1
  have r2' := s6.cell 2
  have r3' := s6.cell 3
  have r4' := s6.cell 4
  have r5' := s6.cell 5
  refine bodyPost_ret (v := .tuple #[.agg #[.bool false, .slice none 0 0, .slice none 0 0, .bool false, .slice none 0 0, .slice none 0 0], .int .i64 1]) (by simp [results, r0', r1', r2', r3', r4', r5', go_sem]) rfl ?_
  exact retNE_nil 1 B6


set_option maxRecDepth 100000 in
set_option maxHeartbeats 16000000 in
theorem bshift_far (s1 s2 : Bool) (a1 b1 a2 b2 : List Nat) (A1 D1 A2 D2 : Option Addr) (c1 d1 c2 d2 : Nat) (w : World) (p1 : RW w w.heap.size A1 c1 a1) (p2 : RW w w.heap.size D1 d1 b1) (p3 : RW w w.heap.size A2 c2 a2) (p4 : RW w w.heap.size D2 d2 b2) (n : Int) (h : ¬ n < -16384 ∧ 16384 < n) (hk : bchkN1 ⟨s1, a1, b1⟩ ⟨s2, a2, b2⟩ = 0) :
    Calls Tryz.prog 9 #[.agg #[.bool s1, .slice A1 a1.length c1, .slice D1 b1.length d1, .bool s2, .slice A2 a2.length c2, .slice D2 b2.length d2], .int .i64 n] w (RetNE w (rw0, rw0, 1)) := by
  have kk0 := S2.new w [.bool s1, .slice A1 a1.length c1, .slice D1 b1.length d1, .bool s2, .slice A2 a2.length c2, .slice D2 b2.length d2] [.bool false, .slice none 0 0, .slice none 0 0, .bool false, .slice none 0 0, .slice none 0 0] 26 26 6
  have LB4 := bal ((w.alloc (.cells #[.bool s1, .slice A1 a1.length c1, .slice D1 b1.length d1, .bool s2, .slice A2 a2.length c2, .slice D2 b2.length d2] 26)).alloc (.cells #[.bool false, .slice none 0 0, .slice none 0 0, .bool false, .slice none 0 0, .slice none 0 0] 26)) (.cells #[.bool s1, .slice A1 a1.length c1, .slice D1 b1.length d1, .bool s2, .slice A2 a2.length c2, .slice D2 b2.length d2] 26)
  have kk1 := kk0.nx LB4
  have SG := SB.new ((w.alloc (.cells #[.bool s1, .slice A1 a1.length c1, .slice D1 b1.length d1, .bool s2, .slice A2 a2.length c2, .slice D2 b2.length d2] 26)).alloc (.cells #[.bool false, .slice none 0 0, .slice none 0 0, .bool false, .slice none 0 0, .slice none 0 0] 26)) [.bool s1, .slice A1 a1.length c1, .slice D1 b1.length d1, .bool s2, .slice A2 a2.length c2, .slice D2 b2.length d2] 26
  have z3 : ((w.alloc (.cells #[.bool s1, .slice A1 a1.length c1, .slice D1 b1.length d1, .bool s2, .slice A2 a2.length c2, .slice D2 b2.length d2] 26)).alloc (.cells #[.bool false, .slice none 0 0, .slice none 0 0, .bool false, .slice none 0 0, .slice none 0 0] 26)).heap.size = w.heap.size + 2 := by simp
  rw [z3] at SG
  have hC := fun w' hg h1 h2 h3 h4 => bcheck1_any (w.heap.size + 2) s1 a1 b1 s2 a2 b2 A1 c1 D1 d1 A2 c2 D2 d2 w' hg h1 h2 h3 h4
  have BW := kk1.2.2
  obtain ⟨W, hW⟩ : ∃ W, W = ((w.alloc (.cells #[.bool s1, .slice A1 a1.length c1, .slice D1 b1.length d1, .bool s2, .slice A2 a2.length c2, .slice D2 b2.length d2] 26)).alloc (.cells #[.bool false, .slice none 0 0, .slice none 0 0, .bool false, .slice none 0 0, .slice none 0 0] 26)).alloc (.cells #[.bool s1, .slice A1 a1.length c1, .slice D1 b1.length d1, .bool s2, .slice A2 a2.length c2, .slice D2 b2.length d2] 26) := ⟨_, rfl⟩
  have i0 := kk0.1.cell 0
  have i1 := kk0.1.cell 1
  have i2 := kk0.1.cell 2
  have i3 := kk0.1.cell 3
  have i4 := kk0.1.cell 4
  have i5 := kk0.1.cell 5
  simp only [hk] at hC
  clear hk
  have t1 : ¬ n < -16384 := h.1
  have t2 : 16384 < n := h.2
  clear h
  go_enter Tryz.func9, Tryz.ntmps9
  go_wp2_with fail
  rw [← hW] at kk1 SG BW ⊢
  clear hW kk0 i0 i1 i2 i3 i4 i5
  refine (hC W SG (st p1 BW) (st p2 BW) (st p3 BW) (st p4 BW)).mono ?_; rintro e w5 ⟨rfl, B5⟩
  clear hC
  have kk5 := kk1.nx B5
  have BB := kk5.2.2
  have hRC := kk5.2.1
  go_wp2_with (refine wp_st6 rfl (.tmp 4) (.tmp 22) rfl _ rfl _ _ _ _ _ _ rfl hRC rfl rfl rfl rfl rfl rfl ?_)
  have s6 := hRC.put6 (.bool false) (.slice none 0 0) (.slice none 0 0) (.bool false) (.slice none 0 0) (.slice none 0 0)
  have B6 := wr6_below (b := w.heap.size + 1) BB (by omega) (.bool false) (.slice none 0 0) (.slice none 0 0) (.bool false) (.slice none 0 0) (.slice none 0 0)
  have r0' := s6.cell 0
  have r1' := s6.cell 1
  have r2' := s6.cell 2
  have r3' := s6.cell 3
  have r4' := s6.cell 4
  have r5' := s6.cell 5
  refine bodyPost_ret (v := .tuple #[.agg #[.bool false, .slice none 0 0, .slice none 0 0, .bool false, .slice none 0 0, .slice none 0 0], .int .i64 1]) (by simp [results, r0', r1', r2', r3', r4', r5', go_sem]) rfl ?_
  exact retNE_nil 1 B6


set_option maxRecDepth 100000 in
set_option maxHeartbeats 16000000 in
theorem bshift_down (s1 s2 : Bool) (a1 b1 a2 b2 : List Nat) (A1 D1 A2 D2 : Option Addr) (c1 d1 c2 d2 : Nat) (w : World) (p1 : RW w w.heap.size A1 c1 a1) (p2 : RW w w.heap.size D1 d1 b1) (p3 : RW w w.heap.size A2 c2 a2) (p4 : RW w w.heap.size D2 d2 b2) (X : Int) (n : Int) (m : Nat) (hnm : -n = (m : Int)) (hm0 : 0 < m) (hm : m ≤ 16384) (hX : Hid ((⟨s1, a1, b1⟩ : Rw) = rwq ((X : Int) : Rat))) (lx : a1.length ≤ 512) (hk : bchkN1 ⟨s1, a1, b1⟩ ⟨s2, a2, b2⟩ = 0) :
    Calls Tryz.prog 9 #[.agg #[.bool s1, .slice A1 a1.length c1, .slice D1 b1.length d1, .bool s2, .slice A2 a2.length c2, .slice D2 b2.length d2], .int .i64 n] w (RetNE w (fitQ (((X / ((2 ^ m : Nat) : Int) : Int)) : Rat) 0)) := by
  have kk0 := S2.new w [.bool s1, .slice A1 a1.length c1, .slice D1 b1.length d1, .bool s2, .slice A2 a2.length c2, .slice D2 b2.length d2] [.bool false, .slice none 0 0, .slice none 0 0, .bool false, .slice none 0 0, .slice none 0 0] 26 26 6
  have LB4 := bal ((w.alloc (.cells #[.bool s1, .slice A1 a1.length c1, .slice D1 b1.length d1, .bool s2, .slice A2 a2.length c2, .slice D2 b2.length d2] 26)).alloc (.cells #[.bool false, .slice none 0 0, .slice none 0 0, .bool false, .slice none 0 0, .slice none 0 0] 26)) (.cells #[.bool s1, .slice A1 a1.length c1, .slice D1 b1.length d1, .bool s2, .slice A2 a2.length c2, .slice D2 b2.length d2] 26)
  have kk1 := kk0.nx LB4
  have SG := SB.new ((w.alloc (.cells #[.bool s1, .slice A1 a1.length c1, .slice D1 b1.length d1, .bool s2, .slice A2 a2.length c2, .slice D2 b2.length d2] 26)).alloc (.cells #[.bool false, .slice none 0 0, .slice none 0 0, .bool false, .slice none 0 0, .slice none 0 0] 26)) [.bool s1, .slice A1 a1.length c1, .slice D1 b1.length d1, .bool s2, .slice A2 a2.length c2, .slice D2 b2.length d2] 26
  have z3 : ((w.alloc (.cells #[.bool s1, .slice A1 a1.length c1, .slice D1 b1.length d1, .bool s2, .slice A2 a2.length c2, .slice D2 b2.length d2] 26)).alloc (.cells #[.bool false, .slice none 0 0, .slice none 0 0, .bool false, .slice none 0 0, .slice none 0 0] 26)).heap.size = w.heap.size + 2 := by simp
  rw [z3] at SG
  have hC := fun w' hg h1 h2 h3 h4 => bcheck1_any (w.heap.size + 2) s1 a1 b1 s2 a2 b2 A1 c1 D1 d1 A2 c2 D2 d2 w' hg h1 h2 h3 h4
  have BW := kk1.2.2
  obtain ⟨W, hW⟩ : ∃ W, W = ((w.alloc (.cells #[.bool s1, .slice A1 a1.length c1, .slice D1 b1.length d1, .bool s2, .slice A2 a2.length c2, .slice D2 b2.length d2] 26)).alloc (.cells #[.bool false, .slice none 0 0, .slice none 0 0, .bool false, .slice none 0 0, .slice none 0 0] 26)).alloc (.cells #[.bool s1, .slice A1 a1.length c1, .slice D1 b1.length d1, .bool s2, .slice A2 a2.length c2, .slice D2 b2.length d2] 26) := ⟨_, rfl⟩
  have i0 := kk0.1.cell 0
  have i1 := kk0.1.cell 1
  have i2 := kk0.1.cell 2
  have i3 := kk0.1.cell 3
  have i4 := kk0.1.cell 4
  have i5 := kk0.1.cell 5
  simp only [hk] at hC
  clear hk
  have hD := fun w' h => bdown_any X m (by omega) s1 s2 a1 b1 A1 D1 A2 D2 c1 d1 c2 d2 a2.length b2.length w' hX.out (by omega) h
  have hYl : qw (((X / ((2 ^ m : Nat) : Int) : Int)) : Rat) ≤ 512 := by
    have h1 : (X / ((2 ^ m : Nat) : Int)).natAbs ≤ X.natAbs := Int.natAbs_ediv_le_natAbs _ _
    have h2 := digs_mono h1
    have h3 : a1 = digs X.natAbs := congrArg Rw.a hX.out
    rw [← h3] at h2
    unfold qw
    rw [qd_int, digs_one1, qt_int]
    exact Nat.max_le.2 ⟨by omega, by simp⟩
  have hF := fitQ_ok hYl (by rw [qw_zero]; omega : qw 0 ≤ 512)
  obtain ⟨R, hR⟩ : ∃ R, Hid (fitQ (((X / ((2 ^ m : Nat) : Int) : Int)) : Rat) 0 = R) := ⟨_, rfl⟩
  rw [← hF, hR.out] at hD
  clear hF hYl
  obtain ⟨fr, fi, fk⟩ := R
  have t1 : ¬ n < -16384 := by omega
  have t2 : ¬ 16384 < n := by omega
  have t3 : ¬ 0 ≤ n := by omega
  go_enter Tryz.func9, Tryz.ntmps9
  go_wp2_with fail
  rw [← hW] at kk1 SG BW ⊢
  clear hW kk0 i0 i1 i2 i3 i4 i5
  refine (hC W SG (st p1 BW) (st p2 BW) (st p3 BW) (st p4 BW)).mono ?_; rintro e w5 ⟨rfl, B5⟩
  clear hC
  have kk5 := kk1.nx B5
  have BB := kk5.2.2
  have i0 := kk5.1.cell 0
  have i1 := kk5.1.cell 1
  have i2 := kk5.1.cell 2
  have i3 := kk5.1.cell 3
  have i4 := kk5.1.cell 4
  have i5 := kk5.1.cell 5
  go_wp2_with fail
  refine (hD w5 (st p1 BB)).mono ?_; rintro e6 w6 ⟨H1, h1, I1, i1_, H2, h2, I2, i2_, rfl, O1, O2, O3, O4, B6⟩
  clear hD i0 i1 i2 i3 i4 i5
  have hRC := (kk5.nx B6).2.1
  have BB6 := (kk5.nx B6).2.2
  have hz := kk5.2.1.2
  dsimp only at O1 O2 O3 O4
  go_wp2_with (refine wp_st6 rfl (.tmp 4) (.tmp 50) rfl _ rfl _ _ _ _ _ _ rfl hRC rfl rfl rfl rfl rfl rfl ?_)
  have s6 := hRC.put6 (.bool fr.s) (.slice H1 fr.a.length h1) (.slice I1 fr.b.length i1_) (.bool fi.s) (.slice H2 fi.a.length h2) (.slice I2 fi.b.length i2_)
  have B6 := wr6_below (b := w.heap.size + 1) BB6 (by omega) (.bool fr.s) (.slice H1 fr.a.length h1) (.slice I1 fr.b.length i1_) (.bool fi.s) (.slice H2 fi.a.length h2) (.slice I2 fi.b.length i2_)
  have O1 := O1.put6 (b := w.heap.size + 1) (by omega) (.bool fr.s) (.slice H1 fr.a.length h1) (.slice I1 fr.b.length i1_) (.bool fi.s) (.slice H2 fi.a.length h2) (.slice I2 fi.b.length i2_)
  have O2 := O2.put6 (b := w.heap.size + 1) (by omega) (.bool fr.s) (.slice H1 fr.a.length h1) (.slice I1 fr.b.length i1_) (.bool fi.s) (.slice H2 fi.a.length h2) (.slice I2 fi.b.length i2_)
  have O3 := O3.put6 (b := w.heap.size + 1) (by omega) (.bool fr.s) (.slice H1 fr.a.length h1) (.slice I1 fr.b.length i1_) (.bool fi.s) (.slice H2 fi.a.length h2) (.slice I2 fi.b.length i2_)
  have O4 := O4.put6 (b := w.heap.size + 1) (by omega) (.bool fr.s) (.slice H1 fr.a.length h1) (.slice I1 fr.b.length i1_) (.bool fi.s) (.slice H2 fi.a.length h2) (.slice I2 fi.b.length i2_)
  have r0' := s6.cell 0
  have r1' := s6.cell 1
  have r2' := s6.cell 2
  have r3' := s6.cell 3
  have r4' := s6.cell 4
  have r5' := s6.cell 5
  refine bodyPost_ret (v := .tuple #[.agg #[.bool fr.s, .slice H1 fr.a.length h1, .slice I1 fr.b.length i1_, .bool fi.s, .slice H2 fi.a.length h2, .slice I2 fi.b.length i2_], .int .i64 fk]) (by simp [results, r0', r1', r2', r3', r4', r5', go_sem]) rfl ?_
  rw [hR.out]
  exact ⟨H1, h1, I1, i1_, H2, h2, I2, i2_, rfl, O1.base_le (by omega), O2.base_le (by omega), O3.base_le (by omega), O4.base_le (by omega), B6⟩


set_option maxRecDepth 100000 in
set_option maxHeartbeats 16000000 in
theorem bshift_up (s1 s2 : Bool) (a1 b1 a2 b2 : List Nat) (A1 D1 A2 D2 : Option Addr) (c1 d1 c2 d2 : Nat) (w : World) (p1 : RW w w.heap.size A1 c1 a1) (p2 : RW w w.heap.size D1 d1 b1) (p3 : RW w w.heap.size A2 c2 a2) (p4 : RW w w.heap.size D2 d2 b2) (X : Int) (n : Nat) (hn : n ≤ 16384) (hX : Hid ((⟨s1, a1, b1⟩ : Rw) = rwq ((X : Int) : Rat))) (lx : a1.length ≤ 512) (hk : bchkN1 ⟨s1, a1, b1⟩ ⟨s2, a2, b2⟩ = 0) :
    Calls Tryz.prog 9 #[.agg #[.bool s1, .slice A1 a1.length c1, .slice D1 b1.length d1, .bool s2, .slice A2 a2.length c2, .slice D2 b2.length d2], .int .i64 (n : Int)] w (RetNE w (fitQ (((X * ((2 ^ n : Nat) : Int) : Int)) : Rat) 0)) := by
  have kk0 := S2.new w [.bool s1, .slice A1 a1.length c1, .slice D1 b1.length d1, .bool s2, .slice A2 a2.length c2, .slice D2 b2.length d2] [.bool false, .slice none 0 0, .slice none 0 0, .bool false, .slice none 0 0, .slice none 0 0] 26 26 6
  have LB4 := bal ((w.alloc (.cells #[.bool s1, .slice A1 a1.length c1, .slice D1 b1.length d1, .bool s2, .slice A2 a2.length c2, .slice D2 b2.length d2] 26)).alloc (.cells #[.bool false, .slice none 0 0, .slice none 0 0, .bool false, .slice none 0 0, .slice none 0 0] 26)) (.cells #[.bool s1, .slice A1 a1.length c1, .slice D1 b1.length d1, .bool s2, .slice A2 a2.length c2, .slice D2 b2.length d2] 26)
  have kk1 := kk0.nx LB4
  have SG := SB.new ((w.alloc (.cells #[.bool s1, .slice A1 a1.length c1, .slice D1 b1.length d1, .bool s2, .slice A2 a2.length c2, .slice D2 b2.length d2] 26)).alloc (.cells #[.bool false, .slice none 0 0, .slice none 0 0, .bool false, .slice none 0 0, .slice none 0 0] 26)) [.bool s1, .slice A1 a1.length c1, .slice D1 b1.length d1, .bool s2, .slice A2 a2.length c2, .slice D2 b2.length d2] 26
  have z3 : ((w.alloc (.cells #[.bool s1, .slice A1 a1.length c1, .slice D1 b1.length d1, .bool s2, .slice A2 a2.length c2, .slice D2 b2.length d2] 26)).alloc (.cells #[.bool false, .slice none 0 0, .slice none 0 0, .bool false, .slice none 0 0, .slice none 0 0] 26)).heap.size = w.heap.size + 2 := by simp
  rw [z3] at SG
  have hC := fun w' hg h1 h2 h3 h4 => bcheck1_any (w.heap.size + 2) s1 a1 b1 s2 a2 b2 A1 c1 D1 d1 A2 c2 D2 d2 w' hg h1 h2 h3 h4
  have BW := kk1.2.2
  obtain ⟨W, hW⟩ : ∃ W, W = ((w.alloc (.cells #[.bool s1, .slice A1 a1.length c1, .slice D1 b1.length d1, .bool s2, .slice A2 a2.length c2, .slice D2 b2.length d2] 26)).alloc (.cells #[.bool false, .slice none 0 0, .slice none 0 0, .bool false, .slice none 0 0, .slice none 0 0] 26)).alloc (.cells #[.bool s1, .slice A1 a1.length c1, .slice D1 b1.length d1, .bool s2, .slice A2 a2.length c2, .slice D2 b2.length d2] 26) := ⟨_, rfl⟩
  have i0 := kk0.1.cell 0
  have i1 := kk0.1.cell 1
  have i2 := kk0.1.cell 2
  have i3 := kk0.1.cell 3
  have i4 := kk0.1.cell 4
  have i5 := kk0.1.cell 5
  simp only [hk] at hC
  clear hk
  have hU := fun w' h => up_any A1 c1 a1.length a1 w' n (by omega) rfl h (by omega)
  unfold RetW at hU
  obtain ⟨u0, hu0⟩ : ∃ u0, Hid (digs (val a1 * 2 ^ n) = u0) := ⟨_, rfl⟩
  rw [hu0.out] at hU
  have hul : u0.length ≤ 1100 := by
    rw [← hu0.out]
    have h1 := digs_mul (val a1) (2 ^ n)
    have h2 : (digs (val a1)).length ≤ 512 := Nat.le_trans (digs_len_le.2 (Nat.lt_of_lt_of_le (val_lt p1.2) (Wp_mono lx))) (Nat.le_refl _)
    have h3 : (digs (2 ^ n)).length ≤ 513 := digs_pow (by omega)
    omega
  have t1 : ¬ (n : Int) < -16384 := by omega
  have t2 : ¬ (16384 : Int) < (n : Int) := by omega
  have t3 : (0 : Int) ≤ (n : Int) := by omega
  go_enter Tryz.func9, Tryz.ntmps9
  go_wp2_with fail
  rw [← hW] at kk1 SG BW ⊢
  clear hW kk0 i0 i1 i2 i3 i4 i5
  refine (hC W SG (st p1 BW) (st p2 BW) (st p3 BW) (st p4 BW)).mono ?_; rintro e w5 ⟨rfl, B5⟩
  clear hC
  have kk5 := kk1.nx B5
  have BB := kk5.2.2
  have HX := Lib.hid (shift_row (s1 := s1) (v := val a1) (n := n) (X := X) (by rw [show s1 = decide (X < 0) from congrArg Rw.s hX.out, show a1 = digs X.natAbs from congrArg Rw.a hX.out, val_digs]; unfold sgn; by_cases h : X < 0 <;> simp [h] <;> omega))
  rw [hu0.out] at HX
  have HL : Hid ((digs (X * ((2 ^ n : Nat) : Int)).natAbs).length < u0.length + 1) := by
    show _ < _
    rw [← hu0.out, Int.natAbs_mul, Int.natAbs_natCast, show a1 = digs X.natAbs from congrArg Rw.a hX.out, val_digs]
    exact Nat.lt_succ_self _
  go_upto_region 7 with fail
  have Bd : Below w5.heap.size w5 w5.drew := Below.drew (Below.refl _ _)
  have kkd := kk5.nx Bd
  have hz5 : w.heap.size + 1 < w5.heap.size := kk5.2.1.2
  have hzd : w5.heap.size = w5.drew.heap.size := rfl
  refine AnyU.regionQ 11 12 (fun w' => w'.cell? ⟨w.heap.size, 0, none⟩ = some (.bool s1) ∧ w'.cell? ⟨w.heap.size, 1, none⟩ = some (.slice A1 a1.length c1)) rfl (by kernel_rfl) (by kernel_rfl) (by repeat (first | refine quiet_then ?_ | refine quiet_block ?_ | exact quiet_body)) ⟨kkd.1.cell 0, kkd.1.cell 1⟩ (fun Q hQK hq hns hHeld => ?_)
  generalize w5.drew = w6 at *
  refine AnyU.next (i := 0) (v := ?_) hq hns hHeld rfl rfl (by kernel_rfl) (Or.inl ⟨by rfl, ?_⟩) ?_
  rotate_left
  · intro w' hSw; (try dsimp only at hSw); go_simp <;> with_reducible rfl
  try simp only [List.setIfInBounds_toArray, List.set_cons_zero, List.set_cons_succ]
  refine AnyU.next (i := 1) (v := ?_) hq hns hHeld rfl rfl (by kernel_rfl) (Or.inl ⟨by rfl, ?_⟩) ?_
  rotate_left
  · intro w' hSw; (try dsimp only at hSw); go_simp <;> with_reducible rfl
  try simp only [List.setIfInBounds_toArray, List.set_cons_zero, List.set_cons_succ]
  refine AnyU.next (i := 2) (v := ?_) hq hns hHeld rfl rfl (by kernel_rfl) (Or.inl ⟨by rfl, ?_⟩) ?_
  rotate_left
  · intro w' hSw; (try dsimp only at hSw); go_simp <;> with_reducible rfl
  try simp only [List.setIfInBounds_toArray, List.set_cons_zero, List.set_cons_succ]
  refine AnyU.next (i := 3) (v := ?_) hq hns hHeld rfl rfl (by kernel_rfl) (Or.inl ⟨by rfl, ?_⟩) ?_
  rotate_left
  · intro w' hSw; (try dsimp only at hSw); go_simp <;> with_reducible rfl
  try simp only [List.setIfInBounds_toArray, List.set_cons_zero, List.set_cons_succ]
  refine AnyU.next (i := 4) (v := ?_) hq hns hHeld rfl rfl (by kernel_rfl) (Or.inl ⟨by rfl, ?_⟩) ?_
  rotate_left
  · intro w' hSw; (try dsimp only at hSw); go_simp <;> with_reducible rfl
  try simp only [List.setIfInBounds_toArray, List.set_cons_zero, List.set_cons_succ]
  refine AnyU.next (i := 5) (v := ?_) hq hns hHeld rfl rfl (by kernel_rfl) (Or.inl ⟨by rfl, ?_⟩) ?_
  rotate_left
  · intro w' hSw; (try dsimp only at hSw); go_simp <;> with_reducible rfl
  try simp only [List.setIfInBounds_toArray, List.set_cons_zero, List.set_cons_succ]
  refine AnyU.next (i := 6) (v := ?_) hq hns hHeld rfl rfl (by kernel_rfl) (Or.inl ⟨by rfl, ?_⟩) ?_
  rotate_left
  · intro w' hSw; (try dsimp only at hSw); go_simp <;> with_reducible rfl
  try simp only [List.setIfInBounds_toArray, List.set_cons_zero, List.set_cons_succ]
  refine AnyU.two (i := 7) (j := 10) (by kernel_rfl) (USome.mk rfl (fun K hK => ?_)) (USome.mk rfl (fun K hK => ?_))
  · go_simp
    refine (hU w6 (st p1 kkd.2.2)).mono ?_; rintro e7 w7 ⟨T, ct, rfl, OT, B7⟩
    go_wp2_with fail
    have kkd := kkd.nx B7
    refine hK.out _ _ (.inr ⟨kkd.1.cell 0, kkd.1.cell 1⟩) (fun hHeld => ?_)
    have hHeld := hHeld.resolve_left (by decide)
    clear hK K
    try simp only [List.setIfInBounds_toArray, List.set_cons_zero, List.set_cons_succ]
    refine AnyU.next (i := 8) (v := ?_) hq hns hHeld rfl rfl (by kernel_rfl) (Or.inl ⟨by rfl, ?_⟩) ?_
    rotate_left
    · intro w' hSw; (try dsimp only at hSw); go_simp <;> with_reducible rfl
    try simp only [List.setIfInBounds_toArray, List.set_cons_zero, List.set_cons_succ]
    refine AnyU.next (i := 9) (v := ?_) hq hns hHeld rfl rfl (by kernel_rfl) (Or.inl ⟨by rfl, ?_⟩) ?_
    rotate_left
    · intro w' hSw; (try dsimp only at hSw); go_simp <;> with_reducible rfl
    try simp only [List.setIfInBounds_toArray, List.set_cons_zero, List.set_cons_succ]
    refine AnyU.one 10 (by kernel_rfl) rfl (fun K hK => ?_)
    go_simp
    have L8 := bal w7 (.cells #[.bool false, .slice none 0 0, .slice none 0 0, .bool false, .slice none 0 0, .slice none 0 0] 26)
    have Sx := SB.new w7 [.bool false, .slice none 0 0, .slice none 0 0, .bool false, .slice none 0 0, .slice none 0 0] 26
    have kkd := kkd.nx L8
    have hTb := OT.bet
    have OT := (OT.below L8 (Nat.le_refl _)).base_le (B := w.heap.size + 2) (by omega)
    have hTg : ∀ g', T = some ⟨g', 0, none⟩ → g' ≠ w7.heap.size := fun g' hA => by have := hTb g' hA; omega
    obtain ⟨g, hg⟩ : ∃ g, g = w7.heap.size := ⟨_, rfl⟩
    rw [← hg] at Sx hTg ⊢
    have hgb : w.heap.size + 1 < g := by have := B7.size; omega
    refine hK.out _ _ (.inr ⟨kkd.1.cell 0, kkd.1.cell 1⟩) (fun hHeld => ?_)
    clear hK K hHeld L8 hg
    try simp only [List.setIfInBounds_toArray, List.set_cons_zero, List.set_cons_succ]
    generalize w7.alloc (.cells #[.bool false, .slice none 0 0, .slice none 0 0, .bool false, .slice none 0 0, .slice none 0 0] 26) = w8 at *
    have f0 := Sx.frozen 0
    have f1 := Sx.frozen 1
    have f2 := Sx.frozen 2
    have f3 := Sx.frozen 3
    have f4 := Sx.frozen 4
    have f5 := Sx.frozen 5
    have j0 := Sx.cell 0
    have j1 := Sx.cell 1
    have j2 := Sx.cell 2
    have j3 := Sx.cell 3
    have j4 := Sx.cell 4
    have j5 := Sx.cell 5
    refine AnyU.one 11 (by kernel_rfl) rfl (fun K hK => ?_)
    go_simp
    refine hK.out _ _ (.inl rfl) (fun _ => ?_)
    clear hK K f0 f1 f2 f3 f4 f5 j0 j1 j2 j3 j4 j5
    try simp only [List.setIfInBounds_toArray, List.set_cons_zero, List.set_cons_succ]
    refine AnyU.done (by kernel_rfl) (hQK.out _ _ ?_)
    clear hQK hq hns
    have Sx := Sx.put6x (.bool s1) (.slice T u0.length ct) (.slice none 0 0) (.bool false) (.slice none 0 0) (.slice none 0 0)
    have OT := OT.far6 (b := g) hTg (.bool s1) (.slice T u0.length ct) (.slice none 0 0) (.bool false) (.slice none 0 0) (.slice none 0 0)
    have kkd := kkd.put6g hgb (.bool s1) (.slice T u0.length ct) (.slice none 0 0) (.bool false) (.slice none 0 0) (.slice none 0 0)
    obtain ⟨w9, hw9⟩ : ∃ w9, w9 = wr6 w8 g (.bool s1) (.slice T u0.length ct) (.slice none 0 0) (.bool false) (.slice none 0 0) (.slice none 0 0) := ⟨_, rfl⟩
    have hw9' := hw9
    unfold wr6 wr3 at hw9'
    rw [← hw9']
    rw [← hw9] at Sx OT kkd
    clear hw9 hw9'
    have hw9s : w.heap.size + 1 < w9.heap.size := kkd.2.1.2
    have j0 := Sx.cell 0
    have j1 := Sx.cell 1
    have j2 := Sx.cell 2
    have j3 := Sx.cell 3
    have j4 := Sx.cell 4
    have j5 := Sx.cell 5
    have hRW := row_raw s1 false T none none none ct 0 0 0 0 0 0 u0 (u0.length + 1) w9 OT.rw (by omega) (by omega) (by omega)
    rw [HX.out _ (Nat.le_succ _)] at hRW
    simp only [Int.natCast_add, Int.cast_ofNat_Int] at hRW
    go_wp2_with fail
    refine hRW.mono ?_; rintro e10 w10 ⟨gr, rfl, OR, B10⟩
    clear hRW j0 j1 j2 j3 j4 j5
    have kkd := kkd.nx B10
    have hz9 : w.heap.size + 1 < w10.heap.size := kkd.2.1.2
    have OR := OR.base_le (B := w.heap.size + 2) hw9s
    have hN := bnum_any gr (u0.length + 1) (rowI (u0.length + 1) (X * ((2 ^ n : Nat) : Int))) w10 (w.heap.size + 2) OR (by rw [rowI_len]; omega) (by rw [rowI_len]; omega) (by omega)
    rw [num_row HL.out, rowI_len] at hN
    obtain ⟨R, hR⟩ : ∃ R, Hid (fitQ (((X * ((2 ^ n : Nat) : Int) : Int)) : Rat) 0 = R) := ⟨_, rfl⟩
    rw [hR.out] at hN
    obtain ⟨fr, fi, fk⟩ := R
    go_wp2_with fail
    refine hN.mono ?_; rintro e11 w11 ⟨H1, h1, I1, i1_, H2, h2, I2, i2_, rfl, O1, O2, O3, O4, B11⟩
    clear hN
    have hRC := (kkd.2.1.sb.below B11 (by omega)).rc (n := 6)
    have BB6 := kkd.2.2.trans (B11.mono (by omega))
    dsimp only at O1 O2 O3 O4
    go_wp2_with (refine wp_st6 rfl (.tmp 4) (.tmp 44) rfl _ rfl _ _ _ _ _ _ rfl hRC rfl rfl rfl rfl rfl rfl ?_)
    have s6 := hRC.put6 (.bool fr.s) (.slice H1 fr.a.length h1) (.slice I1 fr.b.length i1_) (.bool fi.s) (.slice H2 fi.a.length h2) (.slice I2 fi.b.length i2_)
    have B6 := wr6_below (b := w.heap.size + 1) BB6 (by omega) (.bool fr.s) (.slice H1 fr.a.length h1) (.slice I1 fr.b.length i1_) (.bool fi.s) (.slice H2 fi.a.length h2) (.slice I2 fi.b.length i2_)
    have O1 := O1.put6 (b := w.heap.size + 1) (by omega) (.bool fr.s) (.slice H1 fr.a.length h1) (.slice I1 fr.b.length i1_) (.bool fi.s) (.slice H2 fi.a.length h2) (.slice I2 fi.b.length i2_)
    have O2 := O2.put6 (b := w.heap.size + 1) (by omega) (.bool fr.s) (.slice H1 fr.a.length h1) (.slice I1 fr.b.length i1_) (.bool fi.s) (.slice H2 fi.a.length h2) (.slice I2 fi.b.length i2_)
    have O3 := O3.put6 (b := w.heap.size + 1) (by omega) (.bool fr.s) (.slice H1 fr.a.length h1) (.slice I1 fr.b.length i1_) (.bool fi.s) (.slice H2 fi.a.length h2) (.slice I2 fi.b.length i2_)
    have O4 := O4.put6 (b := w.heap.size + 1) (by omega) (.bool fr.s) (.slice H1 fr.a.length h1) (.slice I1 fr.b.length i1_) (.bool fi.s) (.slice H2 fi.a.length h2) (.slice I2 fi.b.length i2_)
    have r0' := s6.cell 0
    have r1' := s6.cell 1
    have r2' := s6.cell 2
    have r3' := s6.cell 3
    have r4' := s6.cell 4
    have r5' := s6.cell 5
    refine bodyPost_ret (v := .tuple #[.agg #[.bool fr.s, .slice H1 fr.a.length h1, .slice I1 fr.b.length i1_, .bool fi.s, .slice H2 fi.a.length h2, .slice I2 fi.b.length i2_], .int .i64 fk]) (by simp [results, r0', r1', r2', r3', r4', r5', go_sem]) rfl ?_
    rw [hR.out]
    exact ⟨H1, h1, I1, i1_, H2, h2, I2, i2_, rfl, O1.base_le (by omega), O2.base_le (by omega), O3.base_le (by omega), O4.base_le (by omega), B6⟩
  · go_simp
    have L8 := bal w6 (.cells #[.bool false, .slice none 0 0, .slice none 0 0, .bool false, .slice none 0 0, .slice none 0 0] 26)
    have Sx := SB.new w6 [.bool false, .slice none 0 0, .slice none 0 0, .bool false, .slice none 0 0, .slice none 0 0] 26
    have kkd := kkd.nx L8
    have hz6 : w.heap.size + 1 < w6.heap.size := by omega
    obtain ⟨g, hg⟩ : ∃ g, g = w6.heap.size := ⟨_, rfl⟩
    rw [← hg] at Sx hz6 ⊢
    have hgb : w.heap.size + 1 < g := hz6
    refine hK.out _ _ (.inr ⟨kkd.1.cell 0, kkd.1.cell 1⟩) (fun hHeld => ?_)
    have hHeld := hHeld.resolve_left (by decide)
    clear hK K L8 hg hz6
    try simp only [List.setIfInBounds_toArray, List.set_cons_zero, List.set_cons_succ]
    generalize w6.alloc (.cells #[.bool false, .slice none 0 0, .slice none 0 0, .bool false, .slice none 0 0, .slice none 0 0] 26) = w7 at *
    refine AnyU.one 7 (by kernel_rfl) rfl (fun K hK => ?_)
    go_simp
    refine (hU w7 (st p1 kkd.2.2)).mono ?_; rintro e7 w8 ⟨T, ct, rfl, OT, B7⟩
    go_wp2_with fail
    have hgl := Sx.2
    have hTg : ∀ g', T = some ⟨g', 0, none⟩ → g' ≠ g := fun g' hA => by have := OT.bet g' hA; omega
    have OT := OT.base_le (B := w.heap.size + 2) (by omega)
    have kkd := kkd.nx B7
    have Sx := Sx.nx B7
    refine hK.out _ _ (.inr ⟨kkd.1.cell 0, kkd.1.cell 1⟩) (fun hHeld => ?_)
    have hHeld := hHeld.resolve_left (by decide)
    clear hK K
    try simp only [List.setIfInBounds_toArray, List.set_cons_zero, List.set_cons_succ]
    refine AnyU.next (i := 8) (v := ?_) hq hns hHeld rfl rfl (by kernel_rfl) (Or.inl ⟨by rfl, ?_⟩) ?_
    rotate_left
    · intro w' hSw; (try dsimp only at hSw); go_simp <;> with_reducible rfl
    try simp only [List.setIfInBounds_toArray, List.set_cons_zero, List.set_cons_succ]
    refine AnyU.next (i := 9) (v := ?_) hq hns hHeld rfl rfl (by kernel_rfl) (Or.inl ⟨by rfl, ?_⟩) ?_
    rotate_left
    · intro w' hSw; (try dsimp only at hSw); go_simp <;> with_reducible rfl
    try simp only [List.setIfInBounds_toArray, List.set_cons_zero, List.set_cons_succ]
    clear hHeld
    have f0 := Sx.frozen 0
    have f1 := Sx.frozen 1
    have f2 := Sx.frozen 2
    have f3 := Sx.frozen 3
    have f4 := Sx.frozen 4
    have f5 := Sx.frozen 5
    have j0 := Sx.cell 0
    have j1 := Sx.cell 1
    have j2 := Sx.cell 2
    have j3 := Sx.cell 3
    have j4 := Sx.cell 4
    have j5 := Sx.cell 5
    refine AnyU.one 11 (by kernel_rfl) rfl (fun K hK => ?_)
    go_simp
    refine hK.out _ _ (.inl rfl) (fun _ => ?_)
    clear hK K f0 f1 f2 f3 f4 f5 j0 j1 j2 j3 j4 j5
    try simp only [List.setIfInBounds_toArray, List.set_cons_zero, List.set_cons_succ]
    refine AnyU.done (by kernel_rfl) (hQK.out _ _ ?_)
    clear hQK hq hns
    have Sx := Sx.put6x (.bool s1) (.slice T u0.length ct) (.slice none 0 0) (.bool false) (.slice none 0 0) (.slice none 0 0)
    have OT := OT.far6 (b := g) hTg (.bool s1) (.slice T u0.length ct) (.slice none 0 0) (.bool false) (.slice none 0 0) (.slice none 0 0)
    have kkd := kkd.put6g hgb (.bool s1) (.slice T u0.length ct) (.slice none 0 0) (.bool false) (.slice none 0 0) (.slice none 0 0)
    obtain ⟨w9, hw9⟩ : ∃ w9, w9 = wr6 w8 g (.bool s1) (.slice T u0.length ct) (.slice none 0 0) (.bool false) (.slice none 0 0) (.slice none 0 0) := ⟨_, rfl⟩
    have hw9' := hw9
    unfold wr6 wr3 at hw9'
    rw [← hw9']
    rw [← hw9] at Sx OT kkd
    clear hw9 hw9'
    have hw9s : w.heap.size + 1 < w9.heap.size := kkd.2.1.2
    have j0 := Sx.cell 0
    have j1 := Sx.cell 1
    have j2 := Sx.cell 2
    have j3 := Sx.cell 3
    have j4 := Sx.cell 4
    have j5 := Sx.cell 5
    have hRW := row_raw s1 false T none none none ct 0 0 0 0 0 0 u0 (u0.length + 1) w9 OT.rw (by omega) (by omega) (by omega)
    rw [HX.out _ (Nat.le_succ _)] at hRW
    simp only [Int.natCast_add, Int.cast_ofNat_Int] at hRW
    go_wp2_with fail
    refine hRW.mono ?_; rintro e10 w10 ⟨gr, rfl, OR, B10⟩
    clear hRW j0 j1 j2 j3 j4 j5
    have kkd := kkd.nx B10
    have hz9 : w.heap.size + 1 < w10.heap.size := kkd.2.1.2
    have OR := OR.base_le (B := w.heap.size + 2) hw9s
    have hN := bnum_any gr (u0.length + 1) (rowI (u0.length + 1) (X * ((2 ^ n : Nat) : Int))) w10 (w.heap.size + 2) OR (by rw [rowI_len]; omega) (by rw [rowI_len]; omega) (by omega)
    rw [num_row HL.out, rowI_len] at hN
    obtain ⟨R, hR⟩ : ∃ R, Hid (fitQ (((X * ((2 ^ n : Nat) : Int) : Int)) : Rat) 0 = R) := ⟨_, rfl⟩
    rw [hR.out] at hN
    obtain ⟨fr, fi, fk⟩ := R
    go_wp2_with fail
    refine hN.mono ?_; rintro e11 w11 ⟨H1, h1, I1, i1_, H2, h2, I2, i2_, rfl, O1, O2, O3, O4, B11⟩
    clear hN
    have hRC := (kkd.2.1.sb.below B11 (by omega)).rc (n := 6)
    have BB6 := kkd.2.2.trans (B11.mono (by omega))
    dsimp only at O1 O2 O3 O4
    go_wp2_with (refine wp_st6 rfl (.tmp 4) (.tmp 44) rfl _ rfl _ _ _ _ _ _ rfl hRC rfl rfl rfl rfl rfl rfl ?_)
    have s6 := hRC.put6 (.bool fr.s) (.slice H1 fr.a.length h1) (.slice I1 fr.b.length i1_) (.bool fi.s) (.slice H2 fi.a.length h2) (.slice I2 fi.b.length i2_)
    have B6 := wr6_below (b := w.heap.size + 1) BB6 (by omega) (.bool fr.s) (.slice H1 fr.a.length h1) (.slice I1 fr.b.length i1_) (.bool fi.s) (.slice H2 fi.a.length h2) (.slice I2 fi.b.length i2_)
    have O1 := O1.put6 (b := w.heap.size + 1) (by omega) (.bool fr.s) (.slice H1 fr.a.length h1) (.slice I1 fr.b.length i1_) (.bool fi.s) (.slice H2 fi.a.length h2) (.slice I2 fi.b.length i2_)
    have O2 := O2.put6 (b := w.heap.size + 1) (by omega) (.bool fr.s) (.slice H1 fr.a.length h1) (.slice I1 fr.b.length i1_) (.bool fi.s) (.slice H2 fi.a.length h2) (.slice I2 fi.b.length i2_)
    have O3 := O3.put6 (b := w.heap.size + 1) (by omega) (.bool fr.s) (.slice H1 fr.a.length h1) (.slice I1 fr.b.length i1_) (.bool fi.s) (.slice H2 fi.a.length h2) (.slice I2 fi.b.length i2_)
    have O4 := O4.put6 (b := w.heap.size + 1) (by omega) (.bool fr.s) (.slice H1 fr.a.length h1) (.slice I1 fr.b.length i1_) (.bool fi.s) (.slice H2 fi.a.length h2) (.slice I2 fi.b.length i2_)
    have r0' := s6.cell 0
    have r1' := s6.cell 1
    have r2' := s6.cell 2
    have r3' := s6.cell 3
    have r4' := s6.cell 4
    have r5' := s6.cell 5
    refine bodyPost_ret (v := .tuple #[.agg #[.bool fr.s, .slice H1 fr.a.length h1, .slice I1 fr.b.length i1_, .bool fi.s, .slice H2 fi.a.length h2, .slice I2 fi.b.length i2_], .int .i64 fk]) (by simp [results, r0', r1', r2', r3', r4', r5', go_sem]) rfl ?_
    rw [hR.out]
    exact ⟨H1, h1, I1, i1_, H2, h2, I2, i2_, rfl, O1.base_le (by omega), O2.base_le (by omega), O3.base_le (by omega), O4.base_le (by omega), B6⟩

end Go.Proofs.YtbgggepdlkbpoaaGreatDoor
namespace Go.Proofs.YtbgggepdlkbpoaaGreatDoor
open Go.RowKit


end Go.Proofs.YtbgggepdlkbpoaaGreatDoor
namespace Go.Proofs.YtbgggepdlkbpoaaGreatDoor
open Go.RowKit

/-- Shift's answer -/
def qshiftA (r i : Rw) (n : Int) : Rw × Rw × Int :=
  if bchkN1 r i = 0 then (if n < -16384 ∨ 16384 < n then (rw0, rw0, 1) else if 0 ≤ n then fitQ ((iv r * ((2 ^ n.toNat : Nat) : Int) : Int) : Rat) 0 else fitQ ((iv r / ((2 ^ (-n).toNat : Nat) : Int) : Int) : Rat) 0) else (rw0, rw0, bchkN1 r i)
theorem iv_sign {r i : Rw} (h : wB r i = true) : r.s = decide (iv r < 0) := by
  obtain ⟨x1, x2, x3⟩ := wB_rw h
  have e : r.s = (rwq ((iv r : Int) : Rat)).s := congrArg Rw.s x1
  exact e
theorem bshift_any (V : Value) (r i : Rw) (n : Int) (w : World) (hV : VN w w.heap.size V r i) :
    Calls Tryz.prog 9 #[V, .int .i64 n] w (RetNE w (qshiftA r i n)) := by
  obtain ⟨A1, c1, D1, d1, A2, c2, D2, d2, rfl, p1, p2, p3, p4⟩ := hV
  unfold qshiftA
  by_cases hk : bchkN1 r i = 0
  · rw [if_pos hk]
    obtain ⟨x1, x2, x3⟩ := wB_rw (bchk1_zero hk)
    by_cases h : n < -16384 ∨ 16384 < n
    · rw [if_pos h]
      by_cases h1 : n < -16384
      · exact bshift_neg r.s i.s r.a r.b i.a i.b A1 D1 A2 D2 c1 d1 c2 d2 w p1 p2 p3 p4 n h1 hk
      · exact bshift_far r.s i.s r.a r.b i.a i.b A1 D1 A2 D2 c1 d1 c2 d2 w p1 p2 p3 p4 n ⟨h1, by omega⟩ hk
    · rw [if_neg h]
      by_cases h0 : 0 ≤ n
      · rw [if_pos h0]
        obtain ⟨m, rfl⟩ : ∃ m : Nat, n = (m : Int) := ⟨n.toNat, by omega⟩
        exact bshift_up r.s i.s r.a r.b i.a i.b A1 D1 A2 D2 c1 d1 c2 d2 w p1 p2 p3 p4 (iv r) m (by omega) (Lib.hid x1) x3 hk
      rw [if_neg h0]
      obtain ⟨m, hm⟩ : ∃ m : Nat, -n = (m : Int) := ⟨(-n).toNat, by omega⟩
      rw [hm, Int.toNat_natCast]
      exact bshift_down r.s i.s r.a r.b i.a i.b A1 D1 A2 D2 c1 d1 c2 d2 w p1 p2 p3 p4 (iv r) n m hm (by omega) (by omega) (Lib.hid x1) x3 hk
  · rw [if_neg hk]
    exact bshift_bad r.s i.s r.a r.b i.a i.b A1 D1 A2 D2 c1 d1 c2 d2 w p1 p2 p3 p4 n _ rfl (beq_eq_false_iff_ne.2 hk)
end Go.Proofs.YtbgggepdlkbpoaaGreatDoor
namespace Go.Proofs.YtbgggepdlkbpoaaGreatDoor
open Go.RowKit

theorem nB_whole (s : Bool) (v : Nat) (h : v = 0 → s = false) (hl : (digs v).length ≤ 512) : wB (rwq ((sgn s v : Int) : Rat)) (rwq 0) = true := by
  have h1 : qw ((sgn s v : Int) : Rat) ≤ 512 := by rw [qw_int]; omega
  have h2 : qw 0 ≤ 512 := by rw [qw_zero]; omega
  have hn : nB (rwq ((sgn s v : Int) : Rat)) (rwq 0) = true := by
    unfold nB rwq
    dsimp only
    rw [rsB_of _ h1, rsB_of _ h2]; rfl
  unfold wB
  rw [hn, rwq_int s v h, rwq_z']
  rfl
theorem wB_nB {r i : Rw} (h : wB r i = true) : nB r i = true := by
  unfold wB at h
  rw [Bool.and_eq_true] at h
  exact h.1
theorem bchk2_of {r i r2 i2 : Rw} (h1 : wB r i = true) (h2 : wB r2 i2 = true) : bchkN2 r i r2 i2 = 0 := by
  unfold bchkN2
  rw [if_pos ⟨wB_nB h1, wB_nB h2⟩, if_pos ⟨h1, h2⟩]
theorem bchk1_of {r i : Rw} (h1 : wB r i = true) : bchkN1 r i = 0 := by
  unfold bchkN1
  rw [if_pos (wB_nB h1), if_pos h1]
theorem sameB_self {r i : Rw} (h : nB r i = true) : sameB r i r i = true := by
  unfold sameB
  rw [h]
  simp [fsB]
theorem alikeB_self (r i : Rw) : alikeB r i r i = true := by unfold alikeB; simp [fsB]
theorem digs_small {k : Nat} (h0 : k ≠ 0) (h : k < 4294967296) : digs k = [k] := digs_one (by omega) h
theorem and_awake : qbothA (· &&& ·) (rwq ((-1 : Int) : Rat)) (rwq 0) (rwq ((5 : Int) : Rat)) (rwq 0) = (rwq ((5 : Int) : Rat), rwq 0, 0) := by
  have d1 : (digs 1).length = 1 := by rw [digs_one1]; rfl
  have d5 : (digs 5).length = 1 := by rw [digs_small (by omega) (by omega)]; rfl
  have e1 : ((-1 : Int)) = sgn true 1 := by rw [sgn_true]; rfl
  have e5 : ((5 : Int)) = sgn false 5 := by rw [sgn_false]; rfl
  have w1 : wB (rwq ((-1 : Int) : Rat)) (rwq 0) = true := by rw [e1]; exact nB_whole true 1 (by omega) (by omega)
  have w5 : wB (rwq ((5 : Int) : Rat)) (rwq 0) = true := by rw [e5]; exact nB_whole false 5 (by omega) (by omega)
  unfold qbothA
  rw [if_pos (bchk2_of w1 w5)]
  have v1 : iv (rwq ((-1 : Int) : Rat)) = -1 := by unfold iv; rw [e1, rwq_int true 1 (by omega)]; show sgn true (val (digs 1)) = _; rw [val_digs]
  have v5 : iv (rwq ((5 : Int) : Rat)) = 5 := by unfold iv; rw [e5, rwq_int false 5 (fun _ => rfl)]; show sgn false (val (digs 5)) = _; rw [val_digs]
  rw [v1, v5]
  have l1 : (rwq ((-1 : Int) : Rat)).a.length = 1 := by rw [e1, rwq_int true 1 (by omega)]; exact d1
  have l5 : (rwq ((5 : Int) : Rat)).a.length = 1 := by rw [e5, rwq_int false 5 (fun _ => rfl)]; exact d5
  rw [l1, l5]
  have hop : isOp (fun p q => p && q) (rowOp (fun x y => x &&& y) (max 1 1 + 1) (-1) 5) (-1) 5 := rowOp_is bitOp_and (n := max 1 1 + 1) (X := -1) (Y := 5) (by show (digs 1).length < _; omega) (by show (digs 5).length < _; omega)
  have h5 : isOp (fun p q => p && q) 5 (-1) 5 := fun k => by
    have : ib (-1) k = true := by unfold ib; rw [if_pos (by omega)]; simp
    show _ = (_ && _)
    rw [this]; rfl
  rw [isOp_uniq hop h5]
  exact fitQ_ok (by rw [e5, qw_int]; omega) (by rw [qw_zero]; omega)
end Go.Proofs.YtbgggepdlkbpoaaGreatDoor
namespace Go.Proofs.YtbgggepdlkbpoaaGreatDoor
open Go.RowKit

theorem pop_pcount : ∀ n : Fin 256, Lib.pop8 (n.val : Int) = (pcount n.val 8 : Int) := by decide +kernel
theorem pop_pc (n : Nat) (h : n < 256) : Lib.pop8 (n : Int) = (pcount n 8 : Int) := pop_pcount ⟨n, h⟩
theorem pcount_far {m n : Nat} (h : m < 2 ^ n) (j : Nat) : pcount m (n + j) = pcount m n := by
  induction j with
  | zero => rfl
  | succ j ih =>
    rw [← Nat.add_assoc]
    show pcount m (n + j) + (if m.testBit (n + j) = true then 1 else 0) = _
    rw [ih, Nat.testBit_lt_two_pow (Nat.lt_of_lt_of_le h (Nat.pow_le_pow_right (by omega) (Nat.le_add_right ..)))]
    rfl
/-- how many bits of a number of up to 512 words are 1 -/
def pcN (m : Nat) : Nat := pcount m 16384
theorem pcN_words {m : Nat} (h : (digs m).length ≤ 512) : pcount m (32 * (digs m).length) = pcN m := by
  have h1 : m < 2 ^ (32 * (digs m).length) := by rw [← Wp_eq]; exact digs_len_le.1 (Nat.le_refl _)
  have h2 := pcount_far h1 (16384 - 32 * (digs m).length)
  rw [show 32 * (digs m).length + (16384 - 32 * (digs m).length) = 16384 by omega] at h2
  exact h2.symm

set_option maxRecDepth 100000 in
set_option maxHeartbeats 16000000 in
theorem blength_bad (s1 : Bool) (s2 : Bool) (a1 b1 a2 b2 : List Nat) (A1 D1 A2 D2 : Option Addr) (c1 d1 c2 d2 : Nat) (w : World) (p1 : RW w w.heap.size A1 c1 a1) (p2 : RW w w.heap.size D1 d1 b1) (p3 : RW w w.heap.size A2 c2 a2) (p4 : RW w w.heap.size D2 d2 b2) (k : Int) (hk : bchkN1 ⟨s1, a1, b1⟩ ⟨s2, a2, b2⟩ = k) (hk0 : (k == 0) = false) :
    Calls Tryz.prog 4 #[.agg #[.bool s1, .slice A1 a1.length c1, .slice D1 b1.length d1, .bool s2, .slice A2 a2.length c2, .slice D2 b2.length d2]] w fun e w' => e = .returned (.tuple #[.int .i64 0, .int .i64 k]) ∧ Below w.heap.size w w' := by
  have S1 := SB.new w [.bool s1, .slice A1 a1.length c1, .slice D1 b1.length d1, .bool s2, .slice A2 a2.length c2, .slice D2 b2.length d2] 26
  have C1 := bal w (.cells #[.bool s1, .slice A1 a1.length c1, .slice D1 b1.length d1, .bool s2, .slice A2 a2.length c2, .slice D2 b2.length d2] 26)
  have L2 := bal (w.alloc (.cells #[.bool s1, .slice A1 a1.length c1, .slice D1 b1.length d1, .bool s2, .slice A2 a2.length c2, .slice D2 b2.length d2] 26)) (.cells #[.bool s1, .slice A1 a1.length c1, .slice D1 b1.length d1, .bool s2, .slice A2 a2.length c2, .slice D2 b2.length d2] 26)
  have SG := SB.new (w.alloc (.cells #[.bool s1, .slice A1 a1.length c1, .slice D1 b1.length d1, .bool s2, .slice A2 a2.length c2, .slice D2 b2.length d2] 26)) [.bool s1, .slice A1 a1.length c1, .slice D1 b1.length d1, .bool s2, .slice A2 a2.length c2, .slice D2 b2.length d2] 26
  have z3 : (w.alloc (.cells #[.bool s1, .slice A1 a1.length c1, .slice D1 b1.length d1, .bool s2, .slice A2 a2.length c2, .slice D2 b2.length d2] 26)).heap.size = w.heap.size + 1 := by simp
  rw [z3] at SG
  have hC := fun w' hg h1 h2 h3 h4 => bcheck1_any (w.heap.size + 1) s1 a1 b1 s2 a2 b2 A1 c1 D1 d1 A2 c2 D2 d2 w' hg h1 h2 h3 h4
  have BW := bt C1 L2
  have S2_ := S1.nx L2
  obtain ⟨W, hW⟩ : ∃ W, W = (w.alloc (.cells #[.bool s1, .slice A1 a1.length c1, .slice D1 b1.length d1, .bool s2, .slice A2 a2.length c2, .slice D2 b2.length d2] 26)).alloc (.cells #[.bool s1, .slice A1 a1.length c1, .slice D1 b1.length d1, .bool s2, .slice A2 a2.length c2, .slice D2 b2.length d2] 26) := ⟨_, rfl⟩
  have i0 := S1.cell 0
  have i1 := S1.cell 1
  have i2 := S1.cell 2
  have i3 := S1.cell 3
  have i4 := S1.cell 4
  have i5 := S1.cell 5
  simp only [hk] at hC
  have Hk := Lib.hid hk
  clear hk
  have n0 : (k != 0) = true := by simp [bne, hk0]
  go_enter Tryz.func4, Tryz.ntmps4
  go_wp2_with fail
  rw [← hW] at S2_ SG BW ⊢
  clear hW S1 C1 L2 z3 i0 i1 i2 i3 i4 i5
  refine (hC W SG (st p1 BW) (st p2 BW) (st p3 BW) (st p4 BW)).mono ?_; rintro e w5 ⟨rfl, B5⟩
  clear hC
  have S5 := S2_.nx B5
  have BB := bt BW B5
  go_wp2_with fail
  go_ret2
  exact ⟨rfl, BB⟩


set_option maxRecDepth 100000 in
set_option maxHeartbeats 16000000 in
theorem blength_pos (s2 : Bool) (a1 b1 a2 b2 : List Nat) (A1 D1 A2 D2 : Option Addr) (c1 d1 c2 d2 : Nat) (w : World) (p1 : RW w w.heap.size A1 c1 a1) (p2 : RW w w.heap.size D1 d1 b1) (p3 : RW w w.heap.size A2 c2 a2) (p4 : RW w w.heap.size D2 d2 b2) (hN : Nrm a1) (hk : bchkN1 ⟨false, a1, b1⟩ ⟨s2, a2, b2⟩ = 0) :
    Calls Tryz.prog 4 #[.agg #[.bool false, .slice A1 a1.length c1, .slice D1 b1.length d1, .bool s2, .slice A2 a2.length c2, .slice D2 b2.length d2]] w fun e w' => e = .returned (.tuple #[.int .i64 (blen (val a1)), .int .i64 0]) ∧ Below w.heap.size w w' := by
  have S1 := SB.new w [.bool false, .slice A1 a1.length c1, .slice D1 b1.length d1, .bool s2, .slice A2 a2.length c2, .slice D2 b2.length d2] 26
  have C1 := bal w (.cells #[.bool false, .slice A1 a1.length c1, .slice D1 b1.length d1, .bool s2, .slice A2 a2.length c2, .slice D2 b2.length d2] 26)
  have L2 := bal (w.alloc (.cells #[.bool false, .slice A1 a1.length c1, .slice D1 b1.length d1, .bool s2, .slice A2 a2.length c2, .slice D2 b2.length d2] 26)) (.cells #[.bool false, .slice A1 a1.length c1, .slice D1 b1.length d1, .bool s2, .slice A2 a2.length c2, .slice D2 b2.length d2] 26)
  have SG := SB.new (w.alloc (.cells #[.bool false, .slice A1 a1.length c1, .slice D1 b1.length d1, .bool s2, .slice A2 a2.length c2, .slice D2 b2.length d2] 26)) [.bool false, .slice A1 a1.length c1, .slice D1 b1.length d1, .bool s2, .slice A2 a2.length c2, .slice D2 b2.length d2] 26
  have z3 : (w.alloc (.cells #[.bool false, .slice A1 a1.length c1, .slice D1 b1.length d1, .bool s2, .slice A2 a2.length c2, .slice D2 b2.length d2] 26)).heap.size = w.heap.size + 1 := by simp
  rw [z3] at SG
  have hC := fun w' hg h1 h2 h3 h4 => bcheck1_any (w.heap.size + 1) false a1 b1 s2 a2 b2 A1 c1 D1 d1 A2 c2 D2 d2 w' hg h1 h2 h3 h4
  have BW := bt C1 L2
  have S2_ := S1.nx L2
  obtain ⟨W, hW⟩ : ∃ W, W = (w.alloc (.cells #[.bool false, .slice A1 a1.length c1, .slice D1 b1.length d1, .bool s2, .slice A2 a2.length c2, .slice D2 b2.length d2] 26)).alloc (.cells #[.bool false, .slice A1 a1.length c1, .slice D1 b1.length d1, .bool s2, .slice A2 a2.length c2, .slice D2 b2.length d2] 26) := ⟨_, rfl⟩
  have i0 := S1.cell 0
  have i1 := S1.cell 1
  have i2 := S1.cell 2
  have i3 := S1.cell 3
  have i4 := S1.cell 4
  have i5 := S1.cell 5
  simp only [hk] at hC
  clear hk
  have hS := fun w' h => size_any A1 c1 a1.length a1 w' rfl h hN
  go_enter Tryz.func4, Tryz.ntmps4
  go_wp2_with fail
  rw [← hW] at S2_ SG BW ⊢
  clear hW S1 C1 L2 z3 i0 i1 i2 i3 i4 i5
  refine (hC W SG (st p1 BW) (st p2 BW) (st p3 BW) (st p4 BW)).mono ?_; rintro e w5 ⟨rfl, B5⟩
  clear hC
  have S5 := S2_.nx B5
  have BB := bt BW B5
  have i0 := S5.cell 0
  have i1 := S5.cell 1
  go_wp2_with fail
  refine (hS _ (st p1 BB)).mono ?_; rintro e6 w6 ⟨rfl, rfl⟩
  go_wp2_with fail
  go_ret2
  exact ⟨rfl, BB⟩


set_option maxRecDepth 100000 in
set_option maxHeartbeats 16000000 in
theorem blength_neg (s2 : Bool) (a1 b1 a2 b2 : List Nat) (A1 D1 A2 D2 : Option Addr) (c1 d1 c2 d2 : Nat) (w : World) (p1 : RW w w.heap.size A1 c1 a1) (p2 : RW w w.heap.size D1 d1 b1) (p3 : RW w w.heap.size A2 c2 a2) (p4 : RW w w.heap.size D2 d2 b2) (X : Int) (v : Nat) (hv : X = -(v : Int) - 1) (hX : Hid ((⟨true, a1, b1⟩ : Rw) = rwq ((X : Int) : Rat) ∧ (⟨s2, a2, b2⟩ : Rw) = rwq 0)) (la : a1.length ≤ 512) (hk : bchkN1 ⟨true, a1, b1⟩ ⟨s2, a2, b2⟩ = 0) :
    Calls Tryz.prog 4 #[.agg #[.bool true, .slice A1 a1.length c1, .slice D1 b1.length d1, .bool s2, .slice A2 a2.length c2, .slice D2 b2.length d2]] w fun e w' => e = .returned (.tuple #[.int .i64 (blen v), .int .i64 0]) ∧ Below w.heap.size w w' := by
  have S1 := SB.new w [.bool true, .slice A1 a1.length c1, .slice D1 b1.length d1, .bool s2, .slice A2 a2.length c2, .slice D2 b2.length d2] 26
  have C1 := bal w (.cells #[.bool true, .slice A1 a1.length c1, .slice D1 b1.length d1, .bool s2, .slice A2 a2.length c2, .slice D2 b2.length d2] 26)
  have L2 := bal (w.alloc (.cells #[.bool true, .slice A1 a1.length c1, .slice D1 b1.length d1, .bool s2, .slice A2 a2.length c2, .slice D2 b2.length d2] 26)) (.cells #[.bool true, .slice A1 a1.length c1, .slice D1 b1.length d1, .bool s2, .slice A2 a2.length c2, .slice D2 b2.length d2] 26)
  have SG := SB.new (w.alloc (.cells #[.bool true, .slice A1 a1.length c1, .slice D1 b1.length d1, .bool s2, .slice A2 a2.length c2, .slice D2 b2.length d2] 26)) [.bool true, .slice A1 a1.length c1, .slice D1 b1.length d1, .bool s2, .slice A2 a2.length c2, .slice D2 b2.length d2] 26
  have z3 : (w.alloc (.cells #[.bool true, .slice A1 a1.length c1, .slice D1 b1.length d1, .bool s2, .slice A2 a2.length c2, .slice D2 b2.length d2] 26)).heap.size = w.heap.size + 1 := by simp
  rw [z3] at SG
  have hC := fun w' hg h1 h2 h3 h4 => bcheck1_any (w.heap.size + 1) true a1 b1 s2 a2 b2 A1 c1 D1 d1 A2 c2 D2 d2 w' hg h1 h2 h3 h4
  have BW := bt C1 L2
  have S2_ := S1.nx L2
  obtain ⟨W, hW⟩ : ∃ W, W = (w.alloc (.cells #[.bool true, .slice A1 a1.length c1, .slice D1 b1.length d1, .bool s2, .slice A2 a2.length c2, .slice D2 b2.length d2] 26)).alloc (.cells #[.bool true, .slice A1 a1.length c1, .slice D1 b1.length d1, .bool s2, .slice A2 a2.length c2, .slice D2 b2.length d2] 26) := ⟨_, rfl⟩
  have i0 := S1.cell 0
  have i1 := S1.cell 1
  have i2 := S1.cell 2
  have i3 := S1.cell 3
  have i4 := S1.cell 4
  have i5 := S1.cell 5
  have hY : (-X - 1 : Int) = sgn false v := by rw [hv, sgn_false]; omega
  have hvl : (digs v).length ≤ 512 := by
    have h3 : a1 = digs X.natAbs := congrArg Rw.a hX.out.1
    have h4 := digs_mono (show v ≤ X.natAbs by rw [hv]; omega)
    rw [← h3] at h4; omega
  have hN := fun V w' h => bnot_any V ⟨true, a1, b1⟩ ⟨s2, a2, b2⟩ w' h
  have hq : qbothA (fun x _ => 4294967295 - x) ⟨true, a1, b1⟩ ⟨s2, a2, b2⟩ ⟨true, a1, b1⟩ ⟨s2, a2, b2⟩ = (⟨false, digs v, [1]⟩, ⟨false, [], [1]⟩, 0) := by
    rw [qboth_not]
    unfold qnotA
    have hiv : iv ⟨true, a1, b1⟩ = X := by
      have e1 : a1 = digs X.natAbs := congrArg Rw.a hX.out.1
      unfold iv
      rw [sgn_true]
      dsimp only
      rw [e1, val_digs]
      omega
    rw [if_pos hk, hiv, hY]
    exact fit_int (fun _ => rfl) hvl
  rw [hq] at hN
  clear hq
  simp only [hk] at hC
  have HV := Lib.hid hv
  clear hk hv hY
  obtain ⟨y, hy⟩ : ∃ y, Hid (digs v = y) := ⟨_, rfl⟩
  rw [hy.out] at hN hvl
  have hyn : Nrm y := by rw [← hy.out]; exact Nrm_digs v
  have hS := fun A c w' h => size_any A c y.length y w' rfl h hyn
  rw [show val y = v by rw [← hy.out, val_digs]] at hS
  go_enter Tryz.func4, Tryz.ntmps4
  go_wp2_with fail
  rw [← hW] at S2_ SG BW ⊢
  clear hW S1 C1 L2 z3 i0 i1 i2 i3 i4 i5
  refine (hC W SG (st p1 BW) (st p2 BW) (st p3 BW) (st p4 BW)).mono ?_; rintro e w5 ⟨rfl, B5⟩
  clear hC
  have S5 := S2_.nx B5
  have BB := bt BW B5
  have i0 := S5.cell 0
  have i1 := S5.cell 1
  have i2 := S5.cell 2
  have i3 := S5.cell 3
  have i4 := S5.cell 4
  have i5 := S5.cell 5
  have hVN : VN w5 w5.heap.size (.agg #[.bool true, .slice A1 a1.length c1, .slice D1 b1.length d1, .bool s2, .slice A2 a2.length c2, .slice D2 b2.length d2]) ⟨true, a1, b1⟩ ⟨s2, a2, b2⟩ := ⟨A1, c1, D1, d1, A2, c2, D2, d2, rfl, st p1 BB, st p2 BB, st p3 BB, st p4 BB⟩
  go_wp2_with fail
  refine (hN _ _ hVN).mono ?_; rintro e6 w6 ⟨T, ct, D3, d3, T2, ct2, D4, d4, rfl, O1, O2, O3, O4, B6⟩
  clear hN i0 i1 i2 i3 i4 i5 hVN
  dsimp only [List.length_nil, List.length_cons, Nat.zero_add] at O1 O2 O3 O4 ⊢
  have hz5 := S5.2
  have BB := bt BB B6
  have S6 := S5.nx B6
  have hRC := S6.rc (n := 6)
  go_upto_region 6 with (refine wp_st6 rfl (.tmp 1) (.tmp 17) rfl _ rfl _ _ _ _ _ _ rfl hRC rfl rfl rfl rfl rfl rfl ?_)
  have Sb := S6.put6x (.bool false) (.slice T y.length ct) (.slice D3 1 d3) (.bool false) (.slice T2 0 ct2) (.slice D4 1 d4)
  have BB := wr6_below (b := w.heap.size) BB (Nat.le_refl _) (.bool false) (.slice T y.length ct) (.slice D3 1 d3) (.bool false) (.slice T2 0 ct2) (.slice D4 1 d4)
  have O1 := O1.put6 (b := w.heap.size) hz5 (.bool false) (.slice T y.length ct) (.slice D3 1 d3) (.bool false) (.slice T2 0 ct2) (.slice D4 1 d4)
  obtain ⟨w7, hw7⟩ : ∃ w7, w7 = wr6 w6 w.heap.size (.bool false) (.slice T y.length ct) (.slice D3 1 d3) (.bool false) (.slice T2 0 ct2) (.slice D4 1 d4) := ⟨_, rfl⟩
  rw [← hw7] at Sb BB O1 ⊢
  clear hw7 O2 O3 O4 B6 hRC S6
  have i1 := Sb.cell 1
  go_wp2_with fail
  refine (hS _ _ _ O1.rw).mono ?_; rintro e8 w8 ⟨rfl, rfl⟩
  go_wp2_with fail
  go_ret2
  exact ⟨rfl, BB⟩


end Go.Proofs.YtbgggepdlkbpoaaGreatDoor
