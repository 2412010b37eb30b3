/- Merged texts: BiQ, BiR, AnyT. -/
import Derived.Test.YtbgggepdlkbpoaaGreatDoorGP
import Derived.StillTailTactics
import Derived.IntWalk
import Derived.Test.YtbgggepdlkbpoaaGreatDoorGI
namespace Go.Proofs.YtbgggepdlkbpoaaGreatDoor
open Go.RowKit

theorem field_word {x y s : Nat} (hx : x < 4294967296) (hy : y < 4294967296) (hs : s < 32) :
    bits BinOp.or IntKind.u32 (x : Int) (bits BinOp.and IntKind.u32 ((y : Int) / 2 ^ s) 1 * 2 ^ s % 4294967296) = ((x ||| ((if y.testBit s then 1 else 0) * 2 ^ s) : Nat) : Int) := by
  have e1 : ((y : Int) / 2 ^ s) = ((y / 2 ^ s : Nat) : Int) := by push_cast; rfl
  have e2 := u32_and_nat (y / 2 ^ s) 1 (Nat.lt_of_le_of_lt (Nat.div_le_self _ _) hy) (by omega)
  have e3 := bit_one y s
  rw [Nat.shiftRight_eq_div_pow] at e3
  have h3 : 2 ^ s < 2 ^ 32 := Nat.pow_lt_pow_right (by omega) hs
  rw [e3] at e2
  rw [e1, show (1 : Int) = ((1 : Nat) : Int) from rfl, e2]
  have e4 : (((if y.testBit s = true then 1 else 0 : Nat) : Int) * 2 ^ s % 4294967296) = (((if y.testBit s then 1 else 0) * 2 ^ s : Nat) : Int) := by
    rw [show ((2 : Int) ^ s) = ((2 ^ s : Nat) : Int) by push_cast; rfl, ← Int.natCast_mul]
    have : (if y.testBit s = true then 1 else 0) * 2 ^ s < 4294967296 := by split <;> omega
    omega
  rw [e4]
  exact u32_or_nat _ _ hx (by have : (if y.testBit s = true then 1 else 0) * 2 ^ s < 4294967296 := by split <;> omega
                              exact this)


set_option maxRecDepth 100000 in
set_option maxHeartbeats 16000000 in
theorem bfield_bad (s1 s2 : Bool) (a1 b1 a2 b2 : List Nat) (A1 D1 A2 D2 : Option Addr) (c1 d1 c2 d2 : Nat) (w : World) (p1 : RW w w.heap.size A1 c1 a1) (p2 : RW w w.heap.size D1 d1 b1) (p3 : RW w w.heap.size A2 c2 a2) (p4 : RW w w.heap.size D2 d2 b2) (u e : Int) (k : Int) (hk : bchkN1 ⟨s1, a1, b1⟩ ⟨s2, a2, b2⟩ = k) (hk0 : (k == 0) = false) :
    Calls Tryz.prog 8 #[.agg #[.bool s1, .slice A1 a1.length c1, .slice D1 b1.length d1, .bool s2, .slice A2 a2.length c2, .slice D2 b2.length d2], .int .i64 u, .int .i64 e] w (RetNE w (rw0, rw0, k)) := by
  have kk0 := S2.new w [.bool s1, .slice A1 a1.length c1, .slice D1 b1.length d1, .bool s2, .slice A2 a2.length c2, .slice D2 b2.length d2] [.bool false, .slice none 0 0, .slice none 0 0, .bool false, .slice none 0 0, .slice none 0 0] 26 26 6
  have LB4 := bal ((w.alloc (.cells #[.bool s1, .slice A1 a1.length c1, .slice D1 b1.length d1, .bool s2, .slice A2 a2.length c2, .slice D2 b2.length d2] 26)).alloc (.cells #[.bool false, .slice none 0 0, .slice none 0 0, .bool false, .slice none 0 0, .slice none 0 0] 26)) (.cells #[.bool s1, .slice A1 a1.length c1, .slice D1 b1.length d1, .bool s2, .slice A2 a2.length c2, .slice D2 b2.length d2] 26)
  have kk1 := kk0.nx LB4
  have SG := SB.new ((w.alloc (.cells #[.bool s1, .slice A1 a1.length c1, .slice D1 b1.length d1, .bool s2, .slice A2 a2.length c2, .slice D2 b2.length d2] 26)).alloc (.cells #[.bool false, .slice none 0 0, .slice none 0 0, .bool false, .slice none 0 0, .slice none 0 0] 26)) [.bool s1, .slice A1 a1.length c1, .slice D1 b1.length d1, .bool s2, .slice A2 a2.length c2, .slice D2 b2.length d2] 26
  have z3 : ((w.alloc (.cells #[.bool s1, .slice A1 a1.length c1, .slice D1 b1.length d1, .bool s2, .slice A2 a2.length c2, .slice D2 b2.length d2] 26)).alloc (.cells #[.bool false, .slice none 0 0, .slice none 0 0, .bool false, .slice none 0 0, .slice none 0 0] 26)).heap.size = w.heap.size + 2 := by simp
  rw [z3] at SG
  have hC := fun w' hg h1 h2 h3 h4 => bcheck1_any (w.heap.size + 2) s1 a1 b1 s2 a2 b2 A1 c1 D1 d1 A2 c2 D2 d2 w' hg h1 h2 h3 h4
  have BW := kk1.2.2
  obtain ⟨W, hW⟩ : ∃ W, W = ((w.alloc (.cells #[.bool s1, .slice A1 a1.length c1, .slice D1 b1.length d1, .bool s2, .slice A2 a2.length c2, .slice D2 b2.length d2] 26)).alloc (.cells #[.bool false, .slice none 0 0, .slice none 0 0, .bool false, .slice none 0 0, .slice none 0 0] 26)).alloc (.cells #[.bool s1, .slice A1 a1.length c1, .slice D1 b1.length d1, .bool s2, .slice A2 a2.length c2, .slice D2 b2.length d2] 26) := ⟨_, rfl⟩
  have i0 := kk0.1.cell 0
  have i1 := kk0.1.cell 1
  have i2 := kk0.1.cell 2
  have i3 := kk0.1.cell 3
  have i4 := kk0.1.cell 4
  have i5 := kk0.1.cell 5
  simp only [hk] at hC
  have Hk := Lib.hid hk
  clear hk
  have n0 : (k != 0) = true := by simp [bne, hk0]
  go_enter Tryz.func8, Tryz.ntmps8
  go_wp2_with fail
  rw [← hW] at kk1 SG BW ⊢
  clear hW kk0 i0 i1 i2 i3 i4 i5
  refine (hC W SG (st p1 BW) (st p2 BW) (st p3 BW) (st p4 BW)).mono ?_; rintro e w5 ⟨rfl, B5⟩
  clear hC
  have kk5 := kk1.nx B5
  have hRC := kk5.2.1
  have BB := kk5.2.2
  go_wp2_with (refine wp_st6 rfl (.tmp 6) (.tmp 19) rfl _ rfl _ _ _ _ _ _ rfl hRC rfl rfl rfl rfl rfl rfl ?_)
  have s6 := hRC.put6 (.bool false) (.slice none 0 0) (.slice none 0 0) (.bool false) (.slice none 0 0) (.slice none 0 0)
  have B6 := wr6_below (b := w.heap.size + 1) BB (by omega) (.bool false) (.slice none 0 0) (.slice none 0 0) (.bool false) (.slice none 0 0) (.slice none 0 0)
  have r0' := s6.cell 0
  have r1' := s6.cell 1
  have r2' := s6.cell 2
  have r3' := s6.cell 3
  have r4' := s6.cell 4
  have r5' := s6.cell 5
  refine bodyPost_ret (v := .tuple #[.agg #[.bool false, .slice none 0 0, .slice none 0 0, .bool false, .slice none 0 0, .slice none 0 0], .int .i64 k]) (by simp [results, r0', r1', r2', r3', r4', r5', go_sem]) rfl ?_
  exact retNE_nil k B6


set_option maxRecDepth 100000 in
set_option maxHeartbeats 16000000 in
theorem bfield_neg (s1 s2 : Bool) (a1 b1 a2 b2 : List Nat) (A1 D1 A2 D2 : Option Addr) (c1 d1 c2 d2 : Nat) (w : World) (p1 : RW w w.heap.size A1 c1 a1) (p2 : RW w w.heap.size D1 d1 b1) (p3 : RW w w.heap.size A2 c2 a2) (p4 : RW w w.heap.size D2 d2 b2) (u e : Int) (h : u < 0) (hk : bchkN1 ⟨s1, a1, b1⟩ ⟨s2, a2, b2⟩ = 0) :
    Calls Tryz.prog 8 #[.agg #[.bool s1, .slice A1 a1.length c1, .slice D1 b1.length d1, .bool s2, .slice A2 a2.length c2, .slice D2 b2.length d2], .int .i64 u, .int .i64 e] w (RetNE w (rw0, rw0, 1)) := by
  have kk0 := S2.new w [.bool s1, .slice A1 a1.length c1, .slice D1 b1.length d1, .bool s2, .slice A2 a2.length c2, .slice D2 b2.length d2] [.bool false, .slice none 0 0, .slice none 0 0, .bool false, .slice none 0 0, .slice none 0 0] 26 26 6
  have LB4 := bal ((w.alloc (.cells #[.bool s1, .slice A1 a1.length c1, .slice D1 b1.length d1, .bool s2, .slice A2 a2.length c2, .slice D2 b2.length d2] 26)).alloc (.cells #[.bool false, .slice none 0 0, .slice none 0 0, .bool false, .slice none 0 0, .slice none 0 0] 26)) (.cells #[.bool s1, .slice A1 a1.length c1, .slice D1 b1.length d1, .bool s2, .slice A2 a2.length c2, .slice D2 b2.length d2] 26)
  have kk1 := kk0.nx LB4
  have SG := SB.new ((w.alloc (.cells #[.bool s1, .slice A1 a1.length c1, .slice D1 b1.length d1, .bool s2, .slice A2 a2.length c2, .slice D2 b2.length d2] 26)).alloc (.cells #[.bool false, .slice none 0 0, .slice none 0 0, .bool false, .slice none 0 0, .slice none 0 0] 26)) [.bool s1, .slice A1 a1.length c1, .slice D1 b1.length d1, .bool s2, .slice A2 a2.length c2, .slice D2 b2.length d2] 26
  have z3 : ((w.alloc (.cells #[.bool s1, .slice A1 a1.length c1, .slice D1 b1.length d1, .bool s2, .slice A2 a2.length c2, .slice D2 b2.length d2] 26)).alloc (.cells #[.bool false, .slice none 0 0, .slice none 0 0, .bool false, .slice none 0 0, .slice none 0 0] 26)).heap.size = w.heap.size + 2 := by simp
  rw [z3] at SG
  have hC := fun w' hg h1 h2 h3 h4 => bcheck1_any (w.heap.size + 2) s1 a1 b1 s2 a2 b2 A1 c1 D1 d1 A2 c2 D2 d2 w' hg h1 h2 h3 h4
  have BW := kk1.2.2
  obtain ⟨W, hW⟩ : ∃ W, W = ((w.alloc (.cells #[.bool s1, .slice A1 a1.length c1, .slice D1 b1.length d1, .bool s2, .slice A2 a2.length c2, .slice D2 b2.length d2] 26)).alloc (.cells #[.bool false, .slice none 0 0, .slice none 0 0, .bool false, .slice none 0 0, .slice none 0 0] 26)).alloc (.cells #[.bool s1, .slice A1 a1.length c1, .slice D1 b1.length d1, .bool s2, .slice A2 a2.length c2, .slice D2 b2.length d2] 26) := ⟨_, rfl⟩
  have i0 := kk0.1.cell 0
  have i1 := kk0.1.cell 1
  have i2 := kk0.1.cell 2
  have i3 := kk0.1.cell 3
  have i4 := kk0.1.cell 4
  have i5 := kk0.1.cell 5
  simp only [hk] at hC
  clear hk
  have t1 : u < 0 := h
  clear h
  go_enter Tryz.func8, Tryz.ntmps8
  go_wp2_with fail
  rw [← hW] at kk1 SG BW ⊢
  clear hW kk0 i0 i1 i2 i3 i4 i5
  refine (hC W SG (st p1 BW) (st p2 BW) (st p3 BW) (st p4 BW)).mono ?_; rintro e w5 ⟨rfl, B5⟩
  clear hC
  have kk5 := kk1.nx B5
  have hRC := kk5.2.1
  have BB := kk5.2.2
  go_wp2_with (refine wp_st6 rfl (.tmp 6) (.tmp 32) rfl _ rfl _ _ _ _ _ _ rfl hRC rfl rfl rfl rfl rfl rfl ?_)
  have s6 := hRC.put6 (.bool false) (.slice none 0 0) (.slice none 0 0) (.bool false) (.slice none 0 0) (.slice none 0 0)
  have B6 := wr6_below (b := w.heap.size + 1) BB (by omega) (.bool false) (.slice none 0 0) (.slice none 0 0) (.bool false) (.slice none 0 0) (.slice none 0 0)
  have r0' := s6.cell 0
  have r1' := s6.cell 1
  have r2' := s6.cell 2
  have r3' := s6.cell 3
  have r4' := s6.cell 4
  have r5' := s6.cell 5
  refine bodyPost_ret (v := .tuple #[.agg #[.bool false, .slice none 0 0, .slice none 0 0, .bool false, .slice none 0 0, .slice none 0 0], .int .i64 1]) (by simp [results, r0', r1', r2', r3', r4', r5', go_sem]) rfl ?_
  exact retNE_nil 1 B6


set_option maxRecDepth 100000 in
set_option maxHeartbeats 16000000 in
theorem bfield_back (s1 s2 : Bool) (a1 b1 a2 b2 : List Nat) (A1 D1 A2 D2 : Option Addr) (c1 d1 c2 d2 : Nat) (w : World) (p1 : RW w w.heap.size A1 c1 a1) (p2 : RW w w.heap.size D1 d1 b1) (p3 : RW w w.heap.size A2 c2 a2) (p4 : RW w w.heap.size D2 d2 b2) (u e : Int) (h : ¬ u < 0 ∧ e < u) (hk : bchkN1 ⟨s1, a1, b1⟩ ⟨s2, a2, b2⟩ = 0) :
    Calls Tryz.prog 8 #[.agg #[.bool s1, .slice A1 a1.length c1, .slice D1 b1.length d1, .bool s2, .slice A2 a2.length c2, .slice D2 b2.length d2], .int .i64 u, .int .i64 e] w (RetNE w (rw0, rw0, 1)) := by
  have kk0 := S2.new w [.bool s1, .slice A1 a1.length c1, .slice D1 b1.length d1, .bool s2, .slice A2 a2.length c2, .slice D2 b2.length d2] [.bool false, .slice none 0 0, .slice none 0 0, .bool false, .slice none 0 0, .slice none 0 0] 26 26 6
  have LB4 := bal ((w.alloc (.cells #[.bool s1, .slice A1 a1.length c1, .slice D1 b1.length d1, .bool s2, .slice A2 a2.length c2, .slice D2 b2.length d2] 26)).alloc (.cells #[.bool false, .slice none 0 0, .slice none 0 0, .bool false, .slice none 0 0, .slice none 0 0] 26)) (.cells #[.bool s1, .slice A1 a1.length c1, .slice D1 b1.length d1, .bool s2, .slice A2 a2.length c2, .slice D2 b2.length d2] 26)
  have kk1 := kk0.nx LB4
  have SG := SB.new ((w.alloc (.cells #[.bool s1, .slice A1 a1.length c1, .slice D1 b1.length d1, .bool s2, .slice A2 a2.length c2, .slice D2 b2.length d2] 26)).alloc (.cells #[.bool false, .slice none 0 0, .slice none 0 0, .bool false, .slice none 0 0, .slice none 0 0] 26)) [.bool s1, .slice A1 a1.length c1, .slice D1 b1.length d1, .bool s2, .slice A2 a2.length c2, .slice D2 b2.length d2] 26
  have z3 : ((w.alloc (.cells #[.bool s1, .slice A1 a1.length c1, .slice D1 b1.length d1, .bool s2, .slice A2 a2.length c2, .slice D2 b2.length d2] 26)).alloc (.cells #[.bool false, .slice none 0 0, .slice none 0 0, .bool false, .slice none 0 0, .slice none 0 0] 26)).heap.size = w.heap.size + 2 := by simp
  rw [z3] at SG
  have hC := fun w' hg h1 h2 h3 h4 => bcheck1_any (w.heap.size + 2) s1 a1 b1 s2 a2 b2 A1 c1 D1 d1 A2 c2 D2 d2 w' hg h1 h2 h3 h4
  have BW := kk1.2.2
  obtain ⟨W, hW⟩ : ∃ W, W = ((w.alloc (.cells #[.bool s1, .slice A1 a1.length c1, .slice D1 b1.length d1, .bool s2, .slice A2 a2.length c2, .slice D2 b2.length d2] 26)).alloc (.cells #[.bool false, .slice none 0 0, .slice none 0 0, .bool false, .slice none 0 0, .slice none 0 0] 26)).alloc (.cells #[.bool s1, .slice A1 a1.length c1, .slice D1 b1.length d1, .bool s2, .slice A2 a2.length c2, .slice D2 b2.length d2] 26) := ⟨_, rfl⟩
  have i0 := kk0.1.cell 0
  have i1 := kk0.1.cell 1
  have i2 := kk0.1.cell 2
  have i3 := kk0.1.cell 3
  have i4 := kk0.1.cell 4
  have i5 := kk0.1.cell 5
  simp only [hk] at hC
  clear hk
  have t1 : ¬ u < 0 := h.1
  have t2 : e < u := h.2
  clear h
  go_enter Tryz.func8, Tryz.ntmps8
  go_wp2_with fail
  rw [← hW] at kk1 SG BW ⊢
  clear hW kk0 i0 i1 i2 i3 i4 i5
  refine (hC W SG (st p1 BW) (st p2 BW) (st p3 BW) (st p4 BW)).mono ?_; rintro e w5 ⟨rfl, B5⟩
  clear hC
  have kk5 := kk1.nx B5
  have hRC := kk5.2.1
  have BB := kk5.2.2
  go_wp2_with (refine wp_st6 rfl (.tmp 6) (.tmp 32) rfl _ rfl _ _ _ _ _ _ rfl hRC rfl rfl rfl rfl rfl rfl ?_)
  have s6 := hRC.put6 (.bool false) (.slice none 0 0) (.slice none 0 0) (.bool false) (.slice none 0 0) (.slice none 0 0)
  have B6 := wr6_below (b := w.heap.size + 1) BB (by omega) (.bool false) (.slice none 0 0) (.slice none 0 0) (.bool false) (.slice none 0 0) (.slice none 0 0)
  have r0' := s6.cell 0
  have r1' := s6.cell 1
  have r2' := s6.cell 2
  have r3' := s6.cell 3
  have r4' := s6.cell 4
  have r5' := s6.cell 5
  refine bodyPost_ret (v := .tuple #[.agg #[.bool false, .slice none 0 0, .slice none 0 0, .bool false, .slice none 0 0, .slice none 0 0], .int .i64 1]) (by simp [results, r0', r1', r2', r3', r4', r5', go_sem]) rfl ?_
  exact retNE_nil 1 B6


set_option maxRecDepth 100000 in
set_option maxHeartbeats 16000000 in
theorem bfield_far (s1 s2 : Bool) (a1 b1 a2 b2 : List Nat) (A1 D1 A2 D2 : Option Addr) (c1 d1 c2 d2 : Nat) (w : World) (p1 : RW w w.heap.size A1 c1 a1) (p2 : RW w w.heap.size D1 d1 b1) (p3 : RW w w.heap.size A2 c2 a2) (p4 : RW w w.heap.size D2 d2 b2) (u e : Int) (h : ¬ u < 0 ∧ ¬ e < u ∧ 16384 < e) (hk : bchkN1 ⟨s1, a1, b1⟩ ⟨s2, a2, b2⟩ = 0) :
    Calls Tryz.prog 8 #[.agg #[.bool s1, .slice A1 a1.length c1, .slice D1 b1.length d1, .bool s2, .slice A2 a2.length c2, .slice D2 b2.length d2], .int .i64 u, .int .i64 e] w (RetNE w (rw0, rw0, 1)) := by
  have kk0 := S2.new w [.bool s1, .slice A1 a1.length c1, .slice D1 b1.length d1, .bool s2, .slice A2 a2.length c2, .slice D2 b2.length d2] [.bool false, .slice none 0 0, .slice none 0 0, .bool false, .slice none 0 0, .slice none 0 0] 26 26 6
  have LB4 := bal ((w.alloc (.cells #[.bool s1, .slice A1 a1.length c1, .slice D1 b1.length d1, .bool s2, .slice A2 a2.length c2, .slice D2 b2.length d2] 26)).alloc (.cells #[.bool false, .slice none 0 0, .slice none 0 0, .bool false, .slice none 0 0, .slice none 0 0] 26)) (.cells #[.bool s1, .slice A1 a1.length c1, .slice D1 b1.length d1, .bool s2, .slice A2 a2.length c2, .slice D2 b2.length d2] 26)
  have kk1 := kk0.nx LB4
  have SG := SB.new ((w.alloc (.cells #[.bool s1, .slice A1 a1.length c1, .slice D1 b1.length d1, .bool s2, .slice A2 a2.length c2, .slice D2 b2.length d2] 26)).alloc (.cells #[.bool false, .slice none 0 0, .slice none 0 0, .bool false, .slice none 0 0, .slice none 0 0] 26)) [.bool s1, .slice A1 a1.length c1, .slice D1 b1.length d1, .bool s2, .slice A2 a2.length c2, .slice D2 b2.length d2] 26
  have z3 : ((w.alloc (.cells #[.bool s1, .slice A1 a1.length c1, .slice D1 b1.length d1, .bool s2, .slice A2 a2.length c2, .slice D2 b2.length d2] 26)).alloc (.cells #[.bool false, .slice none 0 0, .slice none 0 0, .bool false, .slice none 0 0, .slice none 0 0] 26)).heap.size = w.heap.size + 2 := by simp
  rw [z3] at SG
  have hC := fun w' hg h1 h2 h3 h4 => bcheck1_any (w.heap.size + 2) s1 a1 b1 s2 a2 b2 A1 c1 D1 d1 A2 c2 D2 d2 w' hg h1 h2 h3 h4
  have BW := kk1.2.2
  obtain ⟨W, hW⟩ : ∃ W, W = ((w.alloc (.cells #[.bool s1, .slice A1 a1.length c1, .slice D1 b1.length d1, .bool s2, .slice A2 a2.length c2, .slice D2 b2.length d2] 26)).alloc (.cells #[.bool false, .slice none 0 0, .slice none 0 0, .bool false, .slice none 0 0, .slice none 0 0] 26)).alloc (.cells #[.bool s1, .slice A1 a1.length c1, .slice D1 b1.length d1, .bool s2, .slice A2 a2.length c2, .slice D2 b2.length d2] 26) := ⟨_, rfl⟩
  have i0 := kk0.1.cell 0
  have i1 := kk0.1.cell 1
  have i2 := kk0.1.cell 2
  have i3 := kk0.1.cell 3
  have i4 := kk0.1.cell 4
  have i5 := kk0.1.cell 5
  simp only [hk] at hC
  clear hk
  have t1 : ¬ u < 0 := h.1
  have t2 : ¬ e < u := h.2.1
  have t3 : 16384 < e := h.2.2
  clear h
  go_enter Tryz.func8, Tryz.ntmps8
  go_wp2_with fail
  rw [← hW] at kk1 SG BW ⊢
  clear hW kk0 i0 i1 i2 i3 i4 i5
  refine (hC W SG (st p1 BW) (st p2 BW) (st p3 BW) (st p4 BW)).mono ?_; rintro e w5 ⟨rfl, B5⟩
  clear hC
  have kk5 := kk1.nx B5
  have hRC := kk5.2.1
  have BB := kk5.2.2
  go_wp2_with (refine wp_st6 rfl (.tmp 6) (.tmp 32) rfl _ rfl _ _ _ _ _ _ rfl hRC rfl rfl rfl rfl rfl rfl ?_)
  have s6 := hRC.put6 (.bool false) (.slice none 0 0) (.slice none 0 0) (.bool false) (.slice none 0 0) (.slice none 0 0)
  have B6 := wr6_below (b := w.heap.size + 1) BB (by omega) (.bool false) (.slice none 0 0) (.slice none 0 0) (.bool false) (.slice none 0 0) (.slice none 0 0)
  have r0' := s6.cell 0
  have r1' := s6.cell 1
  have r2' := s6.cell 2
  have r3' := s6.cell 3
  have r4' := s6.cell 4
  have r5' := s6.cell 5
  refine bodyPost_ret (v := .tuple #[.agg #[.bool false, .slice none 0 0, .slice none 0 0, .bool false, .slice none 0 0, .slice none 0 0], .int .i64 1]) (by simp [results, r0', r1', r2', r3', r4', r5', go_sem]) rfl ?_
  exact retNE_nil 1 B6


set_option maxRecDepth 100000 in
set_option maxHeartbeats 16000000 in
theorem bfield_ok (s1 s2 : Bool) (a1 b1 a2 b2 : List Nat) (A1 D1 A2 D2 : Option Addr) (c1 d1 c2 d2 : Nat) (w : World) (p1 : RW w w.heap.size A1 c1 a1) (p2 : RW w w.heap.size D1 d1 b1) (p3 : RW w w.heap.size A2 c2 a2) (p4 : RW w w.heap.size D2 d2 b2) (X : Int) (u e : Nat) (hue : u ≤ e) (he : e ≤ 16384) (hX : Hid ((⟨s1, a1, b1⟩ : Rw) = rwq ((X : Int) : Rat))) (lx : a1.length ≤ 512) (hk : bchkN1 ⟨s1, a1, b1⟩ ⟨s2, a2, b2⟩ = 0) :
    Calls Tryz.prog 8 #[.agg #[.bool s1, .slice A1 a1.length c1, .slice D1 b1.length d1, .bool s2, .slice A2 a2.length c2, .slice D2 b2.length d2], .int .i64 (u : Int), .int .i64 (e : Int)] w (RetNE w (fitQ ((fieldN X u (e - u) : Int) : Rat) 0)) := by
  have kk0 := S2.new w [.bool s1, .slice A1 a1.length c1, .slice D1 b1.length d1, .bool s2, .slice A2 a2.length c2, .slice D2 b2.length d2] [.bool false, .slice none 0 0, .slice none 0 0, .bool false, .slice none 0 0, .slice none 0 0] 26 26 6
  have LB4 := bal ((w.alloc (.cells #[.bool s1, .slice A1 a1.length c1, .slice D1 b1.length d1, .bool s2, .slice A2 a2.length c2, .slice D2 b2.length d2] 26)).alloc (.cells #[.bool false, .slice none 0 0, .slice none 0 0, .bool false, .slice none 0 0, .slice none 0 0] 26)) (.cells #[.bool s1, .slice A1 a1.length c1, .slice D1 b1.length d1, .bool s2, .slice A2 a2.length c2, .slice D2 b2.length d2] 26)
  have kk1 := kk0.nx LB4
  have SG := SB.new ((w.alloc (.cells #[.bool s1, .slice A1 a1.length c1, .slice D1 b1.length d1, .bool s2, .slice A2 a2.length c2, .slice D2 b2.length d2] 26)).alloc (.cells #[.bool false, .slice none 0 0, .slice none 0 0, .bool false, .slice none 0 0, .slice none 0 0] 26)) [.bool s1, .slice A1 a1.length c1, .slice D1 b1.length d1, .bool s2, .slice A2 a2.length c2, .slice D2 b2.length d2] 26
  have z3 : ((w.alloc (.cells #[.bool s1, .slice A1 a1.length c1, .slice D1 b1.length d1, .bool s2, .slice A2 a2.length c2, .slice D2 b2.length d2] 26)).alloc (.cells #[.bool false, .slice none 0 0, .slice none 0 0, .bool false, .slice none 0 0, .slice none 0 0] 26)).heap.size = w.heap.size + 2 := by simp
  rw [z3] at SG
  have hC := fun w' hg h1 h2 h3 h4 => bcheck1_any (w.heap.size + 2) s1 a1 b1 s2 a2 b2 A1 c1 D1 d1 A2 c2 D2 d2 w' hg h1 h2 h3 h4
  have BW := kk1.2.2
  obtain ⟨W, hW⟩ : ∃ W, W = ((w.alloc (.cells #[.bool s1, .slice A1 a1.length c1, .slice D1 b1.length d1, .bool s2, .slice A2 a2.length c2, .slice D2 b2.length d2] 26)).alloc (.cells #[.bool false, .slice none 0 0, .slice none 0 0, .bool false, .slice none 0 0, .slice none 0 0] 26)).alloc (.cells #[.bool s1, .slice A1 a1.length c1, .slice D1 b1.length d1, .bool s2, .slice A2 a2.length c2, .slice D2 b2.length d2] 26) := ⟨_, rfl⟩
  have i0 := kk0.1.cell 0
  have i1 := kk0.1.cell 1
  have i2 := kk0.1.cell 2
  have i3 := kk0.1.cell 3
  have i4 := kk0.1.cell 4
  have i5 := kk0.1.cell 5
  simp only [hk] at hC
  clear hk
  have hD := fun w' h => bdown_any X u (by omega) s1 s2 a1 b1 A1 D1 A2 D2 c1 d1 c2 d2 a2.length b2.length w' hX.out (by omega) h
  obtain ⟨Y, hY⟩ : ∃ Y : Int, Hid (X / ((2 ^ u : Nat) : Int) = Y) := ⟨_, rfl⟩
  rw [hY.out] at hD
  have hYl : (digs Y.natAbs).length ≤ 512 := by
    have h1 : Y.natAbs ≤ X.natAbs := by rw [← hY.out]; exact Int.natAbs_ediv_le_natAbs _ _
    have h2 := digs_mono h1
    have h3 : a1 = digs X.natAbs := congrArg Rw.a hX.out
    rw [← h3] at h2
    omega
  obtain ⟨n, hn⟩ : ∃ n, Hid (e - u = n) := ⟨_, rfl⟩
  have hn1 : n ≤ 16384 := by have := hn.out; omega
  have hsub : (e : Int) - (u : Int) = (n : Int) := by have := hn.out; omega
  have t1 : ¬ (u : Int) < 0 := by omega
  have t2 : ¬ (e : Int) < (u : Int) := by omega
  have t3 : ¬ (16384 : Int) < (e : Int) := by omega
  rw [hn.out]
  obtain ⟨q, hq⟩ : ∃ q, Hid (rwq ((Y : Int) : Rat) = q) := ⟨_, rfl⟩
  obtain ⟨z, hz⟩ : ∃ z, Hid (rwq 0 = z) := ⟨_, rfl⟩
  rw [hq.out, hz.out] at hD
  have hql : q.a.length ≤ 512 := by rw [← hq.out]; exact hYl
  obtain ⟨M, hM⟩ : ∃ M : Nat, Hid (max q.a.length (n / 32) = M) := ⟨_, rfl⟩
  have m1 : q.a.length ≤ M := by have := hM.out; omega
  have m2 : n / 32 ≤ M := by have := hM.out; omega
  have m3 : M ≤ 512 := by have := hM.out; omega
  have hmx : max (q.a.length : Int) ((n : Int) / 32) = (M : Int) := by have := hM.out; omega
  have hRX : ∀ V w', VN w' w'.heap.size V q z → Calls Tryz.prog 28 #[V, .int .i64 ((M : Int) + 2)] w' fun e w'' => ∃ g, e = .returned (.slice (some ⟨g, 0, none⟩) (M + 2) (M + 2)) ∧ OW w'' w'.heap.size (some ⟨g, 0, none⟩) (M + 2) (rowI (M + 2) Y) ∧ Below w'.heap.size w' w'' := fun V w' hv => by
    rw [← hq.out, ← hz.out] at hv
    exact row_any V Y (M + 2) w' hv (by have h1 := m1; rw [← hq.out] at h1; exact Nat.le_trans h1 (by omega)) (by omega) (by omega)
  go_enter Tryz.func8, Tryz.ntmps8
  go_wp2_with fail
  rw [← hW] at kk1 SG BW ⊢
  clear hW kk0 i0 i1 i2 i3 i4 i5
  refine (hC W SG (st p1 BW) (st p2 BW) (st p3 BW) (st p4 BW)).mono ?_; rintro e w5 ⟨rfl, B5⟩
  clear hC
  have kk5 := kk1.nx B5
  have i0 := kk5.1.cell 0
  have i1 := kk5.1.cell 1
  have i2 := kk5.1.cell 2
  have i3 := kk5.1.cell 3
  have i4 := kk5.1.cell 4
  have i5 := kk5.1.cell 5
  have BB := kk5.2.2
  go_wp2_with fail
  refine (hD w5 (st p1 BB)).mono ?_; rintro e6 w6 ⟨H1, h1, I1, i1_, H2, h2, I2, i2_, rfl, O1, O2, O3, O4, B6⟩
  dsimp only at O1 O2 O3 O4
  clear hD i0 i1 i2 i3 i4 i5
  have L7 := bal w6 (.cells #[.bool q.s, .slice H1 q.a.length h1, .slice I1 q.b.length i1_, .bool z.s, .slice H2 z.a.length h2, .slice I2 z.b.length i2_] 26)
  have Sx := SB.new w6 [.bool q.s, .slice H1 q.a.length h1, .slice I1 q.b.length i1_, .bool z.s, .slice H2 z.a.length h2, .slice I2 z.b.length i2_] 26
  have HX : VN (w6.alloc (.cells #[.bool q.s, .slice H1 q.a.length h1, .slice I1 q.b.length i1_, .bool z.s, .slice H2 z.a.length h2, .slice I2 z.b.length i2_] 26)) (w6.alloc (.cells #[.bool q.s, .slice H1 q.a.length h1, .slice I1 q.b.length i1_, .bool z.s, .slice H2 z.a.length h2, .slice I2 z.b.length i2_] 26)).heap.size (.agg #[.bool q.s, .slice H1 q.a.length h1, .slice I1 q.b.length i1_, .bool z.s, .slice H2 z.a.length h2, .slice I2 z.b.length i2_]) q z := ⟨H1, h1, I1, i1_, H2, h2, I2, i2_, rfl, st O1.rw L7, st O2.rw L7, st O3.rw L7, st O4.rw L7⟩
  have kk7 := (kk5.nx B6).nx L7
  obtain ⟨w7, hw7⟩ : ∃ w7, w7 = w6.alloc (.cells #[.bool q.s, .slice H1 q.a.length h1, .slice I1 q.b.length i1_, .bool z.s, .slice H2 z.a.length h2, .slice I2 z.b.length i2_] 26) := ⟨_, rfl⟩
  go_upto_region 7 with fail
  rw [← hw7] at Sx HX kk7 ⊢
  clear hw7 L7 O1 O2 O3 O4 B6 kk5
  have i0 := Sx.cell 0
  have i1 := Sx.cell 1
  have i2 := Sx.cell 2
  have i3 := Sx.cell 3
  have i4 := Sx.cell 4
  have i5 := Sx.cell 5
  go_wp2_with fail
  refine (hRX _ w7 HX).mono ?_; rintro e8 w8 ⟨g1, rfl, P1, B8⟩
  clear hRX i0 i1 i2 i3 i4 i5 hmx Sx
  have kk8 := kk7.nx B8
  have hw78 : w.heap.size + 1 < w7.heap.size := kk7.2.1.2
  have P1 := P1.base_le (B := w.heap.size + 2) (by omega)
  go_upto_region 9 with (at_make; refine wp_makeW _ rfl _ _ rfl .i64 .i64 _ _ (n / 32 + 2) rfl rfl (by omega) (by omega) (by omega) ?_; intro wm hOm hbm hsm)
  have hgm : g1 < w8.heap.size := P1.lt.2
  have P1 := P1.below hbm (Nat.le_refl _)
  have kk9 := kk8.nx hbm
  have hw8 : w.heap.size + 1 < w8.heap.size := kk8.2.1.2
  have P2 := hOm.base_le (B := w.heap.size + 2) (by omega)
  generalize hg2 : w8.heap.size = g2 at *
  clear hg2
  have hne : g1 ≠ g2 := by omega
  have RR := kk9.2.1
  have BB9 := kk9.2.2
  clear kk7 kk8 kk9 B8 hbm hOm hsm BB B5
  go_wp2_with fail
  go_loopg [60] n (fun gg iv wr => ∃ (k : Nat) (o : List Nat), k ≤ n ∧ n - k = gg ∧ iv = .int .i64 (k : Int) ∧ OW wr (w.heap.size + 2) (some ⟨g1, 0, none⟩) (M + 2) (rowI (M + 2) Y) ∧ OW wr (w.heap.size + 2) (some ⟨g2, 0, none⟩) (n / 32 + 2) o ∧
    Hid (o.length = n / 32 + 2 ∧ (∀ j, (val o).testBit j = (decide (j < k) && ib X (u + j)))) ∧ RC wr (w.heap.size + 1) 6 ∧ Below w.heap.size w wr)
  case atStart => exact ⟨0, _, Nat.zero_le _, rfl, rfl, P1, P2, Lib.hid ⟨by simp, fun j => bits_start _ j (fun j => ib X (u + j))⟩, RR, BB9⟩
  case round =>
    obtain ⟨k, o, hk, rfl, rfl, Q1, Q2, hI, RR2, BB2⟩ := hrel
    by_cases hk0 : k < n
    · obtain ⟨hol, hbits⟩ := hI.out
      have hk32 : k / 32 < o.length := by rw [hol]; omega
      have cx := Q2.cell (k := k / 32) hk32
      have fx := Q2.frozen (k / 32)
      have cy := Q1.cell (k := k / 32) (by rw [rowI_len]; omega)
      have hbY : (wd (rowI (M + 2) Y) (k / 32)).testBit (k % 32) = ib X (u + k) := by
        rw [rowI_bit, ← hY.out, ib_down, decide_eq_true (by omega), Bool.true_and]
      have hs32 : k % 32 < 32 := Nat.mod_lt _ (by omega)
      have hxl := wd_lt Q2.b32 (k / 32)
      have hyl := wd_lt Q1.b32 (k / 32)
      have hw1 : IntKind.i64.wrap ((k : Int) / 32) = (k : Int) / 32 := IntWalk.i64_in _ (by omega)
      have hw2 : IntKind.i64.wrap ((k : Int) % 32) = (k : Int) % 32 := IntWalk.i64_in _ (by omega)
      have hw3 : (0 : Int) ≤ (k : Int) / 32 := by omega
      have hw4 : (k : Int) / 32 < (n : Int) / 32 + 2 := by omega
      have hw5 : (k : Int) / 32 < (M : Int) + 2 := by omega
      have hw6 : ((k : Int) / 32).toNat = k / 32 := by omega
      have hw9 : (k : Int).tmod 32 = (k : Int) % 32 := Int.tmod_eq_emod_of_nonneg (by omega)
      have hw7 : (0 : Int) ≤ (k : Int) % 32 := by omega
      have hw8 : (k : Int) % 32 < 32 := by omega
      have hfw := field_word (x := wd o (k / 32)) (y := wd (rowI (M + 2) Y) (k / 32)) (s := k % 32) hxl hyl hs32
      rw [hbY] at hfw
      have hlt := or_bitk_lt hxl (ib X (u + k)) hs32
      have hset := Q2.set (k / 32) hlt
      have hst := bits_step (f := fun j => ib X (u + j)) Q2.b32 hk32 hbits
      have HI : Hid ((o.set (k / 32) (wd o (k / 32) ||| ((if ib X (u + k) then 1 else 0) * 2 ^ (k % 32)))).length = n / 32 + 2 ∧ (∀ j, (val (o.set (k / 32) (wd o (k / 32) ||| ((if ib X (u + k) then 1 else 0) * 2 ^ (k % 32))))).testBit j = (decide (j < k + 1) && ib X (u + j)))) := ⟨by rw [List.length_set]; exact hol, hst⟩
      have Q1' := Q1.far (p := ⟨g2, k / 32, none⟩) (fun g' hA => by cases hA; show g1 ≠ g2; omega) (.int .u32 ((wd o (k / 32) ||| ((if ib X (u + k) then 1 else 0) * 2 ^ (k % 32)) : Nat) : Int))
      have hg2 := Q2.lt.1
      have RR2' := (RR2.sb.far (p := ⟨g2, k / 32, none⟩) (by show w.heap.size + 1 ≠ g2; omega) (.int .u32 ((wd o (k / 32) ||| ((if ib X (u + k) then 1 else 0) * 2 ^ (k % 32)) : Nat) : Int))).rc (n := 6)
      have BB2' := BB2.setCell (p := ⟨g2, k / 32, none⟩) (by show w.heap.size ≤ g2; omega) (.int .u32 ((wd o (k / 32) ||| ((if ib X (u + k) then 1 else 0) * 2 ^ (k % 32)) : Nat) : Int))
      rw [← hfw] at hset Q1' RR2' BB2'
      clear hol hbits hst hfw hlt hbY
      go_wp2_with fail
      refine wp_region_still_tail 19 (by kernel_rfl) (by kernel_rfl) ?_
      simp only [List.take_succ_cons, List.take_zero, List.drop_succ_cons, List.drop_zero]
      repeat still_step
      try refine wpStill_nil ?_
      go_wp2_with fail
      go_roundg (n - (k + 1))
      case measure => omega
      case rel => exact ⟨k + 1, _, by omega, rfl, by go_num, Q1', hset, HI, RR2', bdN BB2' 1⟩
    · obtain rfl : k = n := by omega
      obtain ⟨hol, hbits⟩ := hI.out
      have hv := bits_end hbits
      have hN := bnum_any g2 (k / 32 + 2) o wr (w.heap.size + 2) Q2 (by omega) (by omega) (by have := RR2.2; omega)
      have hval : Hid (tcI (32 * o.length) (val o) = ((fieldN X u k : Nat) : Int)) := by
        show _ = _
        rw [hv, hol]
        unfold tcI
        rw [if_pos]
        exact Nat.lt_of_lt_of_le (fieldN_lt X u k) (Nat.pow_le_pow_right (by omega) (by omega))
      rw [hval.out, hol] at hN
      clear hol hI hval hk0 hv hbits
      obtain ⟨R, hR⟩ : ∃ R, Hid (fitQ ((fieldN X u k : Int) : Rat) 0 = R) := ⟨_, rfl⟩
      rw [hR.out] at hN
      obtain ⟨fr, fi, fk⟩ := R
      go_wp2_with fail
      refine hN.mono ?_; rintro e9 w9 ⟨H1, h1, I1, i1, H2, h2, I2, i2, rfl, O1, O2, O3, O4, B5⟩
      dsimp only at O1 O2 O3 O4
      have hRC := (RR2.sb.below B5 (by omega)).rc (n := 6)
      have BB5 := BB2.trans (B5.mono (by omega))
      go_wp2_with (refine wp_st6 rfl (.tmp 6) (.tmp 85) rfl _ rfl _ _ _ _ _ _ rfl hRC rfl rfl rfl rfl rfl rfl ?_)
      have s6 := hRC.put6 (.bool fr.s) (.slice H1 fr.a.length h1) (.slice I1 fr.b.length i1) (.bool fi.s) (.slice H2 fi.a.length h2) (.slice I2 fi.b.length i2)
      have B6 := wr6_below (b := w.heap.size + 1) BB5 (by omega) (.bool fr.s) (.slice H1 fr.a.length h1) (.slice I1 fr.b.length i1) (.bool fi.s) (.slice H2 fi.a.length h2) (.slice I2 fi.b.length i2)
      have Oa := O1.put6 (b := w.heap.size + 1) (by omega) (.bool fr.s) (.slice H1 fr.a.length h1) (.slice I1 fr.b.length i1) (.bool fi.s) (.slice H2 fi.a.length h2) (.slice I2 fi.b.length i2)
      have Ob := O2.put6 (b := w.heap.size + 1) (by omega) (.bool fr.s) (.slice H1 fr.a.length h1) (.slice I1 fr.b.length i1) (.bool fi.s) (.slice H2 fi.a.length h2) (.slice I2 fi.b.length i2)
      have Oc := O3.put6 (b := w.heap.size + 1) (by omega) (.bool fr.s) (.slice H1 fr.a.length h1) (.slice I1 fr.b.length i1) (.bool fi.s) (.slice H2 fi.a.length h2) (.slice I2 fi.b.length i2)
      have Od := O4.put6 (b := w.heap.size + 1) (by omega) (.bool fr.s) (.slice H1 fr.a.length h1) (.slice I1 fr.b.length i1) (.bool fi.s) (.slice H2 fi.a.length h2) (.slice I2 fi.b.length i2)
      have r0' := s6.cell 0
      have r1' := s6.cell 1
      have r2' := s6.cell 2
      have r3' := s6.cell 3
      have r4' := s6.cell 4
      have r5' := s6.cell 5
      refine bodyPost_ret (v := .tuple #[.agg #[.bool fr.s, .slice H1 fr.a.length h1, .slice I1 fr.b.length i1, .bool fi.s, .slice H2 fi.a.length h2, .slice I2 fi.b.length i2], .int .i64 fk]) (by simp [results, r0', r1', r2', r3', r4', r5', go_sem]) rfl ?_
      rw [hR.out]
      exact ⟨H1, h1, I1, i1, H2, h2, I2, i2, rfl, Oa.base_le (by omega), Ob.base_le (by omega), Oc.base_le (by omega), Od.base_le (by omega), B6⟩

end Go.Proofs.YtbgggepdlkbpoaaGreatDoor
namespace Go.Proofs.YtbgggepdlkbpoaaGreatDoor
open Go.RowKit

theorem bitN_bit (v k : Nat) : bitN v k = if v.testBit k then 1 else 0 := by
  unfold bitN
  rw [Nat.testBit_eq_decide_div_mod_eq]
  by_cases h : v / 2 ^ k % 2 = 1
  · simp [h]
  · have : v / 2 ^ k % 2 = 0 := by omega
    simp [this]
theorem field_wordr {x s : Nat} (hx : x < 4294967296) (b : Bool) (hs : s < 32) :
    bits BinOp.or IntKind.u32 (x : Int) (((if b then 1 else 0 : Nat) : Int) * 2 ^ s % 4294967296) = ((x ||| ((if b then 1 else 0) * 2 ^ s) : Nat) : Int) := by
  have h3 : 2 ^ s < 2 ^ 32 := Nat.pow_lt_pow_right (by omega) hs
  have h4 : (if b = true then 1 else 0) * 2 ^ s < 4294967296 := by split <;> omega
  have e4 : (((if b = true then 1 else 0 : Nat) : Int) * 2 ^ s % 4294967296) = (((if b then 1 else 0) * 2 ^ s : Nat) : Int) := by
    rw [show ((2 : Int) ^ s) = ((2 ^ s : Nat) : Int) by push_cast; rfl, ← Int.natCast_mul]
    omega
  rw [e4]
  exact u32_or_nat _ _ hx h4


/-- Field's answer -/
def qfieldA (r i : Rw) (u e : Int) : Rw × Rw × Int :=
  if bchkN1 r i = 0 then (if u < 0 ∨ e < u ∨ 16384 < e then (rw0, rw0, 1) else fitQ ((fieldN (iv r) u.toNat (e.toNat - u.toNat) : Int) : Rat) 0) else (rw0, rw0, bchkN1 r i)

theorem bfield_any (V : Value) (r i : Rw) (u e : Int) (w : World) (hV : VN w w.heap.size V r i) :
    Calls Tryz.prog 8 #[V, .int .i64 u, .int .i64 e] w (RetNE w (qfieldA r i u e)) := by
  obtain ⟨A1, c1, D1, d1, A2, c2, D2, d2, rfl, p1, p2, p3, p4⟩ := hV
  unfold qfieldA
  by_cases hk : bchkN1 r i = 0
  · rw [if_pos hk]
    obtain ⟨x1, x2, x3⟩ := wB_rw (bchk1_zero hk)
    by_cases h : u < 0 ∨ e < u ∨ 16384 < e
    · rw [if_pos h]
      by_cases h1 : u < 0
      · exact bfield_neg r.s i.s r.a r.b i.a i.b A1 D1 A2 D2 c1 d1 c2 d2 w p1 p2 p3 p4 u e h1 hk
      · by_cases h2 : e < u
        · exact bfield_back r.s i.s r.a r.b i.a i.b A1 D1 A2 D2 c1 d1 c2 d2 w p1 p2 p3 p4 u e ⟨h1, h2⟩ hk
        · exact bfield_far r.s i.s r.a r.b i.a i.b A1 D1 A2 D2 c1 d1 c2 d2 w p1 p2 p3 p4 u e ⟨h1, h2, by omega⟩ hk
    · rw [if_neg h]
      obtain ⟨u', rfl⟩ : ∃ u' : Nat, u = (u' : Int) := ⟨u.toNat, by omega⟩
      obtain ⟨e', rfl⟩ : ∃ e' : Nat, e = (e' : Int) := ⟨e.toNat, by omega⟩
      exact bfield_ok r.s i.s r.a r.b i.a i.b A1 D1 A2 D2 c1 d1 c2 d2 w p1 p2 p3 p4 (iv r) u' e' (by omega) (by omega) (Lib.hid x1) x3 hk
  · rw [if_neg hk]
    exact bfield_bad r.s i.s r.a r.b i.a i.b A1 D1 A2 D2 c1 d1 c2 d2 w p1 p2 p3 p4 u e _ rfl (beq_eq_false_iff_ne.2 hk)

end Go.Proofs.YtbgggepdlkbpoaaGreatDoor
namespace Go.Proofs.YtbgggepdlkbpoaaGreatDoor
open Go.RowKit

def USome (P : Program) (md : Region.Mode) (ops : Array Oper) (Q : Exit → Act → World → Prop) (S : World → Prop) (n f : Nat) (l : Array Bool) (a : Act) (w : World) (i : Nat) : Prop :=
  wpOp P ops Q i (fun a' w' => (i = n ∨ S w') ∧ AnyU P md ops Q S n f (l.setIfInBounds i true) a' w') a w
section
variable {P : Program} {md : Region.Mode} {ops : Array Oper} {Q : Exit → Act → World → Prop} {S : World → Prop} {n f : Nat} {l : Array Bool} {a : Act} {w : World} {i j m : Nat}
theorem USome.mk {o : Oper} (ho : ops[i]? = some o)
    (h : ∀ K : Act → World → Prop, Shut (∀ a w, (i = n ∨ S w) → ((i = n ∨ S w) → AnyU P md ops Q S n f (l.setIfInBounds i true) a w) → K a w) → if Region.wanted o (yielded ops a.tmps) = true then Oper.wp P o a w K Q else K (a.put o.dst undef) w) : USome P md ops Q S n f l a w i :=
  wpOp_step ho (fun K hK => h K (fun a w hS hW => hK a w ⟨hS, hW hS⟩))
theorem AnyU.two (hr : Region.ready md ops l = [i, j]) (h1 : USome P md ops Q S n f l a w i) (h2 : USome P md ops Q S n f l a w j) : AnyU P md ops Q S n (f + 1) l a w :=
  ⟨fun h0 => (by rw [h0] at hr; cases hr), fun k hk => by
    rw [hr] at hk
    simp only [List.mem_cons, List.not_mem_nil, or_false] at hk
    rcases hk with rfl | rfl
    · exact h1
    · exact h2⟩
theorem AnyU.three (hr : Region.ready md ops l = [i, j, m]) (h1 : USome P md ops Q S n f l a w i) (h2 : USome P md ops Q S n f l a w j) (h3 : USome P md ops Q S n f l a w m) : AnyU P md ops Q S n (f + 1) l a w :=
  ⟨fun h0 => (by rw [h0] at hr; cases hr), fun k hk => by
    rw [hr] at hk
    simp only [List.mem_cons, List.not_mem_nil, or_false] at hk
    rcases hk with rfl | rfl | rfl
    · exact h1
    · exact h2
    · exact h3⟩
end
end Go.Proofs.YtbgggepdlkbpoaaGreatDoor
