/- Merged texts: AnyT, BiU, BiV, BiW. -/
import Derived.Test.YtnlgoedklmjhlaaGM
namespace Go.Proofs.Ytnlgoedklmjhlaa
open Go.RowKit

def USome (P : Program) (md : Region.Mode) (ops : Array Oper) (Q : Exit → Act → World → Prop) (S : World → Prop) (n f : Nat) (l : Array Bool) (a : Act) (w : World) (i : Nat) : Prop :=
  wpOp P ops Q i (fun a' w' => (i = n ∨ S w') ∧ AnyU P md ops Q S n f (l.setIfInBounds i true) a' w') a w
section
variable {P : Program} {md : Region.Mode} {ops : Array Oper} {Q : Exit → Act → World → Prop} {S : World → Prop} {n f : Nat} {l : Array Bool} {a : Act} {w : World} {i j m : Nat}
theorem USome.mk {o : Oper} (ho : ops[i]? = some o)
    (h : ∀ K : Act → World → Prop, Shut (∀ a w, (i = n ∨ S w) → ((i = n ∨ S w) → AnyU P md ops Q S n f (l.setIfInBounds i true) a w) → K a w) → if Region.wanted o (yielded ops a.tmps) = true then Oper.wp P o a w K Q else K (a.put o.dst undef) w) : USome P md ops Q S n f l a w i :=
  wpOp_step ho (fun K hK => h K (fun a w hS hW => hK a w ⟨hS, hW hS⟩))
theorem AnyU.two (hr : Region.ready md ops l = [i, j]) (h1 : USome P md ops Q S n f l a w i) (h2 : USome P md ops Q S n f l a w j) : AnyU P md ops Q S n (f + 1) l a w :=
  ⟨fun h0 => (by rw [h0] at hr; cases hr), fun k hk => by
    rw [hr] at hk
    simp only [List.mem_cons, List.not_mem_nil, or_false] at hk
    rcases hk with rfl | rfl
    · exact h1
    · exact h2⟩
theorem AnyU.three (hr : Region.ready md ops l = [i, j, m]) (h1 : USome P md ops Q S n f l a w i) (h2 : USome P md ops Q S n f l a w j) (h3 : USome P md ops Q S n f l a w m) : AnyU P md ops Q S n (f + 1) l a w :=
  ⟨fun h0 => (by rw [h0] at hr; cases hr), fun k hk => by
    rw [hr] at hk
    simp only [List.mem_cons, List.not_mem_nil, or_false] at hk
    rcases hk with rfl | rfl | rfl
    · exact h1
    · exact h2
    · exact h3⟩
end
end Go.Proofs.Ytnlgoedklmjhlaa
namespace Go.Proofs.Ytnlgoedklmjhlaa
open Go.RowKit

/-- a number's row, shifted up -/
theorem shift_row {s1 : Bool} {v n : Nat} {X : Int} (h : X = sgn s1 v) (L : Nat) (hL : (digs (v * 2 ^ n)).length ≤ L) :
    (if s1 = true then wordsN L ((Wp L - val (digs (v * 2 ^ n) ++ List.replicate (L - (digs (v * 2 ^ n)).length) 0)) % Wp L) else digs (v * 2 ^ n) ++ List.replicate (L - (digs (v * 2 ^ n)).length) 0) = rowI L (X * ((2 ^ n : Nat) : Int)) := by
  rw [row_pos hL, h]
  cases s1 with
  | true => rw [if_pos rfl, turn_row, sgn_true, Int.neg_mul, Int.natCast_mul]
  | false => rw [if_neg (by simp), sgn_false, Int.natCast_mul]
theorem digs_pow {n L : Nat} (h : n < 32 * L) : (digs (2 ^ n)).length ≤ L := digs_len_le.2 (by rw [Wp_eq]; exact Nat.pow_lt_pow_right (by omega) h)
theorem S2.put6g {w w1 : World} {b g n : Nat} {l1 : List Value} (h : S2 w b l1 n w1) (hg : b + 1 < g) (x y z x' y' z' : Value) : S2 w b l1 n (Go.Proofs.Ytnlgoedklmjhlaa.wr6 w1 g x y z x' y' z') :=
  ⟨h.1.wr6 (by omega) x y z x' y' z', (h.2.1.sb.wr6 (by omega) x y z x' y' z').rc (by simp), wr6_below h.2.2 (by omega) x y z x' y' z'⟩
theorem SB.put6x {w : World} {g : Nat} {a b c d e f : Value} (h : SB w g [a, b, c, d, e, f]) (x y z x' y' z' : Value) : SB (Go.Proofs.Ytnlgoedklmjhlaa.wr6 w g x y z x' y' z') g [x, y, z, x', y', z'] := (h.rc (n := 6)).put6 x y z x' y' z'
theorem num_row {L : Nat} {Z : Int} (h : (digs Z.natAbs).length < L) : tcI (32 * (rowI L Z).length) (val (rowI L Z)) = Z := by
  obtain ⟨h1, h2⟩ := fits_row h
  rw [rowI_len, rowI_val, tcI_low (by omega) h1 h2]


set_option maxRecDepth 100000 in
set_option maxHeartbeats 16000000 in
theorem bshift_bad (s1 s2 : Bool) (a1 b1 a2 b2 : List Nat) (A1 D1 A2 D2 : Option Addr) (c1 d1 c2 d2 : Nat) (w : World) (p1 : RW w w.heap.size A1 c1 a1) (p2 : RW w w.heap.size D1 d1 b1) (p3 : RW w w.heap.size A2 c2 a2) (p4 : RW w w.heap.size D2 d2 b2) (n : Int) (k : Int) (hk : bchkN1 ⟨s1, a1, b1⟩ ⟨s2, a2, b2⟩ = k) (hk0 : (k == 0) = false) :
    Calls Try.prog 18 #[.agg #[.bool s1, .slice A1 a1.length c1, .slice D1 b1.length d1, .bool s2, .slice A2 a2.length c2, .slice D2 b2.length d2], .int .i64 n] w (RetNE w (rw0, rw0, k)) := by
  have kk0 := S2.new w [.bool s1, .slice A1 a1.length c1, .slice D1 b1.length d1, .bool s2, .slice A2 a2.length c2, .slice D2 b2.length d2] [.bool false, .slice none 0 0, .slice none 0 0, .bool false, .slice none 0 0, .slice none 0 0] 26 26 6
  have LB4 := bal ((w.alloc (.cells #[.bool s1, .slice A1 a1.length c1, .slice D1 b1.length d1, .bool s2, .slice A2 a2.length c2, .slice D2 b2.length d2] 26)).alloc (.cells #[.bool false, .slice none 0 0, .slice none 0 0, .bool false, .slice none 0 0, .slice none 0 0] 26)) (.cells #[.bool s1, .slice A1 a1.length c1, .slice D1 b1.length d1, .bool s2, .slice A2 a2.length c2, .slice D2 b2.length d2] 26)
  have kk1 := kk0.nx LB4
  have SG := SB.new ((w.alloc (.cells #[.bool s1, .slice A1 a1.length c1, .slice D1 b1.length d1, .bool s2, .slice A2 a2.length c2, .slice D2 b2.length d2] 26)).alloc (.cells #[.bool false, .slice none 0 0, .slice none 0 0, .bool false, .slice none 0 0, .slice none 0 0] 26)) [.bool s1, .slice A1 a1.length c1, .slice D1 b1.length d1, .bool s2, .slice A2 a2.length c2, .slice D2 b2.length d2] 26
  have z3 : ((w.alloc (.cells #[.bool s1, .slice A1 a1.length c1, .slice D1 b1.length d1, .bool s2, .slice A2 a2.length c2, .slice D2 b2.length d2] 26)).alloc (.cells #[.bool false, .slice none 0 0, .slice none 0 0, .bool false, .slice none 0 0, .slice none 0 0] 26)).heap.size = w.heap.size + 2 := by simp
  rw [z3] at SG
  have hC := fun w' hg h1 h2 h3 h4 => bcheck1_any (w.heap.size + 2) s1 a1 b1 s2 a2 b2 A1 c1 D1 d1 A2 c2 D2 d2 w' hg h1 h2 h3 h4
  have BW := kk1.2.2
  obtain ⟨W, hW⟩ : ∃ W, W = ((w.alloc (.cells #[.bool s1, .slice A1 a1.length c1, .slice D1 b1.length d1, .bool s2, .slice A2 a2.length c2, .slice D2 b2.length d2] 26)).alloc (.cells #[.bool false, .slice none 0 0, .slice none 0 0, .bool false, .slice none 0 0, .slice none 0 0] 26)).alloc (.cells #[.bool s1, .slice A1 a1.length c1, .slice D1 b1.length d1, .bool s2, .slice A2 a2.length c2, .slice D2 b2.length d2] 26) := ⟨_, rfl⟩
  have i0 := kk0.1.cell 0
  have i1 := kk0.1.cell 1
  have i2 := kk0.1.cell 2
  have i3 := kk0.1.cell 3
  have i4 := kk0.1.cell 4
  have i5 := kk0.1.cell 5
  simp only [hk] at hC
  have Hk := Lib.hid hk
  clear hk
  have n0 : (k != 0) = true := by simp [bne, hk0]
  go_enter Try.func18, Try.ntmps18
  go_wp2_with fail
  rw [← hW] at kk1 SG BW ⊢
  clear hW kk0 i0 i1 i2 i3 i4 i5
  refine (hC W SG (st p1 BW) (st p2 BW) (st p3 BW) (st p4 BW)).mono ?_; rintro e w5 ⟨rfl, B5⟩
  clear hC
  have kk5 := kk1.nx B5
  have BB := kk5.2.2
  have hRC := kk5.2.1
  go_wp2_with (refine wp_st6 rfl (.tmp 4) (.tmp 13) rfl _ rfl _ _ _ _ _ _ rfl hRC rfl rfl rfl rfl rfl rfl ?_)
  have s6 := hRC.put6 (.bool false) (.slice none 0 0) (.slice none 0 0) (.bool false) (.slice none 0 0) (.slice none 0 0)
  have B6 := wr6_below (b := w.heap.size + 1) BB (by omega) (.bool false) (.slice none 0 0) (.slice none 0 0) (.bool false) (.slice none 0 0) (.slice none 0 0)
  have r0' := s6.cell 0
  have r1' := s6.cell 1
  have r2' := s6.cell 2
  have r3' := s6.cell 3
  have r4' := s6.cell 4
  have r5' := s6.cell 5
  refine bodyPost_ret (v := .tuple #[.agg #[.bool false, .slice none 0 0, .slice none 0 0, .bool false, .slice none 0 0, .slice none 0 0], .int .i64 k]) (by simp [results, r0', r1', r2', r3', r4', r5', go_sem]) rfl ?_
  exact retNE_nil k B6


set_option maxRecDepth 100000 in
set_option maxHeartbeats 16000000 in
theorem bshift_neg (s1 s2 : Bool) (a1 b1 a2 b2 : List Nat) (A1 D1 A2 D2 : Option Addr) (c1 d1 c2 d2 : Nat) (w : World) (p1 : RW w w.heap.size A1 c1 a1) (p2 : RW w w.heap.size D1 d1 b1) (p3 : RW w w.heap.size A2 c2 a2) (p4 : RW w w.heap.size D2 d2 b2) (n : Int) (h : n < -16384) (hk : bchkN1 ⟨s1, a1, b1⟩ ⟨s2, a2, b2⟩ = 0) :
    Calls Try.prog 18 #[.agg #[.bool s1, .slice A1 a1.length c1, .slice D1 b1.length d1, .bool s2, .slice A2 a2.length c2, .slice D2 b2.length d2], .int .i64 n] w (RetNE w (rw0, rw0, 1)) := by
  have kk0 := S2.new w [.bool s1, .slice A1 a1.length c1, .slice D1 b1.length d1, .bool s2, .slice A2 a2.length c2, .slice D2 b2.length d2] [.bool false, .slice none 0 0, .slice none 0 0, .bool false, .slice none 0 0, .slice none 0 0] 26 26 6
  have LB4 := bal ((w.alloc (.cells #[.bool s1, .slice A1 a1.length c1, .slice D1 b1.length d1, .bool s2, .slice A2 a2.length c2, .slice D2 b2.length d2] 26)).alloc (.cells #[.bool false, .slice none 0 0, .slice none 0 0, .bool false, .slice none 0 0, .slice none 0 0] 26)) (.cells #[.bool s1, .slice A1 a1.length c1, .slice D1 b1.length d1, .bool s2, .slice A2 a2.length c2, .slice D2 b2.length d2] 26)
  have kk1 := kk0.nx LB4
  have SG := SB.new ((w.alloc (.cells #[.bool s1, .slice A1 a1.length c1, .slice D1 b1.length d1, .bool s2, .slice A2 a2.length c2, .slice D2 b2.length d2] 26)).alloc (.cells #[.bool false, .slice none 0 0, .slice none 0 0, .bool false, .slice none 0 0, .slice none 0 0] 26)) [.bool s1, .slice A1 a1.length c1, .slice D1 b1.length d1, .bool s2, .slice A2 a2.length c2, .slice D2 b2.length d2] 26
  have z3 : ((w.alloc (.cells #[.bool s1, .slice A1 a1.length c1, .slice D1 b1.length d1, .bool s2, .slice A2 a2.length c2, .slice D2 b2.length d2] 26)).alloc (.cells #[.bool false, .slice none 0 0, .slice none 0 0, .bool false, .slice none 0 0, .slice none 0 0] 26)).heap.size = w.heap.size + 2 := by simp
  rw [z3] at SG
  have hC := fun w' hg h1 h2 h3 h4 => bcheck1_any (w.heap.size + 2) s1 a1 b1 s2 a2 b2 A1 c1 D1 d1 A2 c2 D2 d2 w' hg h1 h2 h3 h4
  have BW := kk1.2.2
  obtain ⟨W, hW⟩ : ∃ W, W = ((w.alloc (.cells #[.bool s1, .slice A1 a1.length c1, .slice D1 b1.length d1, .bool s2, .slice A2 a2.length c2, .slice D2 b2.length d2] 26)).alloc (.cells #[.bool false, .slice none 0 0, .slice none 0 0, .bool false, .slice none 0 0, .slice none 0 0] 26)).alloc (.cells #[.bool s1, .slice A1 a1.length c1, .slice D1 b1.length d1, .bool s2, .slice A2 a2.length c2, .slice D2 b2.length d2] 26) := ⟨_, rfl⟩
  have i0 := kk0.1.cell 0
  have i1 := kk0.1.cell 1
  have i2 := kk0.1.cell 2
  have i3 := kk0.1.cell 3
  have i4 := kk0.1.cell 4
  have i5 := kk0.1.cell 5
  simp only [hk] at hC
  clear hk
  have t1 : n < -16384 := h
  clear h
  go_enter Try.func18, Try.ntmps18
  go_wp2_with fail
  rw [← hW] at kk1 SG BW ⊢
  clear hW kk0 i0 i1 i2 i3 i4 i5
  refine (hC W SG (st p1 BW) (st p2 BW) (st p3 BW) (st p4 BW)).mono ?_; rintro e w5 ⟨rfl, B5⟩
  clear hC
  have kk5 := kk1.nx B5
  have BB := kk5.2.2
  have hRC := kk5.2.1
  go_wp2_with (refine wp_st6 rfl (.tmp 4) (.tmp 22) rfl _ rfl _ _ _ _ _ _ rfl hRC rfl rfl rfl rfl rfl rfl ?_)
  have s6 := hRC.put6 (.bool false) (.slice none 0 0) (.slice none 0 0) (.bool false) (.slice none 0 0) (.slice none 0 0)
  have B6 := wr6_below (b := w.heap.size + 1) BB (by omega) (.bool false) (.slice none 0 0) (.slice none 0 0) (.bool false) (.slice none 0 0) (.slice none 0 0)
  have r0' := s6.cell 0
  have r1' := s6.cell 1
  have r2' := s6.cell 2
  have r3' := s6.cell 3
  have r4' := s6.cell 4
  have r5' := s6.cell 5
  refine bodyPost_ret (v := .tuple #[.agg #[.bool false, .slice none 0 0, .slice none 0 0, .bool false, .slice none 0 0, .slice none 0 0], .int .i64 1]) (by simp [results, r0', r1', r2', r3', r4', r5', go_sem]) rfl ?_
  exact retNE_nil 1 B6


set_option maxRecDepth 100000 in
set_option maxHeartbeats 16000000 in
theorem bshift_far (s1 s2 : Bool) (a1 b1 a2 b2 : List Nat) (A1 D1 A2 D2 : Option Addr) (c1 d1 c2 d2 : Nat) (w : World) (p1 : RW w w.heap.size A1 c1 a1) (p2 : RW w w.heap.size D1 d1 b1) (p3 : RW w w.heap.size A2 c2 a2) (p4 : RW w w.heap.size D2 d2 b2) (n : Int) (h : ¬ n < -16384 ∧ 16384 < n) (hk : bchkN1 ⟨s1, a1, b1⟩ ⟨s2, a2, b2⟩ = 0) :
    Calls Try.prog 18 #[.agg #[.bool s1, .slice A1 a1.length c1, .slice D1 b1.length d1, .bool s2, .slice A2 a2.length c2, .slice D2 b2.length d2], .int .i64 n] w (RetNE w (rw0, rw0, 1)) := by
  have kk0 := S2.new w [.bool s1, .slice A1 a1.length c1, .slice D1 b1.length d1, .bool s2, .slice A2 a2.length c2, .slice D2 b2.length d2] [.bool false, .slice none 0 0, .slice none 0 0, .bool false, .slice none 0 0, .slice none 0 0] 26 26 6
  have LB4 := bal ((w.alloc (.cells #[.bool s1, .slice A1 a1.length c1, .slice D1 b1.length d1, .bool s2, .slice A2 a2.length c2, .slice D2 b2.length d2] 26)).alloc (.cells #[.bool false, .slice none 0 0, .slice none 0 0, .bool false, .slice none 0 0, .slice none 0 0] 26)) (.cells #[.bool s1, .slice A1 a1.length c1, .slice D1 b1.length d1, .bool s2, .slice A2 a2.length c2, .slice D2 b2.length d2] 26)
  have kk1 := kk0.nx LB4
  have SG := SB.new ((w.alloc (.cells #[.bool s1, .slice A1 a1.length c1, .slice D1 b1.length d1, .bool s2, .slice A2 a2.length c2, .slice D2 b2.length d2] 26)).alloc (.cells #[.bool false, .slice none 0 0, .slice none 0 0, .bool false, .slice none 0 0, .slice none 0 0] 26)) [.bool s1, .slice A1 a1.length c1, .slice D1 b1.length d1, .bool s2, .slice A2 a2.length c2, .slice D2 b2.length d2] 26
  have z3 : ((w.alloc (.cells #[.bool s1, .slice A1 a1.length c1, .slice D1 b1.length d1, .bool s2, .slice A2 a2.length c2, .slice D2 b2.length d2] 26)).alloc (.cells #[.bool false, .slice none 0 0, .slice none 0 0, .bool false, .slice none 0 0, .slice none 0 0] 26)).heap.size = w.heap.size + 2 := by simp
  rw [z3] at SG
  have hC := fun w' hg h1 h2 h3 h4 => bcheck1_any (w.heap.size + 2) s1 a1 b1 s2 a2 b2 A1 c1 D1 d1 A2 c2 D2 d2 w' hg h1 h2 h3 h4
  have BW := kk1.2.2
  obtain ⟨W, hW⟩ : ∃ W, W = ((w.alloc (.cells #[.bool s1, .slice A1 a1.length c1, .slice D1 b1.length d1, .bool s2, .slice A2 a2.length c2, .slice D2 b2.length d2] 26)).alloc (.cells #[.bool false, .slice none 0 0, .slice none 0 0, .bool false, .slice none 0 0, .slice none 0 0] 26)).alloc (.cells #[.bool s1, .slice A1 a1.length c1, .slice D1 b1.length d1, .bool s2, .slice A2 a2.length c2, .slice D2 b2.length d2] 26) := ⟨_, rfl⟩
  have i0 := kk0.1.cell 0
  have i1 := kk0.1.cell 1
  have i2 := kk0.1.cell 2
  have i3 := kk0.1.cell 3
  have i4 := kk0.1.cell 4
  have i5 := kk0.1.cell 5
  simp only [hk] at hC
  clear hk
  have t1 : ¬ n < -16384 := h.1
  have t2 : 16384 < n := h.2
  clear h
  go_enter Try.func18, Try.ntmps18
  go_wp2_with fail
  rw [← hW] at kk1 SG BW ⊢
  clear hW kk0 i0 i1 i2 i3 i4 i5
  refine (hC W SG (st p1 BW) (st p2 BW) (st p3 BW) (st p4 BW)).mono ?_; rintro e w5 ⟨rfl, B5⟩
  clear hC
  have kk5 := kk1.nx B5
  have BB := kk5.2.2
  have hRC := kk5.2.1
  go_wp2_with (refine wp_st6 rfl (.tmp 4) (.tmp 22) rfl _ rfl _ _ _ _ _ _ rfl hRC rfl rfl rfl rfl rfl rfl ?_)
  have s6 := hRC.put6 (.bool false) (.slice none 0 0) (.slice none 0 0) (.bool false) (.slice none 0 0) (.slice none 0 0)
  have B6 := wr6_below (b := w.heap.size + 1) BB (by omega) (.bool false) (.slice none 0 0) (.slice none 0 0) (.bool false) (.slice none 0 0) (.slice none 0 0)
  have r0' := s6.cell 0
  have r1' := s6.cell 1
  have r2' := s6.cell 2
  have r3' := s6.cell 3
  have r4' := s6.cell 4
  have r5' := s6.cell 5
  refine bodyPost_ret (v := .tuple #[.agg #[.bool false, .slice none 0 0, .slice none 0 0, .bool false, .slice none 0 0, .slice none 0 0], .int .i64 1]) (by simp [results, r0', r1', r2', r3', r4', r5', go_sem]) rfl ?_
  exact retNE_nil 1 B6


set_option maxRecDepth 100000 in
set_option maxHeartbeats 16000000 in
theorem bshift_down (s1 s2 : Bool) (a1 b1 a2 b2 : List Nat) (A1 D1 A2 D2 : Option Addr) (c1 d1 c2 d2 : Nat) (w : World) (p1 : RW w w.heap.size A1 c1 a1) (p2 : RW w w.heap.size D1 d1 b1) (p3 : RW w w.heap.size A2 c2 a2) (p4 : RW w w.heap.size D2 d2 b2) (X : Int) (n : Int) (m : Nat) (hnm : -n = (m : Int)) (hm0 : 0 < m) (hm : m ≤ 16384) (hX : Hid ((⟨s1, a1, b1⟩ : Rw) = rwq ((X : Int) : Rat))) (lx : a1.length ≤ 512) (hk : bchkN1 ⟨s1, a1, b1⟩ ⟨s2, a2, b2⟩ = 0) :
    Calls Try.prog 18 #[.agg #[.bool s1, .slice A1 a1.length c1, .slice D1 b1.length d1, .bool s2, .slice A2 a2.length c2, .slice D2 b2.length d2], .int .i64 n] w (RetNE w (fitQ (((X / ((2 ^ m : Nat) : Int) : Int)) : Rat) 0)) := by
  have kk0 := S2.new w [.bool s1, .slice A1 a1.length c1, .slice D1 b1.length d1, .bool s2, .slice A2 a2.length c2, .slice D2 b2.length d2] [.bool false, .slice none 0 0, .slice none 0 0, .bool false, .slice none 0 0, .slice none 0 0] 26 26 6
  have LB4 := bal ((w.alloc (.cells #[.bool s1, .slice A1 a1.length c1, .slice D1 b1.length d1, .bool s2, .slice A2 a2.length c2, .slice D2 b2.length d2] 26)).alloc (.cells #[.bool false, .slice none 0 0, .slice none 0 0, .bool false, .slice none 0 0, .slice none 0 0] 26)) (.cells #[.bool s1, .slice A1 a1.length c1, .slice D1 b1.length d1, .bool s2, .slice A2 a2.length c2, .slice D2 b2.length d2] 26)
  have kk1 := kk0.nx LB4
  have SG := SB.new ((w.alloc (.cells #[.bool s1, .slice A1 a1.length c1, .slice D1 b1.length d1, .bool s2, .slice A2 a2.length c2, .slice D2 b2.length d2] 26)).alloc (.cells #[.bool false, .slice none 0 0, .slice none 0 0, .bool false, .slice none 0 0, .slice none 0 0] 26)) [.bool s1, .slice A1 a1.length c1, .slice D1 b1.length d1, .bool s2, .slice A2 a2.length c2, .slice D2 b2.length d2] 26
  have z3 : ((w.alloc (.cells #[.bool s1, .slice A1 a1.length c1, .slice D1 b1.length d1, .bool s2, .slice A2 a2.length c2, .slice D2 b2.length d2] 26)).alloc (.cells #[.bool false, .slice none 0 0, .slice none 0 0, .bool false, .slice none 0 0, .slice none 0 0] 26)).heap.size = w.heap.size + 2 := by simp
  rw [z3] at SG
  have hC := fun w' hg h1 h2 h3 h4 => bcheck1_any (w.heap.size + 2) s1 a1 b1 s2 a2 b2 A1 c1 D1 d1 A2 c2 D2 d2 w' hg h1 h2 h3 h4
  have BW := kk1.2.2
  obtain ⟨W, hW⟩ : ∃ W, W = ((w.alloc (.cells #[.bool s1, .slice A1 a1.length c1, .slice D1 b1.length d1, .bool s2, .slice A2 a2.length c2, .slice D2 b2.length d2] 26)).alloc (.cells #[.bool false, .slice none 0 0, .slice none 0 0, .bool false, .slice none 0 0, .slice none 0 0] 26)).alloc (.cells #[.bool s1, .slice A1 a1.length c1, .slice D1 b1.length d1, .bool s2, .slice A2 a2.length c2, .slice D2 b2.length d2] 26) := ⟨_, rfl⟩
  have i0 := kk0.1.cell 0
  have i1 := kk0.1.cell 1
  have i2 := kk0.1.cell 2
  have i3 := kk0.1.cell 3
  have i4 := kk0.1.cell 4
  have i5 := kk0.1.cell 5
  simp only [hk] at hC
  clear hk
  have hD := fun w' h => bdown_any X m (by omega) s1 s2 a1 b1 A1 D1 A2 D2 c1 d1 c2 d2 a2.length b2.length w' hX.out (by omega) h
  have hYl : qw (((X / ((2 ^ m : Nat) : Int) : Int)) : Rat) ≤ 512 := by
    have h1 : (X / ((2 ^ m : Nat) : Int)).natAbs ≤ X.natAbs := Int.natAbs_ediv_le_natAbs _ _
    have h2 := digs_mono h1
    have h3 : a1 = digs X.natAbs := congrArg Rw.a hX.out
    rw [← h3] at h2
    unfold qw
    rw [qd_int, digs_one1, qt_int]
    exact Nat.max_le.2 ⟨by omega, by simp⟩
  have hF := fitQ_ok hYl (by rw [qw_zero]; omega : qw 0 ≤ 512)
  obtain ⟨R, hR⟩ : ∃ R, Hid (fitQ (((X / ((2 ^ m : Nat) : Int) : Int)) : Rat) 0 = R) := ⟨_, rfl⟩
  rw [← hF, hR.out] at hD
  clear hF hYl
  obtain ⟨fr, fi, fk⟩ := R
  have t1 : ¬ n < -16384 := by omega
  have t2 : ¬ 16384 < n := by omega
  have t3 : ¬ 0 ≤ n := by omega
  go_enter Try.func18, Try.ntmps18
  go_wp2_with fail
  rw [← hW] at kk1 SG BW ⊢
  clear hW kk0 i0 i1 i2 i3 i4 i5
  refine (hC W SG (st p1 BW) (st p2 BW) (st p3 BW) (st p4 BW)).mono ?_; rintro e w5 ⟨rfl, B5⟩
  clear hC
  have kk5 := kk1.nx B5
  have BB := kk5.2.2
  have i0 := kk5.1.cell 0
  have i1 := kk5.1.cell 1
  have i2 := kk5.1.cell 2
  have i3 := kk5.1.cell 3
  have i4 := kk5.1.cell 4
  have i5 := kk5.1.cell 5
  go_wp2_with fail
  refine (hD w5 (st p1 BB)).mono ?_; rintro e6 w6 ⟨H1, h1, I1, i1_, H2, h2, I2, i2_, rfl, O1, O2, O3, O4, B6⟩
  clear hD i0 i1 i2 i3 i4 i5
  have hRC := (kk5.nx B6).2.1
  have BB6 := (kk5.nx B6).2.2
  have hz := kk5.2.1.2
  dsimp only at O1 O2 O3 O4
  go_wp2_with (refine wp_st6 rfl (.tmp 4) (.tmp 50) rfl _ rfl _ _ _ _ _ _ rfl hRC rfl rfl rfl rfl rfl rfl ?_)
  have s6 := hRC.put6 (.bool fr.s) (.slice H1 fr.a.length h1) (.slice I1 fr.b.length i1_) (.bool fi.s) (.slice H2 fi.a.length h2) (.slice I2 fi.b.length i2_)
  have B6 := wr6_below (b := w.heap.size + 1) BB6 (by omega) (.bool fr.s) (.slice H1 fr.a.length h1) (.slice I1 fr.b.length i1_) (.bool fi.s) (.slice H2 fi.a.length h2) (.slice I2 fi.b.length i2_)
  have O1 := O1.put6 (b := w.heap.size + 1) (by omega) (.bool fr.s) (.slice H1 fr.a.length h1) (.slice I1 fr.b.length i1_) (.bool fi.s) (.slice H2 fi.a.length h2) (.slice I2 fi.b.length i2_)
  have O2 := O2.put6 (b := w.heap.size + 1) (by omega) (.bool fr.s) (.slice H1 fr.a.length h1) (.slice I1 fr.b.length i1_) (.bool fi.s) (.slice H2 fi.a.length h2) (.slice I2 fi.b.length i2_)
  have O3 := O3.put6 (b := w.heap.size + 1) (by omega) (.bool fr.s) (.slice H1 fr.a.length h1) (.slice I1 fr.b.length i1_) (.bool fi.s) (.slice H2 fi.a.length h2) (.slice I2 fi.b.length i2_)
  have O4 := O4.put6 (b := w.heap.size + 1) (by omega) (.bool fr.s) (.slice H1 fr.a.length h1) (.slice I1 fr.b.length i1_) (.bool fi.s) (.slice H2 fi.a.length h2) (.slice I2 fi.b.length i2_)
  have r0' := s6.cell 0
  have r1' := s6.cell 1
  have r2' := s6.cell 2
  have r3' := s6.cell 3
  have r4' := s6.cell 4
  have r5' := s6.cell 5
  refine bodyPost_ret (v := .tuple #[.agg #[.bool fr.s, .slice H1 fr.a.length h1, .slice I1 fr.b.length i1_, .bool fi.s, .slice H2 fi.a.length h2, .slice I2 fi.b.length i2_], .int .i64 fk]) (by simp [results, r0', r1', r2', r3', r4', r5', go_sem]) rfl ?_
  rw [hR.out]
  exact ⟨H1, h1, I1, i1_, H2, h2, I2, i2_, rfl, O1.base_le (by omega), O2.base_le (by omega), O3.base_le (by omega), O4.base_le (by omega), B6⟩


set_option maxRecDepth 100000 in
set_option maxHeartbeats 16000000 in
theorem bshift_up (s1 s2 : Bool) (a1 b1 a2 b2 : List Nat) (A1 D1 A2 D2 : Option Addr) (c1 d1 c2 d2 : Nat) (w : World) (p1 : RW w w.heap.size A1 c1 a1) (p2 : RW w w.heap.size D1 d1 b1) (p3 : RW w w.heap.size A2 c2 a2) (p4 : RW w w.heap.size D2 d2 b2) (X : Int) (n : Nat) (hn : n ≤ 16384) (hX : Hid ((⟨s1, a1, b1⟩ : Rw) = rwq ((X : Int) : Rat))) (lx : a1.length ≤ 512) (hk : bchkN1 ⟨s1, a1, b1⟩ ⟨s2, a2, b2⟩ = 0) :
    Calls Try.prog 18 #[.agg #[.bool s1, .slice A1 a1.length c1, .slice D1 b1.length d1, .bool s2, .slice A2 a2.length c2, .slice D2 b2.length d2], .int .i64 (n : Int)] w (RetNE w (fitQ (((X * ((2 ^ n : Nat) : Int) : Int)) : Rat) 0)) := by
  have kk0 := S2.new w [.bool s1, .slice A1 a1.length c1, .slice D1 b1.length d1, .bool s2, .slice A2 a2.length c2, .slice D2 b2.length d2] [.bool false, .slice none 0 0, .slice none 0 0, .bool false, .slice none 0 0, .slice none 0 0] 26 26 6
  have LB4 := bal ((w.alloc (.cells #[.bool s1, .slice A1 a1.length c1, .slice D1 b1.length d1, .bool s2, .slice A2 a2.length c2, .slice D2 b2.length d2] 26)).alloc (.cells #[.bool false, .slice none 0 0, .slice none 0 0, .bool false, .slice none 0 0, .slice none 0 0] 26)) (.cells #[.bool s1, .slice A1 a1.length c1, .slice D1 b1.length d1, .bool s2, .slice A2 a2.length c2, .slice D2 b2.length d2] 26)
  have kk1 := kk0.nx LB4
  have SG := SB.new ((w.alloc (.cells #[.bool s1, .slice A1 a1.length c1, .slice D1 b1.length d1, .bool s2, .slice A2 a2.length c2, .slice D2 b2.length d2] 26)).alloc (.cells #[.bool false, .slice none 0 0, .slice none 0 0, .bool false, .slice none 0 0, .slice none 0 0] 26)) [.bool s1, .slice A1 a1.length c1, .slice D1 b1.length d1, .bool s2, .slice A2 a2.length c2, .slice D2 b2.length d2] 26
  have z3 : ((w.alloc (.cells #[.bool s1, .slice A1 a1.length c1, .slice D1 b1.length d1, .bool s2, .slice A2 a2.length c2, .slice D2 b2.length d2] 26)).alloc (.cells #[.bool false, .slice none 0 0, .slice none 0 0, .bool false, .slice none 0 0, .slice none 0 0] 26)).heap.size = w.heap.size + 2 := by simp
  rw [z3] at SG
  have hC := fun w' hg h1 h2 h3 h4 => bcheck1_any (w.heap.size + 2) s1 a1 b1 s2 a2 b2 A1 c1 D1 d1 A2 c2 D2 d2 w' hg h1 h2 h3 h4
  have BW := kk1.2.2
  obtain ⟨W, hW⟩ : ∃ W, W = ((w.alloc (.cells #[.bool s1, .slice A1 a1.length c1, .slice D1 b1.length d1, .bool s2, .slice A2 a2.length c2, .slice D2 b2.length d2] 26)).alloc (.cells #[.bool false, .slice none 0 0, .slice none 0 0, .bool false, .slice none 0 0, .slice none 0 0] 26)).alloc (.cells #[.bool s1, .slice A1 a1.length c1, .slice D1 b1.length d1, .bool s2, .slice A2 a2.length c2, .slice D2 b2.length d2] 26) := ⟨_, rfl⟩
  have i0 := kk0.1.cell 0
  have i1 := kk0.1.cell 1
  have i2 := kk0.1.cell 2
  have i3 := kk0.1.cell 3
  have i4 := kk0.1.cell 4
  have i5 := kk0.1.cell 5
  simp only [hk] at hC
  clear hk
  have hU := fun w' h => up_any A1 c1 a1.length a1 w' n (by omega) rfl h (by omega)
  unfold RetW at hU
  obtain ⟨u0, hu0⟩ : ∃ u0, Hid (digs (val a1 * 2 ^ n) = u0) := ⟨_, rfl⟩
  rw [hu0.out] at hU
  have hul : u0.length ≤ 1100 := by
    rw [← hu0.out]
    have h1 := digs_mul (val a1) (2 ^ n)
    have h2 : (digs (val a1)).length ≤ 512 := Nat.le_trans (digs_len_le.2 (Nat.lt_of_lt_of_le (val_lt p1.2) (Wp_mono lx))) (Nat.le_refl _)
    have h3 : (digs (2 ^ n)).length ≤ 513 := digs_pow (by omega)
    omega
  have t1 : ¬ (n : Int) < -16384 := by omega
  have t2 : ¬ (16384 : Int) < (n : Int) := by omega
  have t3 : (0 : Int) ≤ (n : Int) := by omega
  go_enter Try.func18, Try.ntmps18
  go_wp2_with fail
  rw [← hW] at kk1 SG BW ⊢
  clear hW kk0 i0 i1 i2 i3 i4 i5
  refine (hC W SG (st p1 BW) (st p2 BW) (st p3 BW) (st p4 BW)).mono ?_; rintro e w5 ⟨rfl, B5⟩
  clear hC
  have kk5 := kk1.nx B5
  have BB := kk5.2.2
  have HX := Lib.hid (shift_row (s1 := s1) (v := val a1) (n := n) (X := X) (by rw [show s1 = decide (X < 0) from congrArg Rw.s hX.out, show a1 = digs X.natAbs from congrArg Rw.a hX.out, val_digs]; unfold sgn; by_cases h : X < 0 <;> simp [h] <;> omega))
  rw [hu0.out] at HX
  have HL : Hid ((digs (X * ((2 ^ n : Nat) : Int)).natAbs).length < u0.length + 1) := by
    show _ < _
    rw [← hu0.out, Int.natAbs_mul, Int.natAbs_natCast, show a1 = digs X.natAbs from congrArg Rw.a hX.out, val_digs]
    exact Nat.lt_succ_self _
  go_upto_region 7 with fail
  have Bd : Below w5.heap.size w5 w5.drew := Below.drew (Below.refl _ _)
  have kkd := kk5.nx Bd
  have hz5 : w.heap.size + 1 < w5.heap.size := kk5.2.1.2
  have hzd : w5.heap.size = w5.drew.heap.size := rfl
  refine AnyU.regionQ 11 12 (fun w' => w'.cell? ⟨w.heap.size, 0, none⟩ = some (.bool s1) ∧ w'.cell? ⟨w.heap.size, 1, none⟩ = some (.slice A1 a1.length c1)) rfl (by kernel_rfl) (by kernel_rfl) (by repeat (first | refine quiet_then ?_ | refine quiet_block ?_ | exact quiet_body)) ⟨kkd.1.cell 0, kkd.1.cell 1⟩ (fun Q hQK hq hns hHeld => ?_)
  generalize w5.drew = w6 at *
  refine AnyU.next (i := 0) (v := ?_) hq hns hHeld rfl rfl (by kernel_rfl) (Or.inl ⟨by rfl, ?_⟩) ?_
  rotate_left
  · intro w' hSw; (try dsimp only at hSw); go_simp <;> with_reducible rfl
  try simp only [List.setIfInBounds_toArray, List.set_cons_zero, List.set_cons_succ]
  refine AnyU.next (i := 1) (v := ?_) hq hns hHeld rfl rfl (by kernel_rfl) (Or.inl ⟨by rfl, ?_⟩) ?_
  rotate_left
  · intro w' hSw; (try dsimp only at hSw); go_simp <;> with_reducible rfl
  try simp only [List.setIfInBounds_toArray, List.set_cons_zero, List.set_cons_succ]
  refine AnyU.next (i := 2) (v := ?_) hq hns hHeld rfl rfl (by kernel_rfl) (Or.inl ⟨by rfl, ?_⟩) ?_
  rotate_left
  · intro w' hSw; (try dsimp only at hSw); go_simp <;> with_reducible rfl
  try simp only [List.setIfInBounds_toArray, List.set_cons_zero, List.set_cons_succ]
  refine AnyU.next (i := 3) (v := ?_) hq hns hHeld rfl rfl (by kernel_rfl) (Or.inl ⟨by rfl, ?_⟩) ?_
  rotate_left
  · intro w' hSw; (try dsimp only at hSw); go_simp <;> with_reducible rfl
  try simp only [List.setIfInBounds_toArray, List.set_cons_zero, List.set_cons_succ]
  refine AnyU.next (i := 4) (v := ?_) hq hns hHeld rfl rfl (by kernel_rfl) (Or.inl ⟨by rfl, ?_⟩) ?_
  rotate_left
  · intro w' hSw; (try dsimp only at hSw); go_simp <;> with_reducible rfl
  try simp only [List.setIfInBounds_toArray, List.set_cons_zero, List.set_cons_succ]
  refine AnyU.next (i := 5) (v := ?_) hq hns hHeld rfl rfl (by kernel_rfl) (Or.inl ⟨by rfl, ?_⟩) ?_
  rotate_left
  · intro w' hSw; (try dsimp only at hSw); go_simp <;> with_reducible rfl
  try simp only [List.setIfInBounds_toArray, List.set_cons_zero, List.set_cons_succ]
  refine AnyU.next (i := 6) (v := ?_) hq hns hHeld rfl rfl (by kernel_rfl) (Or.inl ⟨by rfl, ?_⟩) ?_
  rotate_left
  · intro w' hSw; (try dsimp only at hSw); go_simp <;> with_reducible rfl
  try simp only [List.setIfInBounds_toArray, List.set_cons_zero, List.set_cons_succ]
  refine AnyU.two (i := 7) (j := 10) (by kernel_rfl) (USome.mk rfl (fun K hK => ?_)) (USome.mk rfl (fun K hK => ?_))
  · go_simp
    refine (hU w6 (st p1 kkd.2.2)).mono ?_; rintro e7 w7 ⟨T, ct, rfl, OT, B7⟩
    go_wp2_with fail
    have kkd := kkd.nx B7
    refine hK.out _ _ (.inr ⟨kkd.1.cell 0, kkd.1.cell 1⟩) (fun hHeld => ?_)
    have hHeld := hHeld.resolve_left (by decide)
    clear hK K
    try simp only [List.setIfInBounds_toArray, List.set_cons_zero, List.set_cons_succ]
    refine AnyU.next (i := 8) (v := ?_) hq hns hHeld rfl rfl (by kernel_rfl) (Or.inl ⟨by rfl, ?_⟩) ?_
    rotate_left
    · intro w' hSw; (try dsimp only at hSw); go_simp <;> with_reducible rfl
    try simp only [List.setIfInBounds_toArray, List.set_cons_zero, List.set_cons_succ]
    refine AnyU.next (i := 9) (v := ?_) hq hns hHeld rfl rfl (by kernel_rfl) (Or.inl ⟨by rfl, ?_⟩) ?_
    rotate_left
    · intro w' hSw; (try dsimp only at hSw); go_simp <;> with_reducible rfl
    try simp only [List.setIfInBounds_toArray, List.set_cons_zero, List.set_cons_succ]
    refine AnyU.one 10 (by kernel_rfl) rfl (fun K hK => ?_)
    go_simp
    have L8 := bal w7 (.cells #[.bool false, .slice none 0 0, .slice none 0 0, .bool false, .slice none 0 0, .slice none 0 0] 26)
    have Sx := SB.new w7 [.bool false, .slice none 0 0, .slice none 0 0, .bool false, .slice none 0 0, .slice none 0 0] 26
    have kkd := kkd.nx L8
    have hTb := OT.bet
    have OT := (OT.below L8 (Nat.le_refl _)).base_le (B := w.heap.size + 2) (by omega)
    have hTg : ∀ g', T = some ⟨g', 0, none⟩ → g' ≠ w7.heap.size := fun g' hA => by have := hTb g' hA; omega
    obtain ⟨g, hg⟩ : ∃ g, g = w7.heap.size := ⟨_, rfl⟩
    rw [← hg] at Sx hTg ⊢
    have hgb : w.heap.size + 1 < g := by have := B7.size; omega
    refine hK.out _ _ (.inr ⟨kkd.1.cell 0, kkd.1.cell 1⟩) (fun hHeld => ?_)
    clear hK K hHeld L8 hg
    try simp only [List.setIfInBounds_toArray, List.set_cons_zero, List.set_cons_succ]
    generalize w7.alloc (.cells #[.bool false, .slice none 0 0, .slice none 0 0, .bool false, .slice none 0 0, .slice none 0 0] 26) = w8 at *
    have f0 := Sx.frozen 0
    have f1 := Sx.frozen 1
    have f2 := Sx.frozen 2
    have f3 := Sx.frozen 3
    have f4 := Sx.frozen 4
    have f5 := Sx.frozen 5
    have j0 := Sx.cell 0
    have j1 := Sx.cell 1
    have j2 := Sx.cell 2
    have j3 := Sx.cell 3
    have j4 := Sx.cell 4
    have j5 := Sx.cell 5
    refine AnyU.one 11 (by kernel_rfl) rfl (fun K hK => ?_)
    go_simp
    refine hK.out _ _ (.inl rfl) (fun _ => ?_)
    clear hK K f0 f1 f2 f3 f4 f5 j0 j1 j2 j3 j4 j5
    try simp only [List.setIfInBounds_toArray, List.set_cons_zero, List.set_cons_succ]
    refine AnyU.done (by kernel_rfl) (hQK.out _ _ ?_)
    clear hQK hq hns
    have Sx := Sx.put6x (.bool s1) (.slice T u0.length ct) (.slice none 0 0) (.bool false) (.slice none 0 0) (.slice none 0 0)
    have OT := OT.far6 (b := g) hTg (.bool s1) (.slice T u0.length ct) (.slice none 0 0) (.bool false) (.slice none 0 0) (.slice none 0 0)
    have kkd := kkd.put6g hgb (.bool s1) (.slice T u0.length ct) (.slice none 0 0) (.bool false) (.slice none 0 0) (.slice none 0 0)
    obtain ⟨w9, hw9⟩ : ∃ w9, w9 = wr6 w8 g (.bool s1) (.slice T u0.length ct) (.slice none 0 0) (.bool false) (.slice none 0 0) (.slice none 0 0) := ⟨_, rfl⟩
    have hw9' := hw9
    unfold wr6 wr3 at hw9'
    rw [← hw9']
    rw [← hw9] at Sx OT kkd
    clear hw9 hw9'
    have hw9s : w.heap.size + 1 < w9.heap.size := kkd.2.1.2
    have j0 := Sx.cell 0
    have j1 := Sx.cell 1
    have j2 := Sx.cell 2
    have j3 := Sx.cell 3
    have j4 := Sx.cell 4
    have j5 := Sx.cell 5
    have hRW := row_raw s1 false T none none none ct 0 0 0 0 0 0 u0 (u0.length + 1) w9 OT.rw (by omega) (by omega) (by omega)
    rw [HX.out _ (Nat.le_succ _)] at hRW
    simp only [Int.natCast_add, Int.cast_ofNat_Int] at hRW
    go_wp2_with fail
    refine hRW.mono ?_; rintro e10 w10 ⟨gr, rfl, OR, B10⟩
    clear hRW j0 j1 j2 j3 j4 j5
    have kkd := kkd.nx B10
    have hz9 : w.heap.size + 1 < w10.heap.size := kkd.2.1.2
    have OR := OR.base_le (B := w.heap.size + 2) hw9s
    have hN := bnum_any gr (u0.length + 1) (rowI (u0.length + 1) (X * ((2 ^ n : Nat) : Int))) w10 (w.heap.size + 2) OR (by rw [rowI_len]; omega) (by rw [rowI_len]; omega) (by omega)
    rw [num_row HL.out, rowI_len] at hN
    obtain ⟨R, hR⟩ : ∃ R, Hid (fitQ (((X * ((2 ^ n : Nat) : Int) : Int)) : Rat) 0 = R) := ⟨_, rfl⟩
    rw [hR.out] at hN
    obtain ⟨fr, fi, fk⟩ := R
    go_wp2_with fail
    refine hN.mono ?_; rintro e11 w11 ⟨H1, h1, I1, i1_, H2, h2, I2, i2_, rfl, O1, O2, O3, O4, B11⟩
    clear hN
    have hRC := (kkd.2.1.sb.below B11 (by omega)).rc (n := 6)
    have BB6 := kkd.2.2.trans (B11.mono (by omega))
    dsimp only at O1 O2 O3 O4
    go_wp2_with (refine wp_st6 rfl (.tmp 4) (.tmp 44) rfl _ rfl _ _ _ _ _ _ rfl hRC rfl rfl rfl rfl rfl rfl ?_)
    have s6 := hRC.put6 (.bool fr.s) (.slice H1 fr.a.length h1) (.slice I1 fr.b.length i1_) (.bool fi.s) (.slice H2 fi.a.length h2) (.slice I2 fi.b.length i2_)
    have B6 := wr6_below (b := w.heap.size + 1) BB6 (by omega) (.bool fr.s) (.slice H1 fr.a.length h1) (.slice I1 fr.b.length i1_) (.bool fi.s) (.slice H2 fi.a.length h2) (.slice I2 fi.b.length i2_)
    have O1 := O1.put6 (b := w.heap.size + 1) (by omega) (.bool fr.s) (.slice H1 fr.a.length h1) (.slice I1 fr.b.length i1_) (.bool fi.s) (.slice H2 fi.a.length h2) (.slice I2 fi.b.length i2_)
    have O2 := O2.put6 (b := w.heap.size + 1) (by omega) (.bool fr.s) (.slice H1 fr.a.length h1) (.slice I1 fr.b.length i1_) (.bool fi.s) (.slice H2 fi.a.length h2) (.slice I2 fi.b.length i2_)
    have O3 := O3.put6 (b := w.heap.size + 1) (by omega) (.bool fr.s) (.slice H1 fr.a.length h1) (.slice I1 fr.b.length i1_) (.bool fi.s) (.slice H2 fi.a.length h2) (.slice I2 fi.b.length i2_)
    have O4 := O4.put6 (b := w.heap.size + 1) (by omega) (.bool fr.s) (.slice H1 fr.a.length h1) (.slice I1 fr.b.length i1_) (.bool fi.s) (.slice H2 fi.a.length h2) (.slice I2 fi.b.length i2_)
    have r0' := s6.cell 0
    have r1' := s6.cell 1
    have r2' := s6.cell 2
    have r3' := s6.cell 3
    have r4' := s6.cell 4
    have r5' := s6.cell 5
    refine bodyPost_ret (v := .tuple #[.agg #[.bool fr.s, .slice H1 fr.a.length h1, .slice I1 fr.b.length i1_, .bool fi.s, .slice H2 fi.a.length h2, .slice I2 fi.b.length i2_], .int .i64 fk]) (by simp [results, r0', r1', r2', r3', r4', r5', go_sem]) rfl ?_
    rw [hR.out]
    exact ⟨H1, h1, I1, i1_, H2, h2, I2, i2_, rfl, O1.base_le (by omega), O2.base_le (by omega), O3.base_le (by omega), O4.base_le (by omega), B6⟩
  · go_simp
    have L8 := bal w6 (.cells #[.bool false, .slice none 0 0, .slice none 0 0, .bool false, .slice none 0 0, .slice none 0 0] 26)
    have Sx := SB.new w6 [.bool false, .slice none 0 0, .slice none 0 0, .bool false, .slice none 0 0, .slice none 0 0] 26
    have kkd := kkd.nx L8
    have hz6 : w.heap.size + 1 < w6.heap.size := by omega
    obtain ⟨g, hg⟩ : ∃ g, g = w6.heap.size := ⟨_, rfl⟩
    rw [← hg] at Sx hz6 ⊢
    have hgb : w.heap.size + 1 < g := hz6
    refine hK.out _ _ (.inr ⟨kkd.1.cell 0, kkd.1.cell 1⟩) (fun hHeld => ?_)
    have hHeld := hHeld.resolve_left (by decide)
    clear hK K L8 hg hz6
    try simp only [List.setIfInBounds_toArray, List.set_cons_zero, List.set_cons_succ]
    generalize w6.alloc (.cells #[.bool false, .slice none 0 0, .slice none 0 0, .bool false, .slice none 0 0, .slice none 0 0] 26) = w7 at *
    refine AnyU.one 7 (by kernel_rfl) rfl (fun K hK => ?_)
    go_simp
    refine (hU w7 (st p1 kkd.2.2)).mono ?_; rintro e7 w8 ⟨T, ct, rfl, OT, B7⟩
    go_wp2_with fail
    have hgl := Sx.2
    have hTg : ∀ g', T = some ⟨g', 0, none⟩ → g' ≠ g := fun g' hA => by have := OT.bet g' hA; omega
    have OT := OT.base_le (B := w.heap.size + 2) (by omega)
    have kkd := kkd.nx B7
    have Sx := Sx.nx B7
    refine hK.out _ _ (.inr ⟨kkd.1.cell 0, kkd.1.cell 1⟩) (fun hHeld => ?_)
    have hHeld := hHeld.resolve_left (by decide)
    clear hK K
    try simp only [List.setIfInBounds_toArray, List.set_cons_zero, List.set_cons_succ]
    refine AnyU.next (i := 8) (v := ?_) hq hns hHeld rfl rfl (by kernel_rfl) (Or.inl ⟨by rfl, ?_⟩) ?_
    rotate_left
    · intro w' hSw; (try dsimp only at hSw); go_simp <;> with_reducible rfl
    try simp only [List.setIfInBounds_toArray, List.set_cons_zero, List.set_cons_succ]
    refine AnyU.next (i := 9) (v := ?_) hq hns hHeld rfl rfl (by kernel_rfl) (Or.inl ⟨by rfl, ?_⟩) ?_
    rotate_left
    · intro w' hSw; (try dsimp only at hSw); go_simp <;> with_reducible rfl
    try simp only [List.setIfInBounds_toArray, List.set_cons_zero, List.set_cons_succ]
    clear hHeld
    have f0 := Sx.frozen 0
    have f1 := Sx.frozen 1
    have f2 := Sx.frozen 2
    have f3 := Sx.frozen 3
    have f4 := Sx.frozen 4
    have f5 := Sx.frozen 5
    have j0 := Sx.cell 0
    have j1 := Sx.cell 1
    have j2 := Sx.cell 2
    have j3 := Sx.cell 3
    have j4 := Sx.cell 4
    have j5 := Sx.cell 5
    refine AnyU.one 11 (by kernel_rfl) rfl (fun K hK => ?_)
    go_simp
    refine hK.out _ _ (.inl rfl) (fun _ => ?_)
    clear hK K f0 f1 f2 f3 f4 f5 j0 j1 j2 j3 j4 j5
    try simp only [List.setIfInBounds_toArray, List.set_cons_zero, List.set_cons_succ]
    refine AnyU.done (by kernel_rfl) (hQK.out _ _ ?_)
    clear hQK hq hns
    have Sx := Sx.put6x (.bool s1) (.slice T u0.length ct) (.slice none 0 0) (.bool false) (.slice none 0 0) (.slice none 0 0)
    have OT := OT.far6 (b := g) hTg (.bool s1) (.slice T u0.length ct) (.slice none 0 0) (.bool false) (.slice none 0 0) (.slice none 0 0)
    have kkd := kkd.put6g hgb (.bool s1) (.slice T u0.length ct) (.slice none 0 0) (.bool false) (.slice none 0 0) (.slice none 0 0)
    obtain ⟨w9, hw9⟩ : ∃ w9, w9 = wr6 w8 g (.bool s1) (.slice T u0.length ct) (.slice none 0 0) (.bool false) (.slice none 0 0) (.slice none 0 0) := ⟨_, rfl⟩
    have hw9' := hw9
    unfold wr6 wr3 at hw9'
    rw [← hw9']
    rw [← hw9] at Sx OT kkd
    clear hw9 hw9'
    have hw9s : w.heap.size + 1 < w9.heap.size := kkd.2.1.2
    have j0 := Sx.cell 0
    have j1 := Sx.cell 1
    have j2 := Sx.cell 2
    have j3 := Sx.cell 3
    have j4 := Sx.cell 4
    have j5 := Sx.cell 5
    have hRW := row_raw s1 false T none none none ct 0 0 0 0 0 0 u0 (u0.length + 1) w9 OT.rw (by omega) (by omega) (by omega)
    rw [HX.out _ (Nat.le_succ _)] at hRW
    simp only [Int.natCast_add, Int.cast_ofNat_Int] at hRW
    go_wp2_with fail
    refine hRW.mono ?_; rintro e10 w10 ⟨gr, rfl, OR, B10⟩
    clear hRW j0 j1 j2 j3 j4 j5
    have kkd := kkd.nx B10
    have hz9 : w.heap.size + 1 < w10.heap.size := kkd.2.1.2
    have OR := OR.base_le (B := w.heap.size + 2) hw9s
    have hN := bnum_any gr (u0.length + 1) (rowI (u0.length + 1) (X * ((2 ^ n : Nat) : Int))) w10 (w.heap.size + 2) OR (by rw [rowI_len]; omega) (by rw [rowI_len]; omega) (by omega)
    rw [num_row HL.out, rowI_len] at hN
    obtain ⟨R, hR⟩ : ∃ R, Hid (fitQ (((X * ((2 ^ n : Nat) : Int) : Int)) : Rat) 0 = R) := ⟨_, rfl⟩
    rw [hR.out] at hN
    obtain ⟨fr, fi, fk⟩ := R
    go_wp2_with fail
    refine hN.mono ?_; rintro e11 w11 ⟨H1, h1, I1, i1_, H2, h2, I2, i2_, rfl, O1, O2, O3, O4, B11⟩
    clear hN
    have hRC := (kkd.2.1.sb.below B11 (by omega)).rc (n := 6)
    have BB6 := kkd.2.2.trans (B11.mono (by omega))
    dsimp only at O1 O2 O3 O4
    go_wp2_with (refine wp_st6 rfl (.tmp 4) (.tmp 44) rfl _ rfl _ _ _ _ _ _ rfl hRC rfl rfl rfl rfl rfl rfl ?_)
    have s6 := hRC.put6 (.bool fr.s) (.slice H1 fr.a.length h1) (.slice I1 fr.b.length i1_) (.bool fi.s) (.slice H2 fi.a.length h2) (.slice I2 fi.b.length i2_)
    have B6 := wr6_below (b := w.heap.size + 1) BB6 (by omega) (.bool fr.s) (.slice H1 fr.a.length h1) (.slice I1 fr.b.length i1_) (.bool fi.s) (.slice H2 fi.a.length h2) (.slice I2 fi.b.length i2_)
    have O1 := O1.put6 (b := w.heap.size + 1) (by omega) (.bool fr.s) (.slice H1 fr.a.length h1) (.slice I1 fr.b.length i1_) (.bool fi.s) (.slice H2 fi.a.length h2) (.slice I2 fi.b.length i2_)
    have O2 := O2.put6 (b := w.heap.size + 1) (by omega) (.bool fr.s) (.slice H1 fr.a.length h1) (.slice I1 fr.b.length i1_) (.bool fi.s) (.slice H2 fi.a.length h2) (.slice I2 fi.b.length i2_)
    have O3 := O3.put6 (b := w.heap.size + 1) (by omega) (.bool fr.s) (.slice H1 fr.a.length h1) (.slice I1 fr.b.length i1_) (.bool fi.s) (.slice H2 fi.a.length h2) (.slice I2 fi.b.length i2_)
    have O4 := O4.put6 (b := w.heap.size + 1) (by omega) (.bool fr.s) (.slice H1 fr.a.length h1) (.slice I1 fr.b.length i1_) (.bool fi.s) (.slice H2 fi.a.length h2) (.slice I2 fi.b.length i2_)
    have r0' := s6.cell 0
    have r1' := s6.cell 1
    have r2' := s6.cell 2
    have r3' := s6.cell 3
    have r4' := s6.cell 4
    have r5' := s6.cell 5
    refine bodyPost_ret (v := .tuple #[.agg #[.bool fr.s, .slice H1 fr.a.length h1, .slice I1 fr.b.length i1_, .bool fi.s, .slice H2 fi.a.length h2, .slice I2 fi.b.length i2_], .int .i64 fk]) (by simp [results, r0', r1', r2', r3', r4', r5', go_sem]) rfl ?_
    rw [hR.out]
    exact ⟨H1, h1, I1, i1_, H2, h2, I2, i2_, rfl, O1.base_le (by omega), O2.base_le (by omega), O3.base_le (by omega), O4.base_le (by omega), B6⟩

end Go.Proofs.Ytnlgoedklmjhlaa
namespace Go.Proofs.Ytnlgoedklmjhlaa
open Go.RowKit


set_option maxRecDepth 100000 in
set_option maxHeartbeats 16000000 in
theorem rbshift_bad (s1 s2 : Bool) (a1 b1 a2 b2 : List Nat) (A1 D1 A2 D2 : Option Addr) (c1 d1 c2 d2 : Nat) (w : World) (p1 : RW w w.heap.size A1 c1 a1) (p2 : RW w w.heap.size D1 d1 b1) (p3 : RW w w.heap.size A2 c2 a2) (p4 : RW w w.heap.size D2 d2 b2) (n : Int) (k : Int) (hk : bchkN1 ⟨s1, a1, b1⟩ ⟨s2, a2, b2⟩ = k) (hk0 : (k == 0) = false) :
    Calls Try.prog 19 #[.agg #[.bool s1, .slice A1 a1.length c1, .slice D1 b1.length d1, .bool s2, .slice A2 a2.length c2, .slice D2 b2.length d2], .int .i64 n] w (RetNE w (rw0, rw0, k)) := by
  have kk0 := S2.new w [.bool s1, .slice A1 a1.length c1, .slice D1 b1.length d1, .bool s2, .slice A2 a2.length c2, .slice D2 b2.length d2] [.bool false, .slice none 0 0, .slice none 0 0, .bool false, .slice none 0 0, .slice none 0 0] 26 26 6
  have LB4 := bal ((w.alloc (.cells #[.bool s1, .slice A1 a1.length c1, .slice D1 b1.length d1, .bool s2, .slice A2 a2.length c2, .slice D2 b2.length d2] 26)).alloc (.cells #[.bool false, .slice none 0 0, .slice none 0 0, .bool false, .slice none 0 0, .slice none 0 0] 26)) (.cells #[.bool s1, .slice A1 a1.length c1, .slice D1 b1.length d1, .bool s2, .slice A2 a2.length c2, .slice D2 b2.length d2] 26)
  have kk1 := kk0.nx LB4
  have SG := SB.new ((w.alloc (.cells #[.bool s1, .slice A1 a1.length c1, .slice D1 b1.length d1, .bool s2, .slice A2 a2.length c2, .slice D2 b2.length d2] 26)).alloc (.cells #[.bool false, .slice none 0 0, .slice none 0 0, .bool false, .slice none 0 0, .slice none 0 0] 26)) [.bool s1, .slice A1 a1.length c1, .slice D1 b1.length d1, .bool s2, .slice A2 a2.length c2, .slice D2 b2.length d2] 26
  have z3 : ((w.alloc (.cells #[.bool s1, .slice A1 a1.length c1, .slice D1 b1.length d1, .bool s2, .slice A2 a2.length c2, .slice D2 b2.length d2] 26)).alloc (.cells #[.bool false, .slice none 0 0, .slice none 0 0, .bool false, .slice none 0 0, .slice none 0 0] 26)).heap.size = w.heap.size + 2 := by simp
  rw [z3] at SG
  have hC := fun w' hg h1 h2 h3 h4 => rbcheck1_any (w.heap.size + 2) s1 a1 b1 s2 a2 b2 A1 c1 D1 d1 A2 c2 D2 d2 w' hg h1 h2 h3 h4
  have BW := kk1.2.2
  obtain ⟨W, hW⟩ : ∃ W, W = ((w.alloc (.cells #[.bool s1, .slice A1 a1.length c1, .slice D1 b1.length d1, .bool s2, .slice A2 a2.length c2, .slice D2 b2.length d2] 26)).alloc (.cells #[.bool false, .slice none 0 0, .slice none 0 0, .bool false, .slice none 0 0, .slice none 0 0] 26)).alloc (.cells #[.bool s1, .slice A1 a1.length c1, .slice D1 b1.length d1, .bool s2, .slice A2 a2.length c2, .slice D2 b2.length d2] 26) := ⟨_, rfl⟩
  have i0 := kk0.1.cell 0
  have i1 := kk0.1.cell 1
  have i2 := kk0.1.cell 2
  have i3 := kk0.1.cell 3
  have i4 := kk0.1.cell 4
  have i5 := kk0.1.cell 5
  simp only [hk] at hC
  have Hk := Lib.hid hk
  clear hk
  have n0 : (k != 0) = true := by simp [bne, hk0]
  go_enter Try.func19, Try.ntmps19
  go_wp2_with fail
  rw [← hW] at kk1 SG BW ⊢
  clear hW kk0 i0 i1 i2 i3 i4 i5
  refine (hC W SG (st p1 BW) (st p2 BW) (st p3 BW) (st p4 BW)).mono ?_; rintro e w5 ⟨rfl, B5⟩
  clear hC
  have kk5 := kk1.nx B5
  have BB := kk5.2.2
  have hRC := kk5.2.1
  go_wp2_with (refine wp_st6 rfl (.tmp 4) (.tmp 14) rfl _ rfl _ _ _ _ _ _ rfl hRC rfl rfl rfl rfl rfl rfl ?_)
  have s6 := hRC.put6 (.bool false) (.slice none 0 0) (.slice none 0 0) (.bool false) (.slice none 0 0) (.slice none 0 0)
  have B6 := wr6_below (b := w.heap.size + 1) BB (by omega) (.bool false) (.slice none 0 0) (.slice none 0 0) (.bool false) (.slice none 0 0) (.slice none 0 0)
  have r0' := s6.cell 0
  have r1' := s6.cell 1
  have r2' := s6.cell 2
  have r3' := s6.cell 3
  have r4' := s6.cell 4
  have r5' := s6.cell 5
  refine bodyPost_ret (v := .tuple #[.agg #[.bool false, .slice none 0 0, .slice none 0 0, .bool false, .slice none 0 0, .slice none 0 0], .int .i64 k]) (by simp [results, r0', r1', r2', r3', r4', r5', go_sem]) rfl ?_
  exact retNE_nil k B6


set_option maxRecDepth 100000 in
set_option maxHeartbeats 16000000 in
theorem rbshift_neg (s1 s2 : Bool) (a1 b1 a2 b2 : List Nat) (A1 D1 A2 D2 : Option Addr) (c1 d1 c2 d2 : Nat) (w : World) (p1 : RW w w.heap.size A1 c1 a1) (p2 : RW w w.heap.size D1 d1 b1) (p3 : RW w w.heap.size A2 c2 a2) (p4 : RW w w.heap.size D2 d2 b2) (n : Int) (h : n < -16384) (hk : bchkN1 ⟨s1, a1, b1⟩ ⟨s2, a2, b2⟩ = 0) :
    Calls Try.prog 19 #[.agg #[.bool s1, .slice A1 a1.length c1, .slice D1 b1.length d1, .bool s2, .slice A2 a2.length c2, .slice D2 b2.length d2], .int .i64 n] w (RetNE w (rw0, rw0, 1)) := by
  have kk0 := S2.new w [.bool s1, .slice A1 a1.length c1, .slice D1 b1.length d1, .bool s2, .slice A2 a2.length c2, .slice D2 b2.length d2] [.bool false, .slice none 0 0, .slice none 0 0, .bool false, .slice none 0 0, .slice none 0 0] 26 26 6
  have LB4 := bal ((w.alloc (.cells #[.bool s1, .slice A1 a1.length c1, .slice D1 b1.length d1, .bool s2, .slice A2 a2.length c2, .slice D2 b2.length d2] 26)).alloc (.cells #[.bool false, .slice none 0 0, .slice none 0 0, .bool false, .slice none 0 0, .slice none 0 0] 26)) (.cells #[.bool s1, .slice A1 a1.length c1, .slice D1 b1.length d1, .bool s2, .slice A2 a2.length c2, .slice D2 b2.length d2] 26)
  have kk1 := kk0.nx LB4
  have SG := SB.new ((w.alloc (.cells #[.bool s1, .slice A1 a1.length c1, .slice D1 b1.length d1, .bool s2, .slice A2 a2.length c2, .slice D2 b2.length d2] 26)).alloc (.cells #[.bool false, .slice none 0 0, .slice none 0 0, .bool false, .slice none 0 0, .slice none 0 0] 26)) [.bool s1, .slice A1 a1.length c1, .slice D1 b1.length d1, .bool s2, .slice A2 a2.length c2, .slice D2 b2.length d2] 26
  have z3 : ((w.alloc (.cells #[.bool s1, .slice A1 a1.length c1, .slice D1 b1.length d1, .bool s2, .slice A2 a2.length c2, .slice D2 b2.length d2] 26)).alloc (.cells #[.bool false, .slice none 0 0, .slice none 0 0, .bool false, .slice none 0 0, .slice none 0 0] 26)).heap.size = w.heap.size + 2 := by simp
  rw [z3] at SG
  have hC := fun w' hg h1 h2 h3 h4 => rbcheck1_any (w.heap.size + 2) s1 a1 b1 s2 a2 b2 A1 c1 D1 d1 A2 c2 D2 d2 w' hg h1 h2 h3 h4
  have BW := kk1.2.2
  obtain ⟨W, hW⟩ : ∃ W, W = ((w.alloc (.cells #[.bool s1, .slice A1 a1.length c1, .slice D1 b1.length d1, .bool s2, .slice A2 a2.length c2, .slice D2 b2.length d2] 26)).alloc (.cells #[.bool false, .slice none 0 0, .slice none 0 0, .bool false, .slice none 0 0, .slice none 0 0] 26)).alloc (.cells #[.bool s1, .slice A1 a1.length c1, .slice D1 b1.length d1, .bool s2, .slice A2 a2.length c2, .slice D2 b2.length d2] 26) := ⟨_, rfl⟩
  have i0 := kk0.1.cell 0
  have i1 := kk0.1.cell 1
  have i2 := kk0.1.cell 2
  have i3 := kk0.1.cell 3
  have i4 := kk0.1.cell 4
  have i5 := kk0.1.cell 5
  simp only [hk] at hC
  clear hk
  have t1 : n < -16384 := h
  clear h
  go_enter Try.func19, Try.ntmps19
  go_wp2_with fail
  rw [← hW] at kk1 SG BW ⊢
  clear hW kk0 i0 i1 i2 i3 i4 i5
  refine (hC W SG (st p1 BW) (st p2 BW) (st p3 BW) (st p4 BW)).mono ?_; rintro e w5 ⟨rfl, B5⟩
  clear hC
  have kk5 := kk1.nx B5
  have BB := kk5.2.2
  have hRC := kk5.2.1
  go_wp2_with (refine wp_st6 rfl (.tmp 4) (.tmp 22) rfl _ rfl _ _ _ _ _ _ rfl hRC rfl rfl rfl rfl rfl rfl ?_)
  have s6 := hRC.put6 (.bool false) (.slice none 0 0) (.slice none 0 0) (.bool false) (.slice none 0 0) (.slice none 0 0)
  have B6 := wr6_below (b := w.heap.size + 1) BB (by omega) (.bool false) (.slice none 0 0) (.slice none 0 0) (.bool false) (.slice none 0 0) (.slice none 0 0)
  have r0' := s6.cell 0
  have r1' := s6.cell 1
  have r2' := s6.cell 2
  have r3' := s6.cell 3
  have r4' := s6.cell 4
  have r5' := s6.cell 5
  refine bodyPost_ret (v := .tuple #[.agg #[.bool false, .slice none 0 0, .slice none 0 0, .bool false, .slice none 0 0, .slice none 0 0], .int .i64 1]) (by simp [results, r0', r1', r2', r3', r4', r5', go_sem]) rfl ?_
  exact retNE_nil 1 B6


set_option maxRecDepth 100000 in
set_option maxHeartbeats 16000000 in
theorem rbshift_far (s1 s2 : Bool) (a1 b1 a2 b2 : List Nat) (A1 D1 A2 D2 : Option Addr) (c1 d1 c2 d2 : Nat) (w : World) (p1 : RW w w.heap.size A1 c1 a1) (p2 : RW w w.heap.size D1 d1 b1) (p3 : RW w w.heap.size A2 c2 a2) (p4 : RW w w.heap.size D2 d2 b2) (n : Int) (h : ¬ n < -16384 ∧ 16384 < n) (hk : bchkN1 ⟨s1, a1, b1⟩ ⟨s2, a2, b2⟩ = 0) :
    Calls Try.prog 19 #[.agg #[.bool s1, .slice A1 a1.length c1, .slice D1 b1.length d1, .bool s2, .slice A2 a2.length c2, .slice D2 b2.length d2], .int .i64 n] w (RetNE w (rw0, rw0, 1)) := by
  have kk0 := S2.new w [.bool s1, .slice A1 a1.length c1, .slice D1 b1.length d1, .bool s2, .slice A2 a2.length c2, .slice D2 b2.length d2] [.bool false, .slice none 0 0, .slice none 0 0, .bool false, .slice none 0 0, .slice none 0 0] 26 26 6
  have LB4 := bal ((w.alloc (.cells #[.bool s1, .slice A1 a1.length c1, .slice D1 b1.length d1, .bool s2, .slice A2 a2.length c2, .slice D2 b2.length d2] 26)).alloc (.cells #[.bool false, .slice none 0 0, .slice none 0 0, .bool false, .slice none 0 0, .slice none 0 0] 26)) (.cells #[.bool s1, .slice A1 a1.length c1, .slice D1 b1.length d1, .bool s2, .slice A2 a2.length c2, .slice D2 b2.length d2] 26)
  have kk1 := kk0.nx LB4
  have SG := SB.new ((w.alloc (.cells #[.bool s1, .slice A1 a1.length c1, .slice D1 b1.length d1, .bool s2, .slice A2 a2.length c2, .slice D2 b2.length d2] 26)).alloc (.cells #[.bool false, .slice none 0 0, .slice none 0 0, .bool false, .slice none 0 0, .slice none 0 0] 26)) [.bool s1, .slice A1 a1.length c1, .slice D1 b1.length d1, .bool s2, .slice A2 a2.length c2, .slice D2 b2.length d2] 26
  have z3 : ((w.alloc (.cells #[.bool s1, .slice A1 a1.length c1, .slice D1 b1.length d1, .bool s2, .slice A2 a2.length c2, .slice D2 b2.length d2] 26)).alloc (.cells #[.bool false, .slice none 0 0, .slice none 0 0, .bool false, .slice none 0 0, .slice none 0 0] 26)).heap.size = w.heap.size + 2 := by simp
  rw [z3] at SG
  have hC := fun w' hg h1 h2 h3 h4 => rbcheck1_any (w.heap.size + 2) s1 a1 b1 s2 a2 b2 A1 c1 D1 d1 A2 c2 D2 d2 w' hg h1 h2 h3 h4
  have BW := kk1.2.2
  obtain ⟨W, hW⟩ : ∃ W, W = ((w.alloc (.cells #[.bool s1, .slice A1 a1.length c1, .slice D1 b1.length d1, .bool s2, .slice A2 a2.length c2, .slice D2 b2.length d2] 26)).alloc (.cells #[.bool false, .slice none 0 0, .slice none 0 0, .bool false, .slice none 0 0, .slice none 0 0] 26)).alloc (.cells #[.bool s1, .slice A1 a1.length c1, .slice D1 b1.length d1, .bool s2, .slice A2 a2.length c2, .slice D2 b2.length d2] 26) := ⟨_, rfl⟩
  have i0 := kk0.1.cell 0
  have i1 := kk0.1.cell 1
  have i2 := kk0.1.cell 2
  have i3 := kk0.1.cell 3
  have i4 := kk0.1.cell 4
  have i5 := kk0.1.cell 5
  simp only [hk] at hC
  clear hk
  have t1 : ¬ n < -16384 := h.1
  have t2 : 16384 < n := h.2
  clear h
  go_enter Try.func19, Try.ntmps19
  go_wp2_with fail
  rw [← hW] at kk1 SG BW ⊢
  clear hW kk0 i0 i1 i2 i3 i4 i5
  refine (hC W SG (st p1 BW) (st p2 BW) (st p3 BW) (st p4 BW)).mono ?_; rintro e w5 ⟨rfl, B5⟩
  clear hC
  have kk5 := kk1.nx B5
  have BB := kk5.2.2
  have hRC := kk5.2.1
  go_wp2_with (refine wp_st6 rfl (.tmp 4) (.tmp 22) rfl _ rfl _ _ _ _ _ _ rfl hRC rfl rfl rfl rfl rfl rfl ?_)
  have s6 := hRC.put6 (.bool false) (.slice none 0 0) (.slice none 0 0) (.bool false) (.slice none 0 0) (.slice none 0 0)
  have B6 := wr6_below (b := w.heap.size + 1) BB (by omega) (.bool false) (.slice none 0 0) (.slice none 0 0) (.bool false) (.slice none 0 0) (.slice none 0 0)
  have r0' := s6.cell 0
  have r1' := s6.cell 1
  have r2' := s6.cell 2
  have r3' := s6.cell 3
  have r4' := s6.cell 4
  have r5' := s6.cell 5
  refine bodyPost_ret (v := .tuple #[.agg #[.bool false, .slice none 0 0, .slice none 0 0, .bool false, .slice none 0 0, .slice none 0 0], .int .i64 1]) (by simp [results, r0', r1', r2', r3', r4', r5', go_sem]) rfl ?_
  exact retNE_nil 1 B6


set_option maxRecDepth 100000 in
set_option maxHeartbeats 16000000 in
theorem rbshift_up (s1 s2 : Bool) (a1 b1 a2 b2 : List Nat) (A1 D1 A2 D2 : Option Addr) (c1 d1 c2 d2 : Nat) (w : World) (p1 : RW w w.heap.size A1 c1 a1) (p2 : RW w w.heap.size D1 d1 b1) (p3 : RW w w.heap.size A2 c2 a2) (p4 : RW w w.heap.size D2 d2 b2) (X : Int) (n : Nat) (hn : n ≤ 16384) (hX : Hid ((⟨s1, a1, b1⟩ : Rw) = rwq ((X : Int) : Rat))) (lx : a1.length ≤ 512) (hk : bchkN1 ⟨s1, a1, b1⟩ ⟨s2, a2, b2⟩ = 0) :
    Calls Try.prog 19 #[.agg #[.bool s1, .slice A1 a1.length c1, .slice D1 b1.length d1, .bool s2, .slice A2 a2.length c2, .slice D2 b2.length d2], .int .i64 (n : Int)] w (RetNE w (fitQ (((X * ((2 ^ n : Nat) : Int) : Int)) : Rat) 0)) := by
  have kk0 := S2.new w [.bool s1, .slice A1 a1.length c1, .slice D1 b1.length d1, .bool s2, .slice A2 a2.length c2, .slice D2 b2.length d2] [.bool false, .slice none 0 0, .slice none 0 0, .bool false, .slice none 0 0, .slice none 0 0] 26 26 6
  have LB4 := bal ((w.alloc (.cells #[.bool s1, .slice A1 a1.length c1, .slice D1 b1.length d1, .bool s2, .slice A2 a2.length c2, .slice D2 b2.length d2] 26)).alloc (.cells #[.bool false, .slice none 0 0, .slice none 0 0, .bool false, .slice none 0 0, .slice none 0 0] 26)) (.cells #[.bool s1, .slice A1 a1.length c1, .slice D1 b1.length d1, .bool s2, .slice A2 a2.length c2, .slice D2 b2.length d2] 26)
  have kk1 := kk0.nx LB4
  have SG := SB.new ((w.alloc (.cells #[.bool s1, .slice A1 a1.length c1, .slice D1 b1.length d1, .bool s2, .slice A2 a2.length c2, .slice D2 b2.length d2] 26)).alloc (.cells #[.bool false, .slice none 0 0, .slice none 0 0, .bool false, .slice none 0 0, .slice none 0 0] 26)) [.bool s1, .slice A1 a1.length c1, .slice D1 b1.length d1, .bool s2, .slice A2 a2.length c2, .slice D2 b2.length d2] 26
  have z3 : ((w.alloc (.cells #[.bool s1, .slice A1 a1.length c1, .slice D1 b1.length d1, .bool s2, .slice A2 a2.length c2, .slice D2 b2.length d2] 26)).alloc (.cells #[.bool false, .slice none 0 0, .slice none 0 0, .bool false, .slice none 0 0, .slice none 0 0] 26)).heap.size = w.heap.size + 2 := by simp
  rw [z3] at SG
  have hC := fun w' hg h1 h2 h3 h4 => rbcheck1_any (w.heap.size + 2) s1 a1 b1 s2 a2 b2 A1 c1 D1 d1 A2 c2 D2 d2 w' hg h1 h2 h3 h4
  have BW := kk1.2.2
  obtain ⟨W, hW⟩ : ∃ W, W = ((w.alloc (.cells #[.bool s1, .slice A1 a1.length c1, .slice D1 b1.length d1, .bool s2, .slice A2 a2.length c2, .slice D2 b2.length d2] 26)).alloc (.cells #[.bool false, .slice none 0 0, .slice none 0 0, .bool false, .slice none 0 0, .slice none 0 0] 26)).alloc (.cells #[.bool s1, .slice A1 a1.length c1, .slice D1 b1.length d1, .bool s2, .slice A2 a2.length c2, .slice D2 b2.length d2] 26) := ⟨_, rfl⟩
  have i0 := kk0.1.cell 0
  have i1 := kk0.1.cell 1
  have i2 := kk0.1.cell 2
  have i3 := kk0.1.cell 3
  have i4 := kk0.1.cell 4
  have i5 := kk0.1.cell 5
  simp only [hk] at hC
  clear hk
  have hU := fun w' h => rup_any A1 c1 a1.length a1 w' n (by omega) rfl h (by omega)
  unfold RetW at hU
  obtain ⟨u0, hu0⟩ : ∃ u0, Hid (digs (val a1 * 2 ^ n) = u0) := ⟨_, rfl⟩
  rw [hu0.out] at hU
  have hul : u0.length ≤ 1100 := by
    rw [← hu0.out]
    have h1 := digs_mul (val a1) (2 ^ n)
    have h2 : (digs (val a1)).length ≤ 512 := Nat.le_trans (digs_len_le.2 (Nat.lt_of_lt_of_le (val_lt p1.2) (Wp_mono lx))) (Nat.le_refl _)
    have h3 : (digs (2 ^ n)).length ≤ 513 := digs_pow (by omega)
    omega
  have hXs : X = sgn s1 (val a1) := by rw [show s1 = decide (X < 0) from congrArg Rw.s hX.out, show a1 = digs X.natAbs from congrArg Rw.a hX.out, val_digs]; unfold sgn; by_cases h : X < 0 <;> simp [h] <;> omega
  have hv0 : val a1 = 0 → s1 = false := fun h => by
    rw [show s1 = decide (X < 0) from congrArg Rw.s hX.out]
    rw [h] at hXs
    have : X = 0 := by rw [hXs]; unfold sgn; split <;> rfl
    rw [this]; rfl
  have hZ : X * ((2 ^ n : Nat) : Int) = sgn s1 (val a1 * 2 ^ n) := by
    rw [hXs]; unfold sgn
    split
    · rw [Int.neg_mul, Int.natCast_mul]
    · rw [Int.natCast_mul]
  have hF : Hid ((512 < u0.length → fitQ (((X * ((2 ^ n : Nat) : Int) : Int)) : Rat) 0 = (rw0, rw0, 4)) ∧ (u0.length ≤ 512 → fitQ (((X * ((2 ^ n : Nat) : Int) : Int)) : Rat) 0 = (⟨s1, u0, [1]⟩, ⟨false, [], [1]⟩, 0))) := by
    rw [hZ, ← hu0.out]
    exact ⟨fun h => fit_big h, fun h => fit_int (fun h0 => hv0 ((Nat.mul_eq_zero.1 h0).resolve_right (Nat.ne_of_gt (Nat.pow_pos (by omega))))) h⟩
  clear hZ hXs hv0
  have t1 : ¬ (n : Int) < -16384 := by omega
  have t2 : ¬ (16384 : Int) < (n : Int) := by omega
  have t3 : (0 : Int) ≤ (n : Int) := by omega
  go_enter Try.func19, Try.ntmps19
  go_wp2_with fail
  rw [← hW] at kk1 SG BW ⊢
  clear hW kk0 i0 i1 i2 i3 i4 i5
  refine (hC W SG (st p1 BW) (st p2 BW) (st p3 BW) (st p4 BW)).mono ?_; rintro e w5 ⟨rfl, B5⟩
  clear hC
  have kk5 := kk1.nx B5
  have BB := kk5.2.2
  go_upto_region 6 with fail
  go_cut [7] (fun s7 wx => ∃ (g gB : Nat) (D : Option Addr) (d : Nat), s7 = .pointer (some ⟨g, 0, none⟩) ∧ SB wx g [.bool s1, .slice none 0 0, .slice (some ⟨gB, 0, none⟩) 1 1, .bool false, .slice none 0 0, .slice D 1 d] ∧ OW wx (w.heap.size + 2) (some ⟨gB, 0, none⟩) 1 [1] ∧ OW wx (w.heap.size + 2) D d [1] ∧ S2 w w.heap.size [.bool s1, .slice A1 a1.length c1, .slice D1 b1.length d1, .bool s2, .slice A2 a2.length c2, .slice D2 b2.length d2] 6 wx ∧ w.heap.size + 1 < g ∧ gB ≠ g ∧ (∀ g', D = some ⟨g', 0, none⟩ → g' ≠ g))
  case first =>
    have Bd : Below w5.heap.size w5 w5.drew := Below.drew (Below.refl _ _)
    have kkd := kk5.nx Bd
    have hz5 : w.heap.size + 1 < w5.heap.size := kk5.2.1.2
    refine AnyU.regionQ 8 9 (fun w' => w'.cell? ⟨w.heap.size, 0, none⟩ = some (.bool s1)) rfl (by kernel_rfl) (by kernel_rfl) (by repeat (first | refine quiet_then ?_ | refine quiet_block ?_ | exact quiet_body)) (kkd.1.cell 0) (fun Q hQK hq hns hHeld => ?_)
    generalize w5.drew = v0 at *
    refine AnyU.next (i := 0) (v := ?_) hq hns hHeld rfl rfl (by kernel_rfl) (Or.inl ⟨by rfl, ?_⟩) ?_
    rotate_left
    · intro w' hSw; (try dsimp only at hSw); go_simp <;> with_reducible rfl
    try simp only [List.setIfInBounds_toArray, List.set_cons_zero, List.set_cons_succ]
    refine AnyU.next (i := 1) (v := ?_) hq hns hHeld rfl rfl (by kernel_rfl) (Or.inl ⟨by rfl, ?_⟩) ?_
    rotate_left
    · intro w' hSw; (try dsimp only at hSw); go_simp <;> with_reducible rfl
    try simp only [List.setIfInBounds_toArray, List.set_cons_zero, List.set_cons_succ]
    refine AnyU.next (i := 2) (v := ?_) hq hns hHeld rfl rfl (by kernel_rfl) (Or.inl ⟨by rfl, ?_⟩) ?_
    rotate_left
    · intro w' hSw; (try dsimp only at hSw); go_simp <;> with_reducible rfl
    try simp only [List.setIfInBounds_toArray, List.set_cons_zero, List.set_cons_succ]
    refine AnyU.three (i := 3) (j := 5) (m := 7) (by kernel_rfl) (USome.mk rfl (fun K hK => ?_)) (USome.mk rfl (fun K hK => ?_)) (USome.mk rfl (fun K hK => ?_))
    · go_simp
      have hzz : w.heap.size + 1 < v0.heap.size := kkd.2.1.2
      have L := bal v0 (.cells #[.int .u32 (1 : Int)] 46)
      have kkd := kkd.nx L
      have OB : OW (v0.alloc (.cells #[.int .u32 (1 : Int)] 46)) (w.heap.size + 2) (some ⟨v0.heap.size, 0, none⟩) 1 [1] := (OW.lit v0 [1] (by simp) (by rw [← digs_one1]; exact B32_digs 1)).base_le hzz
      obtain ⟨gB, hgBe⟩ : ∃ g, g = v0.heap.size := ⟨_, rfl⟩
      rw [← hgBe] at OB ⊢
      have hBl : gB < _ := OB.lt.2
      refine hK.out _ _ (.inr (kkd.1.cell 0)) (fun hHeld => ?_)
      have hHeld := hHeld.resolve_left (by decide)
      clear hK K
      try simp only [List.setIfInBounds_toArray, List.set_cons_zero, List.set_cons_succ]
      obtain ⟨v1, hv⟩ : ∃ v, v = v0.alloc (.cells #[.int .u32 (1 : Int)] 46) := ⟨_, rfl⟩
      rw [← hv] at kkd OB hHeld hBl  ⊢
      clear hv L hgBe
      refine AnyU.next (i := 4) (v := ?_) hq hns hHeld rfl rfl (by kernel_rfl) (Or.inl ⟨by rfl, ?_⟩) ?_
      rotate_left
      · intro w' hSw; (try dsimp only at hSw); go_simp <;> with_reducible rfl
      try simp only [List.setIfInBounds_toArray, List.set_cons_zero, List.set_cons_succ]
      refine AnyU.two (i := 5) (j := 7) (by kernel_rfl) (USome.mk rfl (fun K hK => ?_)) (USome.mk rfl (fun K hK => ?_))
      · go_simp
        have hzz : w.heap.size + 1 < v1.heap.size := kkd.2.1.2
        refine (rzero_any v1).mono ?_; rintro e v2 ⟨D, d, rfl, OD, L⟩
        go_wp2_with fail
        have kkd := kkd.nx L
        have OB := OB.below L (Nat.le_refl _)
        have hDb := OD.bet
        have hDl : ∀ g', D = some ⟨g', 0, none⟩ → g' < v2.heap.size := fun g' hA => (OD.bet g' hA).2
        have OD := OD.base_le (B := w.heap.size + 2) hzz
        refine hK.out _ _ (.inr (kkd.1.cell 0)) (fun hHeld => ?_)
        have hHeld := hHeld.resolve_left (by decide)
        clear hK K
        try simp only [List.setIfInBounds_toArray, List.set_cons_zero, List.set_cons_succ]
        have hBl := Nat.lt_of_lt_of_le hBl L.size
        clear L
        refine AnyU.next (i := 6) (v := ?_) hq hns hHeld rfl rfl (by kernel_rfl) (Or.inl ⟨by rfl, ?_⟩) ?_
        rotate_left
        · intro w' hSw; (try dsimp only at hSw); go_simp <;> with_reducible rfl
        try simp only [List.setIfInBounds_toArray, List.set_cons_zero, List.set_cons_succ]
        refine AnyU.one 7 (by kernel_rfl) rfl (fun K hK => ?_)
        go_simp
        have hzz : w.heap.size + 1 < v2.heap.size := kkd.2.1.2
        have L := bal v2 (.cells #[.bool false, .slice none 0 0, .slice none 0 0, .bool false, .slice none 0 0, .slice none 0 0] 26)
        have kkd := kkd.nx L
        have OB := OB.below L (Nat.le_refl _)
        have OD := OD.below L (Nat.le_refl _)
        have Sx := SB.new v2 [.bool false, .slice none 0 0, .slice none 0 0, .bool false, .slice none 0 0, .slice none 0 0] 26
        obtain ⟨g, hge⟩ : ∃ g, g = v2.heap.size := ⟨_, rfl⟩
        rw [← hge] at Sx ⊢
        have hgr : w.heap.size + 1 < g := by omega
        have hgB : gB ≠ g := by have := hBl; omega
        have hDg : ∀ g', D = some ⟨g', 0, none⟩ → g' ≠ g := fun g' hA => by have := hDl g' hA; omega
        have hgl : g < _ := Sx.2
        refine hK.out _ _ (.inr (kkd.1.cell 0)) (fun hHeld => ?_)
        have hHeld := hHeld.resolve_left (by decide)
        clear hK K
        try simp only [List.setIfInBounds_toArray, List.set_cons_zero, List.set_cons_succ]
        obtain ⟨v3, hv⟩ : ∃ v, v = v2.alloc (.cells #[.bool false, .slice none 0 0, .slice none 0 0, .bool false, .slice none 0 0, .slice none 0 0] 26) := ⟨_, rfl⟩
        rw [← hv] at kkd Sx hHeld hgl OB OD ⊢
        have hBl := Nat.lt_trans hBl (show v2.heap.size < v3.heap.size by rw [hv]; simp)
        have hDl := fun g' hA => Nat.lt_trans (hDl g' hA) (show v2.heap.size < v3.heap.size by rw [hv]; simp)
        clear hv L hge
        have f0 := Sx.frozen 0
        have f1 := Sx.frozen 1
        have f2 := Sx.frozen 2
        have f3 := Sx.frozen 3
        have f4 := Sx.frozen 4
        have f5 := Sx.frozen 5
        have j0 := Sx.cell 0
        have j1 := Sx.cell 1
        have j2 := Sx.cell 2
        have j3 := Sx.cell 3
        have j4 := Sx.cell 4
        have j5 := Sx.cell 5
        refine AnyU.one 8 (by kernel_rfl) rfl (fun K hK => ?_)
        go_simp
        refine hK.out _ _ (.inl rfl) (fun _ => ?_)
        clear hK K hHeld
        try simp only [List.setIfInBounds_toArray, List.set_cons_zero, List.set_cons_succ]
        clear f0 f1 f2 f3 f4 f5 j0 j1 j2 j3 j4 j5
        refine AnyU.done (by kernel_rfl) (hQK.out _ _ ?_)
        clear hQK hq hns
        have Sx := Sx.put6x (.bool s1) (.slice none 0 0) (.slice (some ⟨gB, 0, none⟩) 1 1) (.bool false) (.slice none 0 0) (.slice D 1 d)
        have OB := OB.putg (b := g) hgB (.bool s1) (.slice none 0 0) (.slice (some ⟨gB, 0, none⟩) 1 1) (.bool false) (.slice none 0 0) (.slice D 1 d)
        have OD := OD.far6 (b := g) hDg (.bool s1) (.slice none 0 0) (.slice (some ⟨gB, 0, none⟩) 1 1) (.bool false) (.slice none 0 0) (.slice D 1 d)
        have kkd := kkd.put6g hgr (.bool s1) (.slice none 0 0) (.slice (some ⟨gB, 0, none⟩) 1 1) (.bool false) (.slice none 0 0) (.slice D 1 d)
        obtain ⟨w9, hw9⟩ : ∃ w9, w9 = wr6 v3 g (.bool s1) (.slice none 0 0) (.slice (some ⟨gB, 0, none⟩) 1 1) (.bool false) (.slice none 0 0) (.slice D 1 d) := ⟨_, rfl⟩
        have hw9' := hw9
        unfold wr6 wr3 at hw9'
        rw [← hw9']
        rw [← hw9] at Sx OB OD kkd
        clear hw9 hw9'
        go_wp2_with fail
        go_meet
        exact ⟨g, gB, D, d, rfl, Sx, OB, OD, kkd, hgr, hgB, hDg⟩
      · go_simp
        have hzz : w.heap.size + 1 < v1.heap.size := kkd.2.1.2
        have L := bal v1 (.cells #[.bool false, .slice none 0 0, .slice none 0 0, .bool false, .slice none 0 0, .slice none 0 0] 26)
        have kkd := kkd.nx L
        have OB := OB.below L (Nat.le_refl _)
        have Sx := SB.new v1 [.bool false, .slice none 0 0, .slice none 0 0, .bool false, .slice none 0 0, .slice none 0 0] 26
        obtain ⟨g, hge⟩ : ∃ g, g = v1.heap.size := ⟨_, rfl⟩
        rw [← hge] at Sx ⊢
        have hgr : w.heap.size + 1 < g := by omega
        have hgB : gB ≠ g := by have := hBl; omega
        have hgl : g < _ := Sx.2
        refine hK.out _ _ (.inr (kkd.1.cell 0)) (fun hHeld => ?_)
        have hHeld := hHeld.resolve_left (by decide)
        clear hK K
        try simp only [List.setIfInBounds_toArray, List.set_cons_zero, List.set_cons_succ]
        obtain ⟨v2, hv⟩ : ∃ v, v = v1.alloc (.cells #[.bool false, .slice none 0 0, .slice none 0 0, .bool false, .slice none 0 0, .slice none 0 0] 26) := ⟨_, rfl⟩
        rw [← hv] at kkd Sx hHeld hgl OB ⊢
        have hBl := Nat.lt_trans hBl (show v1.heap.size < v2.heap.size by rw [hv]; simp)
        clear hv L hge
        refine AnyU.one 5 (by kernel_rfl) rfl (fun K hK => ?_)
        go_simp
        have hzz : w.heap.size + 1 < v2.heap.size := kkd.2.1.2
        refine (rzero_any v2).mono ?_; rintro e v3 ⟨D, d, rfl, OD, L⟩
        go_wp2_with fail
        have kkd := kkd.nx L
        have OB := OB.below L (Nat.le_refl _)
        have Sx := Sx.nx L
        have hDb := OD.bet
        have hDl : ∀ g', D = some ⟨g', 0, none⟩ → g' < v3.heap.size := fun g' hA => (OD.bet g' hA).2
        have OD := OD.base_le (B := w.heap.size + 2) hzz
        have hDg : ∀ g', D = some ⟨g', 0, none⟩ → g' ≠ g := fun g' hA => by have := hDb g' hA; have := hgl; omega
        refine hK.out _ _ (.inr (kkd.1.cell 0)) (fun hHeld => ?_)
        have hHeld := hHeld.resolve_left (by decide)
        clear hK K
        try simp only [List.setIfInBounds_toArray, List.set_cons_zero, List.set_cons_succ]
        have hgl := Nat.lt_of_lt_of_le hgl L.size
        have hBl := Nat.lt_of_lt_of_le hBl L.size
        clear L
        refine AnyU.next (i := 6) (v := ?_) hq hns hHeld rfl rfl (by kernel_rfl) (Or.inl ⟨by rfl, ?_⟩) ?_
        rotate_left
        · intro w' hSw; (try dsimp only at hSw); go_simp <;> with_reducible rfl
        try simp only [List.setIfInBounds_toArray, List.set_cons_zero, List.set_cons_succ]
        have f0 := Sx.frozen 0
        have f1 := Sx.frozen 1
        have f2 := Sx.frozen 2
        have f3 := Sx.frozen 3
        have f4 := Sx.frozen 4
        have f5 := Sx.frozen 5
        have j0 := Sx.cell 0
        have j1 := Sx.cell 1
        have j2 := Sx.cell 2
        have j3 := Sx.cell 3
        have j4 := Sx.cell 4
        have j5 := Sx.cell 5
        refine AnyU.one 8 (by kernel_rfl) rfl (fun K hK => ?_)
        go_simp
        refine hK.out _ _ (.inl rfl) (fun _ => ?_)
        clear hK K hHeld
        try simp only [List.setIfInBounds_toArray, List.set_cons_zero, List.set_cons_succ]
        clear f0 f1 f2 f3 f4 f5 j0 j1 j2 j3 j4 j5
        refine AnyU.done (by kernel_rfl) (hQK.out _ _ ?_)
        clear hQK hq hns
        have Sx := Sx.put6x (.bool s1) (.slice none 0 0) (.slice (some ⟨gB, 0, none⟩) 1 1) (.bool false) (.slice none 0 0) (.slice D 1 d)
        have OB := OB.putg (b := g) hgB (.bool s1) (.slice none 0 0) (.slice (some ⟨gB, 0, none⟩) 1 1) (.bool false) (.slice none 0 0) (.slice D 1 d)
        have OD := OD.far6 (b := g) hDg (.bool s1) (.slice none 0 0) (.slice (some ⟨gB, 0, none⟩) 1 1) (.bool false) (.slice none 0 0) (.slice D 1 d)
        have kkd := kkd.put6g hgr (.bool s1) (.slice none 0 0) (.slice (some ⟨gB, 0, none⟩) 1 1) (.bool false) (.slice none 0 0) (.slice D 1 d)
        obtain ⟨w9, hw9⟩ : ∃ w9, w9 = wr6 v3 g (.bool s1) (.slice none 0 0) (.slice (some ⟨gB, 0, none⟩) 1 1) (.bool false) (.slice none 0 0) (.slice D 1 d) := ⟨_, rfl⟩
        have hw9' := hw9
        unfold wr6 wr3 at hw9'
        rw [← hw9']
        rw [← hw9] at Sx OB OD kkd
        clear hw9 hw9'
        go_wp2_with fail
        go_meet
        exact ⟨g, gB, D, d, rfl, Sx, OB, OD, kkd, hgr, hgB, hDg⟩
    · go_simp
      have hzz : w.heap.size + 1 < v0.heap.size := kkd.2.1.2
      refine (rzero_any v0).mono ?_; rintro e v1 ⟨D, d, rfl, OD, L⟩
      go_wp2_with fail
      have kkd := kkd.nx L
      have hDb := OD.bet
      have hDl : ∀ g', D = some ⟨g', 0, none⟩ → g' < v1.heap.size := fun g' hA => (OD.bet g' hA).2
      have OD := OD.base_le (B := w.heap.size + 2) hzz
      refine hK.out _ _ (.inr (kkd.1.cell 0)) (fun hHeld => ?_)
      have hHeld := hHeld.resolve_left (by decide)
      clear hK K
      try simp only [List.setIfInBounds_toArray, List.set_cons_zero, List.set_cons_succ]
      clear L
      refine AnyU.two (i := 3) (j := 7) (by kernel_rfl) (USome.mk rfl (fun K hK => ?_)) (USome.mk rfl (fun K hK => ?_))
      · go_simp
        have hzz : w.heap.size + 1 < v1.heap.size := kkd.2.1.2
        have L := bal v1 (.cells #[.int .u32 (1 : Int)] 46)
        have kkd := kkd.nx L
        have OD := OD.below L (Nat.le_refl _)
        have OB : OW (v1.alloc (.cells #[.int .u32 (1 : Int)] 46)) (w.heap.size + 2) (some ⟨v1.heap.size, 0, none⟩) 1 [1] := (OW.lit v1 [1] (by simp) (by rw [← digs_one1]; exact B32_digs 1)).base_le hzz
        obtain ⟨gB, hgBe⟩ : ∃ g, g = v1.heap.size := ⟨_, rfl⟩
        rw [← hgBe] at OB ⊢
        have hBl : gB < _ := OB.lt.2
        refine hK.out _ _ (.inr (kkd.1.cell 0)) (fun hHeld => ?_)
        have hHeld := hHeld.resolve_left (by decide)
        clear hK K
        try simp only [List.setIfInBounds_toArray, List.set_cons_zero, List.set_cons_succ]
        obtain ⟨v2, hv⟩ : ∃ v, v = v1.alloc (.cells #[.int .u32 (1 : Int)] 46) := ⟨_, rfl⟩
        rw [← hv] at kkd OB hHeld hBl OD ⊢
        have hDl := fun g' hA => Nat.lt_trans (hDl g' hA) (show v1.heap.size < v2.heap.size by rw [hv]; simp)
        clear hv L hgBe
        refine AnyU.next (i := 4) (v := ?_) hq hns hHeld rfl rfl (by kernel_rfl) (Or.inl ⟨by rfl, ?_⟩) ?_
        rotate_left
        · intro w' hSw; (try dsimp only at hSw); go_simp <;> with_reducible rfl
        try simp only [List.setIfInBounds_toArray, List.set_cons_zero, List.set_cons_succ]
        refine AnyU.next (i := 6) (v := ?_) hq hns hHeld rfl rfl (by kernel_rfl) (Or.inl ⟨by rfl, ?_⟩) ?_
        rotate_left
        · intro w' hSw; (try dsimp only at hSw); go_simp <;> with_reducible rfl
        try simp only [List.setIfInBounds_toArray, List.set_cons_zero, List.set_cons_succ]
        refine AnyU.one 7 (by kernel_rfl) rfl (fun K hK => ?_)
        go_simp
        have hzz : w.heap.size + 1 < v2.heap.size := kkd.2.1.2
        have L := bal v2 (.cells #[.bool false, .slice none 0 0, .slice none 0 0, .bool false, .slice none 0 0, .slice none 0 0] 26)
        have kkd := kkd.nx L
        have OB := OB.below L (Nat.le_refl _)
        have OD := OD.below L (Nat.le_refl _)
        have Sx := SB.new v2 [.bool false, .slice none 0 0, .slice none 0 0, .bool false, .slice none 0 0, .slice none 0 0] 26
        obtain ⟨g, hge⟩ : ∃ g, g = v2.heap.size := ⟨_, rfl⟩
        rw [← hge] at Sx ⊢
        have hgr : w.heap.size + 1 < g := by omega
        have hgB : gB ≠ g := by have := hBl; omega
        have hDg : ∀ g', D = some ⟨g', 0, none⟩ → g' ≠ g := fun g' hA => by have := hDl g' hA; omega
        have hgl : g < _ := Sx.2
        refine hK.out _ _ (.inr (kkd.1.cell 0)) (fun hHeld => ?_)
        have hHeld := hHeld.resolve_left (by decide)
        clear hK K
        try simp only [List.setIfInBounds_toArray, List.set_cons_zero, List.set_cons_succ]
        obtain ⟨v3, hv⟩ : ∃ v, v = v2.alloc (.cells #[.bool false, .slice none 0 0, .slice none 0 0, .bool false, .slice none 0 0, .slice none 0 0] 26) := ⟨_, rfl⟩
        rw [← hv] at kkd Sx hHeld hgl OB OD ⊢
        have hBl := Nat.lt_trans hBl (show v2.heap.size < v3.heap.size by rw [hv]; simp)
        have hDl := fun g' hA => Nat.lt_trans (hDl g' hA) (show v2.heap.size < v3.heap.size by rw [hv]; simp)
        clear hv L hge
        have f0 := Sx.frozen 0
        have f1 := Sx.frozen 1
        have f2 := Sx.frozen 2
        have f3 := Sx.frozen 3
        have f4 := Sx.frozen 4
        have f5 := Sx.frozen 5
        have j0 := Sx.cell 0
        have j1 := Sx.cell 1
        have j2 := Sx.cell 2
        have j3 := Sx.cell 3
        have j4 := Sx.cell 4
        have j5 := Sx.cell 5
        refine AnyU.one 8 (by kernel_rfl) rfl (fun K hK => ?_)
        go_simp
        refine hK.out _ _ (.inl rfl) (fun _ => ?_)
        clear hK K hHeld
        try simp only [List.setIfInBounds_toArray, List.set_cons_zero, List.set_cons_succ]
        clear f0 f1 f2 f3 f4 f5 j0 j1 j2 j3 j4 j5
        refine AnyU.done (by kernel_rfl) (hQK.out _ _ ?_)
        clear hQK hq hns
        have Sx := Sx.put6x (.bool s1) (.slice none 0 0) (.slice (some ⟨gB, 0, none⟩) 1 1) (.bool false) (.slice none 0 0) (.slice D 1 d)
        have OB := OB.putg (b := g) hgB (.bool s1) (.slice none 0 0) (.slice (some ⟨gB, 0, none⟩) 1 1) (.bool false) (.slice none 0 0) (.slice D 1 d)
        have OD := OD.far6 (b := g) hDg (.bool s1) (.slice none 0 0) (.slice (some ⟨gB, 0, none⟩) 1 1) (.bool false) (.slice none 0 0) (.slice D 1 d)
        have kkd := kkd.put6g hgr (.bool s1) (.slice none 0 0) (.slice (some ⟨gB, 0, none⟩) 1 1) (.bool false) (.slice none 0 0) (.slice D 1 d)
        obtain ⟨w9, hw9⟩ : ∃ w9, w9 = wr6 v3 g (.bool s1) (.slice none 0 0) (.slice (some ⟨gB, 0, none⟩) 1 1) (.bool false) (.slice none 0 0) (.slice D 1 d) := ⟨_, rfl⟩
        have hw9' := hw9
        unfold wr6 wr3 at hw9'
        rw [← hw9']
        rw [← hw9] at Sx OB OD kkd
        clear hw9 hw9'
        go_wp2_with fail
        go_meet
        exact ⟨g, gB, D, d, rfl, Sx, OB, OD, kkd, hgr, hgB, hDg⟩
      · go_simp
        have hzz : w.heap.size + 1 < v1.heap.size := kkd.2.1.2
        have L := bal v1 (.cells #[.bool false, .slice none 0 0, .slice none 0 0, .bool false, .slice none 0 0, .slice none 0 0] 26)
        have kkd := kkd.nx L
        have OD := OD.below L (Nat.le_refl _)
        have Sx := SB.new v1 [.bool false, .slice none 0 0, .slice none 0 0, .bool false, .slice none 0 0, .slice none 0 0] 26
        obtain ⟨g, hge⟩ : ∃ g, g = v1.heap.size := ⟨_, rfl⟩
        rw [← hge] at Sx ⊢
        have hgr : w.heap.size + 1 < g := by omega
        have hDg : ∀ g', D = some ⟨g', 0, none⟩ → g' ≠ g := fun g' hA => by have := hDl g' hA; omega
        have hgl : g < _ := Sx.2
        refine hK.out _ _ (.inr (kkd.1.cell 0)) (fun hHeld => ?_)
        have hHeld := hHeld.resolve_left (by decide)
        clear hK K
        try simp only [List.setIfInBounds_toArray, List.set_cons_zero, List.set_cons_succ]
        obtain ⟨v2, hv⟩ : ∃ v, v = v1.alloc (.cells #[.bool false, .slice none 0 0, .slice none 0 0, .bool false, .slice none 0 0, .slice none 0 0] 26) := ⟨_, rfl⟩
        rw [← hv] at kkd Sx hHeld hgl OD ⊢
        have hDl := fun g' hA => Nat.lt_trans (hDl g' hA) (show v1.heap.size < v2.heap.size by rw [hv]; simp)
        clear hv L hge
        refine AnyU.one 3 (by kernel_rfl) rfl (fun K hK => ?_)
        go_simp
        have hzz : w.heap.size + 1 < v2.heap.size := kkd.2.1.2
        have L := bal v2 (.cells #[.int .u32 (1 : Int)] 46)
        have kkd := kkd.nx L
        have OD := OD.below L (Nat.le_refl _)
        have Sx := Sx.nx L
        have OB : OW (v2.alloc (.cells #[.int .u32 (1 : Int)] 46)) (w.heap.size + 2) (some ⟨v2.heap.size, 0, none⟩) 1 [1] := (OW.lit v2 [1] (by simp) (by rw [← digs_one1]; exact B32_digs 1)).base_le hzz
        obtain ⟨gB, hgBe⟩ : ∃ g, g = v2.heap.size := ⟨_, rfl⟩
        rw [← hgBe] at OB ⊢
        have hgB : gB ≠ g := by have := hgl; omega
        have hBl : gB < _ := OB.lt.2
        refine hK.out _ _ (.inr (kkd.1.cell 0)) (fun hHeld => ?_)
        have hHeld := hHeld.resolve_left (by decide)
        clear hK K
        try simp only [List.setIfInBounds_toArray, List.set_cons_zero, List.set_cons_succ]
        obtain ⟨v3, hv⟩ : ∃ v, v = v2.alloc (.cells #[.int .u32 (1 : Int)] 46) := ⟨_, rfl⟩
        rw [← hv] at kkd OB hHeld hBl OD Sx ⊢
        have hgl := Nat.lt_trans hgl (show v2.heap.size < v3.heap.size by rw [hv]; simp)
        have hDl := fun g' hA => Nat.lt_trans (hDl g' hA) (show v2.heap.size < v3.heap.size by rw [hv]; simp)
        clear hv L hgBe
        refine AnyU.next (i := 4) (v := ?_) hq hns hHeld rfl rfl (by kernel_rfl) (Or.inl ⟨by rfl, ?_⟩) ?_
        rotate_left
        · intro w' hSw; (try dsimp only at hSw); go_simp <;> with_reducible rfl
        try simp only [List.setIfInBounds_toArray, List.set_cons_zero, List.set_cons_succ]
        refine AnyU.next (i := 6) (v := ?_) hq hns hHeld rfl rfl (by kernel_rfl) (Or.inl ⟨by rfl, ?_⟩) ?_
        rotate_left
        · intro w' hSw; (try dsimp only at hSw); go_simp <;> with_reducible rfl
        try simp only [List.setIfInBounds_toArray, List.set_cons_zero, List.set_cons_succ]
        have f0 := Sx.frozen 0
        have f1 := Sx.frozen 1
        have f2 := Sx.frozen 2
        have f3 := Sx.frozen 3
        have f4 := Sx.frozen 4
        have f5 := Sx.frozen 5
        have j0 := Sx.cell 0
        have j1 := Sx.cell 1
        have j2 := Sx.cell 2
        have j3 := Sx.cell 3
        have j4 := Sx.cell 4
        have j5 := Sx.cell 5
        refine AnyU.one 8 (by kernel_rfl) rfl (fun K hK => ?_)
        go_simp
        refine hK.out _ _ (.inl rfl) (fun _ => ?_)
        clear hK K hHeld
        try simp only [List.setIfInBounds_toArray, List.set_cons_zero, List.set_cons_succ]
        clear f0 f1 f2 f3 f4 f5 j0 j1 j2 j3 j4 j5
        refine AnyU.done (by kernel_rfl) (hQK.out _ _ ?_)
        clear hQK hq hns
        have Sx := Sx.put6x (.bool s1) (.slice none 0 0) (.slice (some ⟨gB, 0, none⟩) 1 1) (.bool false) (.slice none 0 0) (.slice D 1 d)
        have OB := OB.putg (b := g) hgB (.bool s1) (.slice none 0 0) (.slice (some ⟨gB, 0, none⟩) 1 1) (.bool false) (.slice none 0 0) (.slice D 1 d)
        have OD := OD.far6 (b := g) hDg (.bool s1) (.slice none 0 0) (.slice (some ⟨gB, 0, none⟩) 1 1) (.bool false) (.slice none 0 0) (.slice D 1 d)
        have kkd := kkd.put6g hgr (.bool s1) (.slice none 0 0) (.slice (some ⟨gB, 0, none⟩) 1 1) (.bool false) (.slice none 0 0) (.slice D 1 d)
        obtain ⟨w9, hw9⟩ : ∃ w9, w9 = wr6 v3 g (.bool s1) (.slice none 0 0) (.slice (some ⟨gB, 0, none⟩) 1 1) (.bool false) (.slice none 0 0) (.slice D 1 d) := ⟨_, rfl⟩
        have hw9' := hw9
        unfold wr6 wr3 at hw9'
        rw [← hw9']
        rw [← hw9] at Sx OB OD kkd
        clear hw9 hw9'
        go_wp2_with fail
        go_meet
        exact ⟨g, gB, D, d, rfl, Sx, OB, OD, kkd, hgr, hgB, hDg⟩
    · go_simp
      have hzz : w.heap.size + 1 < v0.heap.size := kkd.2.1.2
      have L := bal v0 (.cells #[.bool false, .slice none 0 0, .slice none 0 0, .bool false, .slice none 0 0, .slice none 0 0] 26)
      have kkd := kkd.nx L
      have Sx := SB.new v0 [.bool false, .slice none 0 0, .slice none 0 0, .bool false, .slice none 0 0, .slice none 0 0] 26
      obtain ⟨g, hge⟩ : ∃ g, g = v0.heap.size := ⟨_, rfl⟩
      rw [← hge] at Sx ⊢
      have hgr : w.heap.size + 1 < g := by omega
      have hgl : g < _ := Sx.2
      refine hK.out _ _ (.inr (kkd.1.cell 0)) (fun hHeld => ?_)
      have hHeld := hHeld.resolve_left (by decide)
      clear hK K
      try simp only [List.setIfInBounds_toArray, List.set_cons_zero, List.set_cons_succ]
      obtain ⟨v1, hv⟩ : ∃ v, v = v0.alloc (.cells #[.bool false, .slice none 0 0, .slice none 0 0, .bool false, .slice none 0 0, .slice none 0 0] 26) := ⟨_, rfl⟩
      rw [← hv] at kkd Sx hHeld hgl  ⊢
      clear hv L hge
      refine AnyU.two (i := 3) (j := 5) (by kernel_rfl) (USome.mk rfl (fun K hK => ?_)) (USome.mk rfl (fun K hK => ?_))
      · go_simp
        have hzz : w.heap.size + 1 < v1.heap.size := kkd.2.1.2
        have L := bal v1 (.cells #[.int .u32 (1 : Int)] 46)
        have kkd := kkd.nx L
        have Sx := Sx.nx L
        have OB : OW (v1.alloc (.cells #[.int .u32 (1 : Int)] 46)) (w.heap.size + 2) (some ⟨v1.heap.size, 0, none⟩) 1 [1] := (OW.lit v1 [1] (by simp) (by rw [← digs_one1]; exact B32_digs 1)).base_le hzz
        obtain ⟨gB, hgBe⟩ : ∃ g, g = v1.heap.size := ⟨_, rfl⟩
        rw [← hgBe] at OB ⊢
        have hgB : gB ≠ g := by have := hgl; omega
        have hBl : gB < _ := OB.lt.2
        refine hK.out _ _ (.inr (kkd.1.cell 0)) (fun hHeld => ?_)
        have hHeld := hHeld.resolve_left (by decide)
        clear hK K
        try simp only [List.setIfInBounds_toArray, List.set_cons_zero, List.set_cons_succ]
        obtain ⟨v2, hv⟩ : ∃ v, v = v1.alloc (.cells #[.int .u32 (1 : Int)] 46) := ⟨_, rfl⟩
        rw [← hv] at kkd OB hHeld hBl Sx ⊢
        have hgl := Nat.lt_trans hgl (show v1.heap.size < v2.heap.size by rw [hv]; simp)
        clear hv L hgBe
        refine AnyU.next (i := 4) (v := ?_) hq hns hHeld rfl rfl (by kernel_rfl) (Or.inl ⟨by rfl, ?_⟩) ?_
        rotate_left
        · intro w' hSw; (try dsimp only at hSw); go_simp <;> with_reducible rfl
        try simp only [List.setIfInBounds_toArray, List.set_cons_zero, List.set_cons_succ]
        refine AnyU.one 5 (by kernel_rfl) rfl (fun K hK => ?_)
        go_simp
        have hzz : w.heap.size + 1 < v2.heap.size := kkd.2.1.2
        refine (rzero_any v2).mono ?_; rintro e v3 ⟨D, d, rfl, OD, L⟩
        go_wp2_with fail
        have kkd := kkd.nx L
        have OB := OB.below L (Nat.le_refl _)
        have Sx := Sx.nx L
        have hDb := OD.bet
        have hDl : ∀ g', D = some ⟨g', 0, none⟩ → g' < v3.heap.size := fun g' hA => (OD.bet g' hA).2
        have OD := OD.base_le (B := w.heap.size + 2) hzz
        have hDg : ∀ g', D = some ⟨g', 0, none⟩ → g' ≠ g := fun g' hA => by have := hDb g' hA; have := hgl; omega
        refine hK.out _ _ (.inr (kkd.1.cell 0)) (fun hHeld => ?_)
        have hHeld := hHeld.resolve_left (by decide)
        clear hK K
        try simp only [List.setIfInBounds_toArray, List.set_cons_zero, List.set_cons_succ]
        have hgl := Nat.lt_of_lt_of_le hgl L.size
        have hBl := Nat.lt_of_lt_of_le hBl L.size
        clear L
        refine AnyU.next (i := 6) (v := ?_) hq hns hHeld rfl rfl (by kernel_rfl) (Or.inl ⟨by rfl, ?_⟩) ?_
        rotate_left
        · intro w' hSw; (try dsimp only at hSw); go_simp <;> with_reducible rfl
        try simp only [List.setIfInBounds_toArray, List.set_cons_zero, List.set_cons_succ]
        have f0 := Sx.frozen 0
        have f1 := Sx.frozen 1
        have f2 := Sx.frozen 2
        have f3 := Sx.frozen 3
        have f4 := Sx.frozen 4
        have f5 := Sx.frozen 5
        have j0 := Sx.cell 0
        have j1 := Sx.cell 1
        have j2 := Sx.cell 2
        have j3 := Sx.cell 3
        have j4 := Sx.cell 4
        have j5 := Sx.cell 5
        refine AnyU.one 8 (by kernel_rfl) rfl (fun K hK => ?_)
        go_simp
        refine hK.out _ _ (.inl rfl) (fun _ => ?_)
        clear hK K hHeld
        try simp only [List.setIfInBounds_toArray, List.set_cons_zero, List.set_cons_succ]
        clear f0 f1 f2 f3 f4 f5 j0 j1 j2 j3 j4 j5
        refine AnyU.done (by kernel_rfl) (hQK.out _ _ ?_)
        clear hQK hq hns
        have Sx := Sx.put6x (.bool s1) (.slice none 0 0) (.slice (some ⟨gB, 0, none⟩) 1 1) (.bool false) (.slice none 0 0) (.slice D 1 d)
        have OB := OB.putg (b := g) hgB (.bool s1) (.slice none 0 0) (.slice (some ⟨gB, 0, none⟩) 1 1) (.bool false) (.slice none 0 0) (.slice D 1 d)
        have OD := OD.far6 (b := g) hDg (.bool s1) (.slice none 0 0) (.slice (some ⟨gB, 0, none⟩) 1 1) (.bool false) (.slice none 0 0) (.slice D 1 d)
        have kkd := kkd.put6g hgr (.bool s1) (.slice none 0 0) (.slice (some ⟨gB, 0, none⟩) 1 1) (.bool false) (.slice none 0 0) (.slice D 1 d)
        obtain ⟨w9, hw9⟩ : ∃ w9, w9 = wr6 v3 g (.bool s1) (.slice none 0 0) (.slice (some ⟨gB, 0, none⟩) 1 1) (.bool false) (.slice none 0 0) (.slice D 1 d) := ⟨_, rfl⟩
        have hw9' := hw9
        unfold wr6 wr3 at hw9'
        rw [← hw9']
        rw [← hw9] at Sx OB OD kkd
        clear hw9 hw9'
        go_wp2_with fail
        go_meet
        exact ⟨g, gB, D, d, rfl, Sx, OB, OD, kkd, hgr, hgB, hDg⟩
      · go_simp
        have hzz : w.heap.size + 1 < v1.heap.size := kkd.2.1.2
        refine (rzero_any v1).mono ?_; rintro e v2 ⟨D, d, rfl, OD, L⟩
        go_wp2_with fail
        have kkd := kkd.nx L
        have Sx := Sx.nx L
        have hDb := OD.bet
        have hDl : ∀ g', D = some ⟨g', 0, none⟩ → g' < v2.heap.size := fun g' hA => (OD.bet g' hA).2
        have OD := OD.base_le (B := w.heap.size + 2) hzz
        have hDg : ∀ g', D = some ⟨g', 0, none⟩ → g' ≠ g := fun g' hA => by have := hDb g' hA; have := hgl; omega
        refine hK.out _ _ (.inr (kkd.1.cell 0)) (fun hHeld => ?_)
        have hHeld := hHeld.resolve_left (by decide)
        clear hK K
        try simp only [List.setIfInBounds_toArray, List.set_cons_zero, List.set_cons_succ]
        have hgl := Nat.lt_of_lt_of_le hgl L.size
        clear L
        refine AnyU.one 3 (by kernel_rfl) rfl (fun K hK => ?_)
        go_simp
        have hzz : w.heap.size + 1 < v2.heap.size := kkd.2.1.2
        have L := bal v2 (.cells #[.int .u32 (1 : Int)] 46)
        have kkd := kkd.nx L
        have OD := OD.below L (Nat.le_refl _)
        have Sx := Sx.nx L
        have OB : OW (v2.alloc (.cells #[.int .u32 (1 : Int)] 46)) (w.heap.size + 2) (some ⟨v2.heap.size, 0, none⟩) 1 [1] := (OW.lit v2 [1] (by simp) (by rw [← digs_one1]; exact B32_digs 1)).base_le hzz
        obtain ⟨gB, hgBe⟩ : ∃ g, g = v2.heap.size := ⟨_, rfl⟩
        rw [← hgBe] at OB ⊢
        have hgB : gB ≠ g := by have := hgl; omega
        have hBl : gB < _ := OB.lt.2
        refine hK.out _ _ (.inr (kkd.1.cell 0)) (fun hHeld => ?_)
        have hHeld := hHeld.resolve_left (by decide)
        clear hK K
        try simp only [List.setIfInBounds_toArray, List.set_cons_zero, List.set_cons_succ]
        obtain ⟨v3, hv⟩ : ∃ v, v = v2.alloc (.cells #[.int .u32 (1 : Int)] 46) := ⟨_, rfl⟩
        rw [← hv] at kkd OB hHeld hBl OD Sx ⊢
        have hgl := Nat.lt_trans hgl (show v2.heap.size < v3.heap.size by rw [hv]; simp)
        have hDl := fun g' hA => Nat.lt_trans (hDl g' hA) (show v2.heap.size < v3.heap.size by rw [hv]; simp)
        clear hv L hgBe
        refine AnyU.next (i := 4) (v := ?_) hq hns hHeld rfl rfl (by kernel_rfl) (Or.inl ⟨by rfl, ?_⟩) ?_
        rotate_left
        · intro w' hSw; (try dsimp only at hSw); go_simp <;> with_reducible rfl
        try simp only [List.setIfInBounds_toArray, List.set_cons_zero, List.set_cons_succ]
        refine AnyU.next (i := 6) (v := ?_) hq hns hHeld rfl rfl (by kernel_rfl) (Or.inl ⟨by rfl, ?_⟩) ?_
        rotate_left
        · intro w' hSw; (try dsimp only at hSw); go_simp <;> with_reducible rfl
        try simp only [List.setIfInBounds_toArray, List.set_cons_zero, List.set_cons_succ]
        have f0 := Sx.frozen 0
        have f1 := Sx.frozen 1
        have f2 := Sx.frozen 2
        have f3 := Sx.frozen 3
        have f4 := Sx.frozen 4
        have f5 := Sx.frozen 5
        have j0 := Sx.cell 0
        have j1 := Sx.cell 1
        have j2 := Sx.cell 2
        have j3 := Sx.cell 3
        have j4 := Sx.cell 4
        have j5 := Sx.cell 5
        refine AnyU.one 8 (by kernel_rfl) rfl (fun K hK => ?_)
        go_simp
        refine hK.out _ _ (.inl rfl) (fun _ => ?_)
        clear hK K hHeld
        try simp only [List.setIfInBounds_toArray, List.set_cons_zero, List.set_cons_succ]
        clear f0 f1 f2 f3 f4 f5 j0 j1 j2 j3 j4 j5
        refine AnyU.done (by kernel_rfl) (hQK.out _ _ ?_)
        clear hQK hq hns
        have Sx := Sx.put6x (.bool s1) (.slice none 0 0) (.slice (some ⟨gB, 0, none⟩) 1 1) (.bool false) (.slice none 0 0) (.slice D 1 d)
        have OB := OB.putg (b := g) hgB (.bool s1) (.slice none 0 0) (.slice (some ⟨gB, 0, none⟩) 1 1) (.bool false) (.slice none 0 0) (.slice D 1 d)
        have OD := OD.far6 (b := g) hDg (.bool s1) (.slice none 0 0) (.slice (some ⟨gB, 0, none⟩) 1 1) (.bool false) (.slice none 0 0) (.slice D 1 d)
        have kkd := kkd.put6g hgr (.bool s1) (.slice none 0 0) (.slice (some ⟨gB, 0, none⟩) 1 1) (.bool false) (.slice none 0 0) (.slice D 1 d)
        obtain ⟨w9, hw9⟩ : ∃ w9, w9 = wr6 v3 g (.bool s1) (.slice none 0 0) (.slice (some ⟨gB, 0, none⟩) 1 1) (.bool false) (.slice none 0 0) (.slice D 1 d) := ⟨_, rfl⟩
        have hw9' := hw9
        unfold wr6 wr3 at hw9'
        rw [← hw9']
        rw [← hw9] at Sx OB OD kkd
        clear hw9 hw9'
        go_wp2_with fail
        go_meet
        exact ⟨g, gB, D, d, rfl, Sx, OB, OD, kkd, hgr, hgB, hDg⟩
  case rest =>
    obtain ⟨g, gB, D, d, rfl, Sx, OB, OD, kkd, hgr, hgB, hDg⟩ := hcut
    have hgl := Sx.2
    have OBl := OB.lt.2
    have hDl0 : ∀ g', D = some ⟨g', 0, none⟩ → g' < _ := fun g' hA => (OD.bet g' hA).2
    have BB := kkd.2.2
    have i1 := kkd.1.cell 1
    go_wp2_with fail
    refine (hU _ (st p1 BB)).mono ?_; rintro e7 w7 ⟨T, ct, rfl, OT, B7⟩
    clear hU i1
    have hTg : ∀ g', T = some ⟨g', 0, none⟩ → g' ≠ g := fun g' hA => by have := OT.bet g' hA; omega
    have OT := OT.base_le (B := w.heap.size + 2) (by omega)
    have kkd := kkd.nx B7
    have Sx := Sx.nx B7
    have OB := OB.below B7 (Nat.le_refl _)
    have OD := OD.below B7 (Nat.le_refl _)
    have f1 := Sx.frozen 1
    have i1 := Sx.cell 1
    go_upto_region 9 with fail
    clear f1 i1
    have Sx := Sx.set 1 (.slice T u0.length ct)
    have kkd := kkd.farS hgr 1 (.slice T u0.length ct)
    have OB := OB.far (p := ⟨g, 1, none⟩) (fun g' hA => by cases hA; show gB ≠ g; exact hgB) (.slice T u0.length ct)
    have OD := OD.far (p := ⟨g, 1, none⟩) (fun g' hA => by exact hDg g' hA) (.slice T u0.length ct)
    have OT := OT.far (p := ⟨g, 1, none⟩) (fun g' hA => by exact hTg g' hA) (.slice T u0.length ct)
    obtain ⟨w8, hw8⟩ : ∃ w8, w8 = w7.setCell ⟨g, 1, none⟩ (.slice T u0.length ct) := ⟨_, rfl⟩
    rw [← hw8] at Sx kkd OB OD OT ⊢
    clear hw8 B7
    by_cases h5 : 512 < u0.length
    · have hRC := kkd.2.1
      have BB := kkd.2.2
      have j0 := Sx.cell 0
      have j1 := Sx.cell 1
      go_wp2_with (refine wp_st6 rfl (.tmp 4) (.tmp 44) rfl _ rfl _ _ _ _ _ _ rfl hRC rfl rfl rfl rfl rfl rfl ?_)
      have s6 := hRC.put6 (.bool false) (.slice none 0 0) (.slice none 0 0) (.bool false) (.slice none 0 0) (.slice none 0 0)
      have B6 := wr6_below (b := w.heap.size + 1) BB (by omega) (.bool false) (.slice none 0 0) (.slice none 0 0) (.bool false) (.slice none 0 0) (.slice none 0 0)
      have r0' := s6.cell 0
      have r1' := s6.cell 1
      have r2' := s6.cell 2
      have r3' := s6.cell 3
      have r4' := s6.cell 4
      have r5' := s6.cell 5
      refine bodyPost_ret (v := .tuple #[.agg #[.bool false, .slice none 0 0, .slice none 0 0, .bool false, .slice none 0 0, .slice none 0 0], .int .i64 4]) (by simp [results, r0', r1', r2', r3', r4', r5', go_sem]) rfl ?_
      rw [hF.out.1 h5]
      exact retNE_nil 4 B6
    · have hRC := kkd.2.1
      have BB := kkd.2.2
      have j0 := Sx.cell 0
      have j1 := Sx.cell 1
      have j2 := Sx.cell 2
      have j3 := Sx.cell 3
      have j4 := Sx.cell 4
      have j5 := Sx.cell 5
      go_wp2_with (refine wp_st6 rfl (.tmp 4) (.tmp 45) rfl _ rfl _ _ _ _ _ _ rfl hRC rfl rfl rfl rfl rfl rfl ?_)
      clear j0 j1 j2 j3 j4 j5
      have s6 := hRC.put6 (.bool s1) (.slice T u0.length ct) (.slice (some ⟨gB, 0, none⟩) 1 1) (.bool false) (.slice none 0 0) (.slice D 1 d)
      have B6 := wr6_below (b := w.heap.size + 1) BB (by omega) (.bool s1) (.slice T u0.length ct) (.slice (some ⟨gB, 0, none⟩) 1 1) (.bool false) (.slice none 0 0) (.slice D 1 d)
      have OT := OT.put6 (b := w.heap.size + 1) (by omega) (.bool s1) (.slice T u0.length ct) (.slice (some ⟨gB, 0, none⟩) 1 1) (.bool false) (.slice none 0 0) (.slice D 1 d)
      have OB := OB.put6 (b := w.heap.size + 1) (by omega) (.bool s1) (.slice T u0.length ct) (.slice (some ⟨gB, 0, none⟩) 1 1) (.bool false) (.slice none 0 0) (.slice D 1 d)
      have OD := OD.put6 (b := w.heap.size + 1) (by omega) (.bool s1) (.slice T u0.length ct) (.slice (some ⟨gB, 0, none⟩) 1 1) (.bool false) (.slice none 0 0) (.slice D 1 d)
      have r0' := s6.cell 0
      have r1' := s6.cell 1
      have r2' := s6.cell 2
      have r3' := s6.cell 3
      have r4' := s6.cell 4
      have r5' := s6.cell 5
      refine bodyPost_ret (v := .tuple #[.agg #[.bool s1, .slice T u0.length ct, .slice (some ⟨gB, 0, none⟩) 1 1, .bool false, .slice none 0 0, .slice D 1 d], .int .i64 0]) (by simp [results, r0', r1', r2', r3', r4', r5', go_sem]) rfl ?_
      rw [hF.out.2 (by omega)]
      exact ⟨_, _, _, _, _, _, _, _, rfl, OT.base_le (by omega), OB.base_le (by omega), OW.nil _ _, OD.base_le (by omega), B6⟩


set_option maxRecDepth 100000 in
set_option maxHeartbeats 16000000 in
theorem rbshift_down_false (s2 : Bool) (a1 b1 a2 b2 : List Nat) (A1 D1 A2 D2 : Option Addr) (c1 d1 c2 d2 : Nat) (w : World) (p1 : RW w w.heap.size A1 c1 a1) (p2 : RW w w.heap.size D1 d1 b1) (p3 : RW w w.heap.size A2 c2 a2) (p4 : RW w w.heap.size D2 d2 b2) (X : Int) (n : Int) (m : Nat) (hnm : -n = (m : Int)) (hm0 : 0 < m) (hm : m ≤ 16384) (v : Nat) (hv : X = (v : Int)) (hX : Hid ((⟨false, a1, b1⟩ : Rw) = rwq ((X : Int) : Rat))) (lx : a1.length ≤ 512) (hk : bchkN1 ⟨false, a1, b1⟩ ⟨s2, a2, b2⟩ = 0) :
    Calls Try.prog 19 #[.agg #[.bool false, .slice A1 a1.length c1, .slice D1 b1.length d1, .bool s2, .slice A2 a2.length c2, .slice D2 b2.length d2], .int .i64 n] w (RetNE w (fitQ (((X / ((2 ^ m : Nat) : Int) : Int)) : Rat) 0)) := by
  have kk0 := S2.new w [.bool false, .slice A1 a1.length c1, .slice D1 b1.length d1, .bool s2, .slice A2 a2.length c2, .slice D2 b2.length d2] [.bool false, .slice none 0 0, .slice none 0 0, .bool false, .slice none 0 0, .slice none 0 0] 26 26 6
  have LB4 := bal ((w.alloc (.cells #[.bool false, .slice A1 a1.length c1, .slice D1 b1.length d1, .bool s2, .slice A2 a2.length c2, .slice D2 b2.length d2] 26)).alloc (.cells #[.bool false, .slice none 0 0, .slice none 0 0, .bool false, .slice none 0 0, .slice none 0 0] 26)) (.cells #[.bool false, .slice A1 a1.length c1, .slice D1 b1.length d1, .bool s2, .slice A2 a2.length c2, .slice D2 b2.length d2] 26)
  have kk1 := kk0.nx LB4
  have SG := SB.new ((w.alloc (.cells #[.bool false, .slice A1 a1.length c1, .slice D1 b1.length d1, .bool s2, .slice A2 a2.length c2, .slice D2 b2.length d2] 26)).alloc (.cells #[.bool false, .slice none 0 0, .slice none 0 0, .bool false, .slice none 0 0, .slice none 0 0] 26)) [.bool false, .slice A1 a1.length c1, .slice D1 b1.length d1, .bool s2, .slice A2 a2.length c2, .slice D2 b2.length d2] 26
  have z3 : ((w.alloc (.cells #[.bool false, .slice A1 a1.length c1, .slice D1 b1.length d1, .bool s2, .slice A2 a2.length c2, .slice D2 b2.length d2] 26)).alloc (.cells #[.bool false, .slice none 0 0, .slice none 0 0, .bool false, .slice none 0 0, .slice none 0 0] 26)).heap.size = w.heap.size + 2 := by simp
  rw [z3] at SG
  have hC := fun w' hg h1 h2 h3 h4 => rbcheck1_any (w.heap.size + 2) false a1 b1 s2 a2 b2 A1 c1 D1 d1 A2 c2 D2 d2 w' hg h1 h2 h3 h4
  have BW := kk1.2.2
  obtain ⟨W, hW⟩ : ∃ W, W = ((w.alloc (.cells #[.bool false, .slice A1 a1.length c1, .slice D1 b1.length d1, .bool s2, .slice A2 a2.length c2, .slice D2 b2.length d2] 26)).alloc (.cells #[.bool false, .slice none 0 0, .slice none 0 0, .bool false, .slice none 0 0, .slice none 0 0] 26)).alloc (.cells #[.bool false, .slice A1 a1.length c1, .slice D1 b1.length d1, .bool s2, .slice A2 a2.length c2, .slice D2 b2.length d2] 26) := ⟨_, rfl⟩
  have i0 := kk0.1.cell 0
  have i1 := kk0.1.cell 1
  have i2 := kk0.1.cell 2
  have i3 := kk0.1.cell 3
  have i4 := kk0.1.cell 4
  have i5 := kk0.1.cell 5
  simp only [hk] at hC
  clear hk
  have hYl : qw (((X / ((2 ^ m : Nat) : Int) : Int)) : Rat) ≤ 512 := by
    have h1 : (X / ((2 ^ m : Nat) : Int)).natAbs ≤ X.natAbs := Int.natAbs_ediv_le_natAbs _ _
    have h2 := digs_mono h1
    have h3 : a1 = digs X.natAbs := congrArg Rw.a hX.out
    rw [← h3] at h2
    unfold qw
    rw [qd_int, digs_one1, qt_int]
    exact Nat.max_le.2 ⟨by omega, by simp⟩
  have hF := Lib.hid (fitQ_ok hYl (by rw [qw_zero]; omega : qw 0 ≤ 512))
  clear hYl
  have hvl : (digs v).length ≤ 513 := by
    have h3 : a1 = digs X.natAbs := congrArg Rw.a hX.out
    have h4 := digs_mono (show v ≤ X.natAbs by rw [hv]; omega)
    rw [← h3] at h4; omega
  obtain ⟨y, hy⟩ : ∃ y, Hid (digs v = y) := ⟨_, rfl⟩
  rw [hy.out] at hvl
  have hya : a1 = y := by rw [← hy.out, show a1 = digs X.natAbs from congrArg Rw.a hX.out, hv]; rfl
  subst hya
  have hZ : X / ((2 ^ m : Nat) : Int) = sgn false (v / 2 ^ m) := by rw [hv, sgn_false]; exact (Int.natCast_ediv _ _).symm
  have hF2 : fitQ (((X / ((2 ^ m : Nat) : Int) : Int)) : Rat) 0 = (⟨false, digs (v / 2 ^ m), [1]⟩, ⟨false, [], [1]⟩, 0) := by
    rw [hF.out, hZ]
    exact fit_in (fun _ => rfl)
  rw [hF2]
  have hD := fun A c w' h => rdown_any A c a1.length a1 w' m (by omega) rfl h (by omega)
  have hyv : val a1 = v := by rw [← hy.out, val_digs]
  rw [hyv] at hD
  unfold RetW at hD
  have HV := Lib.hid hv
  clear hF hF2 hZ hyv hv 
  obtain ⟨u0, hu0⟩ : ∃ u0, Hid (digs (v / 2 ^ m) = u0) := ⟨_, rfl⟩
  rw [hu0.out] at hD
  have hul : u0.length ≤ 513 := by
    rw [← hu0.out]
    have h4 := digs_mono (Nat.div_le_self v (2 ^ m))
    rw [hy.out] at h4; omega
  rw [hu0.out]
  have t1 : ¬ n < -16384 := by omega
  have t2 : ¬ 16384 < n := by omega
  have t3 : ¬ 0 ≤ n := by omega
  go_enter Try.func19, Try.ntmps19
  go_wp2_with fail
  rw [← hW] at kk1 SG BW ⊢
  clear hW kk0 i0 i1 i2 i3 i4 i5
  refine (hC W SG (st p1 BW) (st p2 BW) (st p3 BW) (st p4 BW)).mono ?_; rintro e w5 ⟨rfl, B5⟩
  clear hC
  have kk5 := kk1.nx B5
  have BB := kk5.2.2
  go_upto_region 6 with fail
  go_cut [7] (fun s7 wx => ∃ (g gB : Nat) (D : Option Addr) (d : Nat), s7 = .pointer (some ⟨g, 0, none⟩) ∧ SB wx g [.bool false, .slice none 0 0, .slice (some ⟨gB, 0, none⟩) 1 1, .bool false, .slice none 0 0, .slice D 1 d] ∧ OW wx (w.heap.size + 2) (some ⟨gB, 0, none⟩) 1 [1] ∧ OW wx (w.heap.size + 2) D d [1] ∧ S2 w w.heap.size [.bool false, .slice A1 a1.length c1, .slice D1 b1.length d1, .bool s2, .slice A2 a2.length c2, .slice D2 b2.length d2] 6 wx ∧ w.heap.size + 1 < g ∧ gB ≠ g ∧ (∀ g', D = some ⟨g', 0, none⟩ → g' ≠ g))
  case first =>
    have Bd : Below w5.heap.size w5 w5.drew := Below.drew (Below.refl _ _)
    have kkd := kk5.nx Bd
    have hz5 : w.heap.size + 1 < w5.heap.size := kk5.2.1.2
    refine AnyU.regionQ 8 9 (fun w' => w'.cell? ⟨w.heap.size, 0, none⟩ = some (.bool false)) rfl (by kernel_rfl) (by kernel_rfl) (by repeat (first | refine quiet_then ?_ | refine quiet_block ?_ | exact quiet_body)) (kkd.1.cell 0) (fun Q hQK hq hns hHeld => ?_)
    generalize w5.drew = v0 at *
    refine AnyU.next (i := 0) (v := ?_) hq hns hHeld rfl rfl (by kernel_rfl) (Or.inl ⟨by rfl, ?_⟩) ?_
    rotate_left
    · intro w' hSw; (try dsimp only at hSw); go_simp <;> with_reducible rfl
    try simp only [List.setIfInBounds_toArray, List.set_cons_zero, List.set_cons_succ]
    refine AnyU.next (i := 1) (v := ?_) hq hns hHeld rfl rfl (by kernel_rfl) (Or.inl ⟨by rfl, ?_⟩) ?_
    rotate_left
    · intro w' hSw; (try dsimp only at hSw); go_simp <;> with_reducible rfl
    try simp only [List.setIfInBounds_toArray, List.set_cons_zero, List.set_cons_succ]
    refine AnyU.next (i := 2) (v := ?_) hq hns hHeld rfl rfl (by kernel_rfl) (Or.inl ⟨by rfl, ?_⟩) ?_
    rotate_left
    · intro w' hSw; (try dsimp only at hSw); go_simp <;> with_reducible rfl
    try simp only [List.setIfInBounds_toArray, List.set_cons_zero, List.set_cons_succ]
    refine AnyU.three (i := 3) (j := 5) (m := 7) (by kernel_rfl) (USome.mk rfl (fun K hK => ?_)) (USome.mk rfl (fun K hK => ?_)) (USome.mk rfl (fun K hK => ?_))
    · go_simp
      have hzz : w.heap.size + 1 < v0.heap.size := kkd.2.1.2
      have L := bal v0 (.cells #[.int .u32 (1 : Int)] 46)
      have kkd := kkd.nx L
      have OB : OW (v0.alloc (.cells #[.int .u32 (1 : Int)] 46)) (w.heap.size + 2) (some ⟨v0.heap.size, 0, none⟩) 1 [1] := (OW.lit v0 [1] (by simp) (by rw [← digs_one1]; exact B32_digs 1)).base_le hzz
      obtain ⟨gB, hgBe⟩ : ∃ g, g = v0.heap.size := ⟨_, rfl⟩
      rw [← hgBe] at OB ⊢
      have hBl : gB < _ := OB.lt.2
      refine hK.out _ _ (.inr (kkd.1.cell 0)) (fun hHeld => ?_)
      have hHeld := hHeld.resolve_left (by decide)
      clear hK K
      try simp only [List.setIfInBounds_toArray, List.set_cons_zero, List.set_cons_succ]
      obtain ⟨v1, hv⟩ : ∃ v, v = v0.alloc (.cells #[.int .u32 (1 : Int)] 46) := ⟨_, rfl⟩
      rw [← hv] at kkd OB hHeld hBl  ⊢
      clear hv L hgBe
      refine AnyU.next (i := 4) (v := ?_) hq hns hHeld rfl rfl (by kernel_rfl) (Or.inl ⟨by rfl, ?_⟩) ?_
      rotate_left
      · intro w' hSw; (try dsimp only at hSw); go_simp <;> with_reducible rfl
      try simp only [List.setIfInBounds_toArray, List.set_cons_zero, List.set_cons_succ]
      refine AnyU.two (i := 5) (j := 7) (by kernel_rfl) (USome.mk rfl (fun K hK => ?_)) (USome.mk rfl (fun K hK => ?_))
      · go_simp
        have hzz : w.heap.size + 1 < v1.heap.size := kkd.2.1.2
        refine (rzero_any v1).mono ?_; rintro e v2 ⟨D, d, rfl, OD, L⟩
        go_wp2_with fail
        have kkd := kkd.nx L
        have OB := OB.below L (Nat.le_refl _)
        have hDb := OD.bet
        have hDl : ∀ g', D = some ⟨g', 0, none⟩ → g' < v2.heap.size := fun g' hA => (OD.bet g' hA).2
        have OD := OD.base_le (B := w.heap.size + 2) hzz
        refine hK.out _ _ (.inr (kkd.1.cell 0)) (fun hHeld => ?_)
        have hHeld := hHeld.resolve_left (by decide)
        clear hK K
        try simp only [List.setIfInBounds_toArray, List.set_cons_zero, List.set_cons_succ]
        have hBl := Nat.lt_of_lt_of_le hBl L.size
        clear L
        refine AnyU.next (i := 6) (v := ?_) hq hns hHeld rfl rfl (by kernel_rfl) (Or.inl ⟨by rfl, ?_⟩) ?_
        rotate_left
        · intro w' hSw; (try dsimp only at hSw); go_simp <;> with_reducible rfl
        try simp only [List.setIfInBounds_toArray, List.set_cons_zero, List.set_cons_succ]
        refine AnyU.one 7 (by kernel_rfl) rfl (fun K hK => ?_)
        go_simp
        have hzz : w.heap.size + 1 < v2.heap.size := kkd.2.1.2
        have L := bal v2 (.cells #[.bool false, .slice none 0 0, .slice none 0 0, .bool false, .slice none 0 0, .slice none 0 0] 26)
        have kkd := kkd.nx L
        have OB := OB.below L (Nat.le_refl _)
        have OD := OD.below L (Nat.le_refl _)
        have Sx := SB.new v2 [.bool false, .slice none 0 0, .slice none 0 0, .bool false, .slice none 0 0, .slice none 0 0] 26
        obtain ⟨g, hge⟩ : ∃ g, g = v2.heap.size := ⟨_, rfl⟩
        rw [← hge] at Sx ⊢
        have hgr : w.heap.size + 1 < g := by omega
        have hgB : gB ≠ g := by have := hBl; omega
        have hDg : ∀ g', D = some ⟨g', 0, none⟩ → g' ≠ g := fun g' hA => by have := hDl g' hA; omega
        have hgl : g < _ := Sx.2
        refine hK.out _ _ (.inr (kkd.1.cell 0)) (fun hHeld => ?_)
        have hHeld := hHeld.resolve_left (by decide)
        clear hK K
        try simp only [List.setIfInBounds_toArray, List.set_cons_zero, List.set_cons_succ]
        obtain ⟨v3, hv⟩ : ∃ v, v = v2.alloc (.cells #[.bool false, .slice none 0 0, .slice none 0 0, .bool false, .slice none 0 0, .slice none 0 0] 26) := ⟨_, rfl⟩
        rw [← hv] at kkd Sx hHeld hgl OB OD ⊢
        have hBl := Nat.lt_trans hBl (show v2.heap.size < v3.heap.size by rw [hv]; simp)
        have hDl := fun g' hA => Nat.lt_trans (hDl g' hA) (show v2.heap.size < v3.heap.size by rw [hv]; simp)
        clear hv L hge
        have f0 := Sx.frozen 0
        have f1 := Sx.frozen 1
        have f2 := Sx.frozen 2
        have f3 := Sx.frozen 3
        have f4 := Sx.frozen 4
        have f5 := Sx.frozen 5
        have j0 := Sx.cell 0
        have j1 := Sx.cell 1
        have j2 := Sx.cell 2
        have j3 := Sx.cell 3
        have j4 := Sx.cell 4
        have j5 := Sx.cell 5
        refine AnyU.one 8 (by kernel_rfl) rfl (fun K hK => ?_)
        go_simp
        refine hK.out _ _ (.inl rfl) (fun _ => ?_)
        clear hK K hHeld
        try simp only [List.setIfInBounds_toArray, List.set_cons_zero, List.set_cons_succ]
        clear f0 f1 f2 f3 f4 f5 j0 j1 j2 j3 j4 j5
        refine AnyU.done (by kernel_rfl) (hQK.out _ _ ?_)
        clear hQK hq hns
        have Sx := Sx.put6x (.bool false) (.slice none 0 0) (.slice (some ⟨gB, 0, none⟩) 1 1) (.bool false) (.slice none 0 0) (.slice D 1 d)
        have OB := OB.putg (b := g) hgB (.bool false) (.slice none 0 0) (.slice (some ⟨gB, 0, none⟩) 1 1) (.bool false) (.slice none 0 0) (.slice D 1 d)
        have OD := OD.far6 (b := g) hDg (.bool false) (.slice none 0 0) (.slice (some ⟨gB, 0, none⟩) 1 1) (.bool false) (.slice none 0 0) (.slice D 1 d)
        have kkd := kkd.put6g hgr (.bool false) (.slice none 0 0) (.slice (some ⟨gB, 0, none⟩) 1 1) (.bool false) (.slice none 0 0) (.slice D 1 d)
        obtain ⟨w9, hw9⟩ : ∃ w9, w9 = wr6 v3 g (.bool false) (.slice none 0 0) (.slice (some ⟨gB, 0, none⟩) 1 1) (.bool false) (.slice none 0 0) (.slice D 1 d) := ⟨_, rfl⟩
        have hw9' := hw9
        unfold wr6 wr3 at hw9'
        rw [← hw9']
        rw [← hw9] at Sx OB OD kkd
        clear hw9 hw9'
        go_wp2_with fail
        go_meet
        exact ⟨g, gB, D, d, rfl, Sx, OB, OD, kkd, hgr, hgB, hDg⟩
      · go_simp
        have hzz : w.heap.size + 1 < v1.heap.size := kkd.2.1.2
        have L := bal v1 (.cells #[.bool false, .slice none 0 0, .slice none 0 0, .bool false, .slice none 0 0, .slice none 0 0] 26)
        have kkd := kkd.nx L
        have OB := OB.below L (Nat.le_refl _)
        have Sx := SB.new v1 [.bool false, .slice none 0 0, .slice none 0 0, .bool false, .slice none 0 0, .slice none 0 0] 26
        obtain ⟨g, hge⟩ : ∃ g, g = v1.heap.size := ⟨_, rfl⟩
        rw [← hge] at Sx ⊢
        have hgr : w.heap.size + 1 < g := by omega
        have hgB : gB ≠ g := by have := hBl; omega
        have hgl : g < _ := Sx.2
        refine hK.out _ _ (.inr (kkd.1.cell 0)) (fun hHeld => ?_)
        have hHeld := hHeld.resolve_left (by decide)
        clear hK K
        try simp only [List.setIfInBounds_toArray, List.set_cons_zero, List.set_cons_succ]
        obtain ⟨v2, hv⟩ : ∃ v, v = v1.alloc (.cells #[.bool false, .slice none 0 0, .slice none 0 0, .bool false, .slice none 0 0, .slice none 0 0] 26) := ⟨_, rfl⟩
        rw [← hv] at kkd Sx hHeld hgl OB ⊢
        have hBl := Nat.lt_trans hBl (show v1.heap.size < v2.heap.size by rw [hv]; simp)
        clear hv L hge
        refine AnyU.one 5 (by kernel_rfl) rfl (fun K hK => ?_)
        go_simp
        have hzz : w.heap.size + 1 < v2.heap.size := kkd.2.1.2
        refine (rzero_any v2).mono ?_; rintro e v3 ⟨D, d, rfl, OD, L⟩
        go_wp2_with fail
        have kkd := kkd.nx L
        have OB := OB.below L (Nat.le_refl _)
        have Sx := Sx.nx L
        have hDb := OD.bet
        have hDl : ∀ g', D = some ⟨g', 0, none⟩ → g' < v3.heap.size := fun g' hA => (OD.bet g' hA).2
        have OD := OD.base_le (B := w.heap.size + 2) hzz
        have hDg : ∀ g', D = some ⟨g', 0, none⟩ → g' ≠ g := fun g' hA => by have := hDb g' hA; have := hgl; omega
        refine hK.out _ _ (.inr (kkd.1.cell 0)) (fun hHeld => ?_)
        have hHeld := hHeld.resolve_left (by decide)
        clear hK K
        try simp only [List.setIfInBounds_toArray, List.set_cons_zero, List.set_cons_succ]
        have hgl := Nat.lt_of_lt_of_le hgl L.size
        have hBl := Nat.lt_of_lt_of_le hBl L.size
        clear L
        refine AnyU.next (i := 6) (v := ?_) hq hns hHeld rfl rfl (by kernel_rfl) (Or.inl ⟨by rfl, ?_⟩) ?_
        rotate_left
        · intro w' hSw; (try dsimp only at hSw); go_simp <;> with_reducible rfl
        try simp only [List.setIfInBounds_toArray, List.set_cons_zero, List.set_cons_succ]
        have f0 := Sx.frozen 0
        have f1 := Sx.frozen 1
        have f2 := Sx.frozen 2
        have f3 := Sx.frozen 3
        have f4 := Sx.frozen 4
        have f5 := Sx.frozen 5
        have j0 := Sx.cell 0
        have j1 := Sx.cell 1
        have j2 := Sx.cell 2
        have j3 := Sx.cell 3
        have j4 := Sx.cell 4
        have j5 := Sx.cell 5
        refine AnyU.one 8 (by kernel_rfl) rfl (fun K hK => ?_)
        go_simp
        refine hK.out _ _ (.inl rfl) (fun _ => ?_)
        clear hK K hHeld
        try simp only [List.setIfInBounds_toArray, List.set_cons_zero, List.set_cons_succ]
        clear f0 f1 f2 f3 f4 f5 j0 j1 j2 j3 j4 j5
        refine AnyU.done (by kernel_rfl) (hQK.out _ _ ?_)
        clear hQK hq hns
        have Sx := Sx.put6x (.bool false) (.slice none 0 0) (.slice (some ⟨gB, 0, none⟩) 1 1) (.bool false) (.slice none 0 0) (.slice D 1 d)
        have OB := OB.putg (b := g) hgB (.bool false) (.slice none 0 0) (.slice (some ⟨gB, 0, none⟩) 1 1) (.bool false) (.slice none 0 0) (.slice D 1 d)
        have OD := OD.far6 (b := g) hDg (.bool false) (.slice none 0 0) (.slice (some ⟨gB, 0, none⟩) 1 1) (.bool false) (.slice none 0 0) (.slice D 1 d)
        have kkd := kkd.put6g hgr (.bool false) (.slice none 0 0) (.slice (some ⟨gB, 0, none⟩) 1 1) (.bool false) (.slice none 0 0) (.slice D 1 d)
        obtain ⟨w9, hw9⟩ : ∃ w9, w9 = wr6 v3 g (.bool false) (.slice none 0 0) (.slice (some ⟨gB, 0, none⟩) 1 1) (.bool false) (.slice none 0 0) (.slice D 1 d) := ⟨_, rfl⟩
        have hw9' := hw9
        unfold wr6 wr3 at hw9'
        rw [← hw9']
        rw [← hw9] at Sx OB OD kkd
        clear hw9 hw9'
        go_wp2_with fail
        go_meet
        exact ⟨g, gB, D, d, rfl, Sx, OB, OD, kkd, hgr, hgB, hDg⟩
    · go_simp
      have hzz : w.heap.size + 1 < v0.heap.size := kkd.2.1.2
      refine (rzero_any v0).mono ?_; rintro e v1 ⟨D, d, rfl, OD, L⟩
      go_wp2_with fail
      have kkd := kkd.nx L
      have hDb := OD.bet
      have hDl : ∀ g', D = some ⟨g', 0, none⟩ → g' < v1.heap.size := fun g' hA => (OD.bet g' hA).2
      have OD := OD.base_le (B := w.heap.size + 2) hzz
      refine hK.out _ _ (.inr (kkd.1.cell 0)) (fun hHeld => ?_)
      have hHeld := hHeld.resolve_left (by decide)
      clear hK K
      try simp only [List.setIfInBounds_toArray, List.set_cons_zero, List.set_cons_succ]
      clear L
      refine AnyU.two (i := 3) (j := 7) (by kernel_rfl) (USome.mk rfl (fun K hK => ?_)) (USome.mk rfl (fun K hK => ?_))
      · go_simp
        have hzz : w.heap.size + 1 < v1.heap.size := kkd.2.1.2
        have L := bal v1 (.cells #[.int .u32 (1 : Int)] 46)
        have kkd := kkd.nx L
        have OD := OD.below L (Nat.le_refl _)
        have OB : OW (v1.alloc (.cells #[.int .u32 (1 : Int)] 46)) (w.heap.size + 2) (some ⟨v1.heap.size, 0, none⟩) 1 [1] := (OW.lit v1 [1] (by simp) (by rw [← digs_one1]; exact B32_digs 1)).base_le hzz
        obtain ⟨gB, hgBe⟩ : ∃ g, g = v1.heap.size := ⟨_, rfl⟩
        rw [← hgBe] at OB ⊢
        have hBl : gB < _ := OB.lt.2
        refine hK.out _ _ (.inr (kkd.1.cell 0)) (fun hHeld => ?_)
        have hHeld := hHeld.resolve_left (by decide)
        clear hK K
        try simp only [List.setIfInBounds_toArray, List.set_cons_zero, List.set_cons_succ]
        obtain ⟨v2, hv⟩ : ∃ v, v = v1.alloc (.cells #[.int .u32 (1 : Int)] 46) := ⟨_, rfl⟩
        rw [← hv] at kkd OB hHeld hBl OD ⊢
        have hDl := fun g' hA => Nat.lt_trans (hDl g' hA) (show v1.heap.size < v2.heap.size by rw [hv]; simp)
        clear hv L hgBe
        refine AnyU.next (i := 4) (v := ?_) hq hns hHeld rfl rfl (by kernel_rfl) (Or.inl ⟨by rfl, ?_⟩) ?_
        rotate_left
        · intro w' hSw; (try dsimp only at hSw); go_simp <;> with_reducible rfl
        try simp only [List.setIfInBounds_toArray, List.set_cons_zero, List.set_cons_succ]
        refine AnyU.next (i := 6) (v := ?_) hq hns hHeld rfl rfl (by kernel_rfl) (Or.inl ⟨by rfl, ?_⟩) ?_
        rotate_left
        · intro w' hSw; (try dsimp only at hSw); go_simp <;> with_reducible rfl
        try simp only [List.setIfInBounds_toArray, List.set_cons_zero, List.set_cons_succ]
        refine AnyU.one 7 (by kernel_rfl) rfl (fun K hK => ?_)
        go_simp
        have hzz : w.heap.size + 1 < v2.heap.size := kkd.2.1.2
        have L := bal v2 (.cells #[.bool false, .slice none 0 0, .slice none 0 0, .bool false, .slice none 0 0, .slice none 0 0] 26)
        have kkd := kkd.nx L
        have OB := OB.below L (Nat.le_refl _)
        have OD := OD.below L (Nat.le_refl _)
        have Sx := SB.new v2 [.bool false, .slice none 0 0, .slice none 0 0, .bool false, .slice none 0 0, .slice none 0 0] 26
        obtain ⟨g, hge⟩ : ∃ g, g = v2.heap.size := ⟨_, rfl⟩
        rw [← hge] at Sx ⊢
        have hgr : w.heap.size + 1 < g := by omega
        have hgB : gB ≠ g := by have := hBl; omega
        have hDg : ∀ g', D = some ⟨g', 0, none⟩ → g' ≠ g := fun g' hA => by have := hDl g' hA; omega
        have hgl : g < _ := Sx.2
        refine hK.out _ _ (.inr (kkd.1.cell 0)) (fun hHeld => ?_)
        have hHeld := hHeld.resolve_left (by decide)
        clear hK K
        try simp only [List.setIfInBounds_toArray, List.set_cons_zero, List.set_cons_succ]
        obtain ⟨v3, hv⟩ : ∃ v, v = v2.alloc (.cells #[.bool false, .slice none 0 0, .slice none 0 0, .bool false, .slice none 0 0, .slice none 0 0] 26) := ⟨_, rfl⟩
        rw [← hv] at kkd Sx hHeld hgl OB OD ⊢
        have hBl := Nat.lt_trans hBl (show v2.heap.size < v3.heap.size by rw [hv]; simp)
        have hDl := fun g' hA => Nat.lt_trans (hDl g' hA) (show v2.heap.size < v3.heap.size by rw [hv]; simp)
        clear hv L hge
        have f0 := Sx.frozen 0
        have f1 := Sx.frozen 1
        have f2 := Sx.frozen 2
        have f3 := Sx.frozen 3
        have f4 := Sx.frozen 4
        have f5 := Sx.frozen 5
        have j0 := Sx.cell 0
        have j1 := Sx.cell 1
        have j2 := Sx.cell 2
        have j3 := Sx.cell 3
        have j4 := Sx.cell 4
        have j5 := Sx.cell 5
        refine AnyU.one 8 (by kernel_rfl) rfl (fun K hK => ?_)
        go_simp
        refine hK.out _ _ (.inl rfl) (fun _ => ?_)
        clear hK K hHeld
        try simp only [List.setIfInBounds_toArray, List.set_cons_zero, List.set_cons_succ]
        clear f0 f1 f2 f3 f4 f5 j0 j1 j2 j3 j4 j5
        refine AnyU.done (by kernel_rfl) (hQK.out _ _ ?_)
        clear hQK hq hns
        have Sx := Sx.put6x (.bool false) (.slice none 0 0) (.slice (some ⟨gB, 0, none⟩) 1 1) (.bool false) (.slice none 0 0) (.slice D 1 d)
        have OB := OB.putg (b := g) hgB (.bool false) (.slice none 0 0) (.slice (some ⟨gB, 0, none⟩) 1 1) (.bool false) (.slice none 0 0) (.slice D 1 d)
        have OD := OD.far6 (b := g) hDg (.bool false) (.slice none 0 0) (.slice (some ⟨gB, 0, none⟩) 1 1) (.bool false) (.slice none 0 0) (.slice D 1 d)
        have kkd := kkd.put6g hgr (.bool false) (.slice none 0 0) (.slice (some ⟨gB, 0, none⟩) 1 1) (.bool false) (.slice none 0 0) (.slice D 1 d)
        obtain ⟨w9, hw9⟩ : ∃ w9, w9 = wr6 v3 g (.bool false) (.slice none 0 0) (.slice (some ⟨gB, 0, none⟩) 1 1) (.bool false) (.slice none 0 0) (.slice D 1 d) := ⟨_, rfl⟩
        have hw9' := hw9
        unfold wr6 wr3 at hw9'
        rw [← hw9']
        rw [← hw9] at Sx OB OD kkd
        clear hw9 hw9'
        go_wp2_with fail
        go_meet
        exact ⟨g, gB, D, d, rfl, Sx, OB, OD, kkd, hgr, hgB, hDg⟩
      · go_simp
        have hzz : w.heap.size + 1 < v1.heap.size := kkd.2.1.2
        have L := bal v1 (.cells #[.bool false, .slice none 0 0, .slice none 0 0, .bool false, .slice none 0 0, .slice none 0 0] 26)
        have kkd := kkd.nx L
        have OD := OD.below L (Nat.le_refl _)
        have Sx := SB.new v1 [.bool false, .slice none 0 0, .slice none 0 0, .bool false, .slice none 0 0, .slice none 0 0] 26
        obtain ⟨g, hge⟩ : ∃ g, g = v1.heap.size := ⟨_, rfl⟩
        rw [← hge] at Sx ⊢
        have hgr : w.heap.size + 1 < g := by omega
        have hDg : ∀ g', D = some ⟨g', 0, none⟩ → g' ≠ g := fun g' hA => by have := hDl g' hA; omega
        have hgl : g < _ := Sx.2
        refine hK.out _ _ (.inr (kkd.1.cell 0)) (fun hHeld => ?_)
        have hHeld := hHeld.resolve_left (by decide)
        clear hK K
        try simp only [List.setIfInBounds_toArray, List.set_cons_zero, List.set_cons_succ]
        obtain ⟨v2, hv⟩ : ∃ v, v = v1.alloc (.cells #[.bool false, .slice none 0 0, .slice none 0 0, .bool false, .slice none 0 0, .slice none 0 0] 26) := ⟨_, rfl⟩
        rw [← hv] at kkd Sx hHeld hgl OD ⊢
        have hDl := fun g' hA => Nat.lt_trans (hDl g' hA) (show v1.heap.size < v2.heap.size by rw [hv]; simp)
        clear hv L hge
        refine AnyU.one 3 (by kernel_rfl) rfl (fun K hK => ?_)
        go_simp
        have hzz : w.heap.size + 1 < v2.heap.size := kkd.2.1.2
        have L := bal v2 (.cells #[.int .u32 (1 : Int)] 46)
        have kkd := kkd.nx L
        have OD := OD.below L (Nat.le_refl _)
        have Sx := Sx.nx L
        have OB : OW (v2.alloc (.cells #[.int .u32 (1 : Int)] 46)) (w.heap.size + 2) (some ⟨v2.heap.size, 0, none⟩) 1 [1] := (OW.lit v2 [1] (by simp) (by rw [← digs_one1]; exact B32_digs 1)).base_le hzz
        obtain ⟨gB, hgBe⟩ : ∃ g, g = v2.heap.size := ⟨_, rfl⟩
        rw [← hgBe] at OB ⊢
        have hgB : gB ≠ g := by have := hgl; omega
        have hBl : gB < _ := OB.lt.2
        refine hK.out _ _ (.inr (kkd.1.cell 0)) (fun hHeld => ?_)
        have hHeld := hHeld.resolve_left (by decide)
        clear hK K
        try simp only [List.setIfInBounds_toArray, List.set_cons_zero, List.set_cons_succ]
        obtain ⟨v3, hv⟩ : ∃ v, v = v2.alloc (.cells #[.int .u32 (1 : Int)] 46) := ⟨_, rfl⟩
        rw [← hv] at kkd OB hHeld hBl OD Sx ⊢
        have hgl := Nat.lt_trans hgl (show v2.heap.size < v3.heap.size by rw [hv]; simp)
        have hDl := fun g' hA => Nat.lt_trans (hDl g' hA) (show v2.heap.size < v3.heap.size by rw [hv]; simp)
        clear hv L hgBe
        refine AnyU.next (i := 4) (v := ?_) hq hns hHeld rfl rfl (by kernel_rfl) (Or.inl ⟨by rfl, ?_⟩) ?_
        rotate_left
        · intro w' hSw; (try dsimp only at hSw); go_simp <;> with_reducible rfl
        try simp only [List.setIfInBounds_toArray, List.set_cons_zero, List.set_cons_succ]
        refine AnyU.next (i := 6) (v := ?_) hq hns hHeld rfl rfl (by kernel_rfl) (Or.inl ⟨by rfl, ?_⟩) ?_
        rotate_left
        · intro w' hSw; (try dsimp only at hSw); go_simp <;> with_reducible rfl
        try simp only [List.setIfInBounds_toArray, List.set_cons_zero, List.set_cons_succ]
        have f0 := Sx.frozen 0
        have f1 := Sx.frozen 1
        have f2 := Sx.frozen 2
        have f3 := Sx.frozen 3
        have f4 := Sx.frozen 4
        have f5 := Sx.frozen 5
        have j0 := Sx.cell 0
        have j1 := Sx.cell 1
        have j2 := Sx.cell 2
        have j3 := Sx.cell 3
        have j4 := Sx.cell 4
        have j5 := Sx.cell 5
        refine AnyU.one 8 (by kernel_rfl) rfl (fun K hK => ?_)
        go_simp
        refine hK.out _ _ (.inl rfl) (fun _ => ?_)
        clear hK K hHeld
        try simp only [List.setIfInBounds_toArray, List.set_cons_zero, List.set_cons_succ]
        clear f0 f1 f2 f3 f4 f5 j0 j1 j2 j3 j4 j5
        refine AnyU.done (by kernel_rfl) (hQK.out _ _ ?_)
        clear hQK hq hns
        have Sx := Sx.put6x (.bool false) (.slice none 0 0) (.slice (some ⟨gB, 0, none⟩) 1 1) (.bool false) (.slice none 0 0) (.slice D 1 d)
        have OB := OB.putg (b := g) hgB (.bool false) (.slice none 0 0) (.slice (some ⟨gB, 0, none⟩) 1 1) (.bool false) (.slice none 0 0) (.slice D 1 d)
        have OD := OD.far6 (b := g) hDg (.bool false) (.slice none 0 0) (.slice (some ⟨gB, 0, none⟩) 1 1) (.bool false) (.slice none 0 0) (.slice D 1 d)
        have kkd := kkd.put6g hgr (.bool false) (.slice none 0 0) (.slice (some ⟨gB, 0, none⟩) 1 1) (.bool false) (.slice none 0 0) (.slice D 1 d)
        obtain ⟨w9, hw9⟩ : ∃ w9, w9 = wr6 v3 g (.bool false) (.slice none 0 0) (.slice (some ⟨gB, 0, none⟩) 1 1) (.bool false) (.slice none 0 0) (.slice D 1 d) := ⟨_, rfl⟩
        have hw9' := hw9
        unfold wr6 wr3 at hw9'
        rw [← hw9']
        rw [← hw9] at Sx OB OD kkd
        clear hw9 hw9'
        go_wp2_with fail
        go_meet
        exact ⟨g, gB, D, d, rfl, Sx, OB, OD, kkd, hgr, hgB, hDg⟩
    · go_simp
      have hzz : w.heap.size + 1 < v0.heap.size := kkd.2.1.2
      have L := bal v0 (.cells #[.bool false, .slice none 0 0, .slice none 0 0, .bool false, .slice none 0 0, .slice none 0 0] 26)
      have kkd := kkd.nx L
      have Sx := SB.new v0 [.bool false, .slice none 0 0, .slice none 0 0, .bool false, .slice none 0 0, .slice none 0 0] 26
      obtain ⟨g, hge⟩ : ∃ g, g = v0.heap.size := ⟨_, rfl⟩
      rw [← hge] at Sx ⊢
      have hgr : w.heap.size + 1 < g := by omega
      have hgl : g < _ := Sx.2
      refine hK.out _ _ (.inr (kkd.1.cell 0)) (fun hHeld => ?_)
      have hHeld := hHeld.resolve_left (by decide)
      clear hK K
      try simp only [List.setIfInBounds_toArray, List.set_cons_zero, List.set_cons_succ]
      obtain ⟨v1, hv⟩ : ∃ v, v = v0.alloc (.cells #[.bool false, .slice none 0 0, .slice none 0 0, .bool false, .slice none 0 0, .slice none 0 0] 26) := ⟨_, rfl⟩
      rw [← hv] at kkd Sx hHeld hgl  ⊢
      clear hv L hge
      refine AnyU.two (i := 3) (j := 5) (by kernel_rfl) (USome.mk rfl (fun K hK => ?_)) (USome.mk rfl (fun K hK => ?_))
      · go_simp
        have hzz : w.heap.size + 1 < v1.heap.size := kkd.2.1.2
        have L := bal v1 (.cells #[.int .u32 (1 : Int)] 46)
        have kkd := kkd.nx L
        have Sx := Sx.nx L
        have OB : OW (v1.alloc (.cells #[.int .u32 (1 : Int)] 46)) (w.heap.size + 2) (some ⟨v1.heap.size, 0, none⟩) 1 [1] := (OW.lit v1 [1] (by simp) (by rw [← digs_one1]; exact B32_digs 1)).base_le hzz
        obtain ⟨gB, hgBe⟩ : ∃ g, g = v1.heap.size := ⟨_, rfl⟩
        rw [← hgBe] at OB ⊢
        have hgB : gB ≠ g := by have := hgl; omega
        have hBl : gB < _ := OB.lt.2
        refine hK.out _ _ (.inr (kkd.1.cell 0)) (fun hHeld => ?_)
        have hHeld := hHeld.resolve_left (by decide)
        clear hK K
        try simp only [List.setIfInBounds_toArray, List.set_cons_zero, List.set_cons_succ]
        obtain ⟨v2, hv⟩ : ∃ v, v = v1.alloc (.cells #[.int .u32 (1 : Int)] 46) := ⟨_, rfl⟩
        rw [← hv] at kkd OB hHeld hBl Sx ⊢
        have hgl := Nat.lt_trans hgl (show v1.heap.size < v2.heap.size by rw [hv]; simp)
        clear hv L hgBe
        refine AnyU.next (i := 4) (v := ?_) hq hns hHeld rfl rfl (by kernel_rfl) (Or.inl ⟨by rfl, ?_⟩) ?_
        rotate_left
        · intro w' hSw; (try dsimp only at hSw); go_simp <;> with_reducible rfl
        try simp only [List.setIfInBounds_toArray, List.set_cons_zero, List.set_cons_succ]
        refine AnyU.one 5 (by kernel_rfl) rfl (fun K hK => ?_)
        go_simp
        have hzz : w.heap.size + 1 < v2.heap.size := kkd.2.1.2
        refine (rzero_any v2).mono ?_; rintro e v3 ⟨D, d, rfl, OD, L⟩
        go_wp2_with fail
        have kkd := kkd.nx L
        have OB := OB.below L (Nat.le_refl _)
        have Sx := Sx.nx L
        have hDb := OD.bet
        have hDl : ∀ g', D = some ⟨g', 0, none⟩ → g' < v3.heap.size := fun g' hA => (OD.bet g' hA).2
        have OD := OD.base_le (B := w.heap.size + 2) hzz
        have hDg : ∀ g', D = some ⟨g', 0, none⟩ → g' ≠ g := fun g' hA => by have := hDb g' hA; have := hgl; omega
        refine hK.out _ _ (.inr (kkd.1.cell 0)) (fun hHeld => ?_)
        have hHeld := hHeld.resolve_left (by decide)
        clear hK K
        try simp only [List.setIfInBounds_toArray, List.set_cons_zero, List.set_cons_succ]
        have hgl := Nat.lt_of_lt_of_le hgl L.size
        have hBl := Nat.lt_of_lt_of_le hBl L.size
        clear L
        refine AnyU.next (i := 6) (v := ?_) hq hns hHeld rfl rfl (by kernel_rfl) (Or.inl ⟨by rfl, ?_⟩) ?_
        rotate_left
        · intro w' hSw; (try dsimp only at hSw); go_simp <;> with_reducible rfl
        try simp only [List.setIfInBounds_toArray, List.set_cons_zero, List.set_cons_succ]
        have f0 := Sx.frozen 0
        have f1 := Sx.frozen 1
        have f2 := Sx.frozen 2
        have f3 := Sx.frozen 3
        have f4 := Sx.frozen 4
        have f5 := Sx.frozen 5
        have j0 := Sx.cell 0
        have j1 := Sx.cell 1
        have j2 := Sx.cell 2
        have j3 := Sx.cell 3
        have j4 := Sx.cell 4
        have j5 := Sx.cell 5
        refine AnyU.one 8 (by kernel_rfl) rfl (fun K hK => ?_)
        go_simp
        refine hK.out _ _ (.inl rfl) (fun _ => ?_)
        clear hK K hHeld
        try simp only [List.setIfInBounds_toArray, List.set_cons_zero, List.set_cons_succ]
        clear f0 f1 f2 f3 f4 f5 j0 j1 j2 j3 j4 j5
        refine AnyU.done (by kernel_rfl) (hQK.out _ _ ?_)
        clear hQK hq hns
        have Sx := Sx.put6x (.bool false) (.slice none 0 0) (.slice (some ⟨gB, 0, none⟩) 1 1) (.bool false) (.slice none 0 0) (.slice D 1 d)
        have OB := OB.putg (b := g) hgB (.bool false) (.slice none 0 0) (.slice (some ⟨gB, 0, none⟩) 1 1) (.bool false) (.slice none 0 0) (.slice D 1 d)
        have OD := OD.far6 (b := g) hDg (.bool false) (.slice none 0 0) (.slice (some ⟨gB, 0, none⟩) 1 1) (.bool false) (.slice none 0 0) (.slice D 1 d)
        have kkd := kkd.put6g hgr (.bool false) (.slice none 0 0) (.slice (some ⟨gB, 0, none⟩) 1 1) (.bool false) (.slice none 0 0) (.slice D 1 d)
        obtain ⟨w9, hw9⟩ : ∃ w9, w9 = wr6 v3 g (.bool false) (.slice none 0 0) (.slice (some ⟨gB, 0, none⟩) 1 1) (.bool false) (.slice none 0 0) (.slice D 1 d) := ⟨_, rfl⟩
        have hw9' := hw9
        unfold wr6 wr3 at hw9'
        rw [← hw9']
        rw [← hw9] at Sx OB OD kkd
        clear hw9 hw9'
        go_wp2_with fail
        go_meet
        exact ⟨g, gB, D, d, rfl, Sx, OB, OD, kkd, hgr, hgB, hDg⟩
      · go_simp
        have hzz : w.heap.size + 1 < v1.heap.size := kkd.2.1.2
        refine (rzero_any v1).mono ?_; rintro e v2 ⟨D, d, rfl, OD, L⟩
        go_wp2_with fail
        have kkd := kkd.nx L
        have Sx := Sx.nx L
        have hDb := OD.bet
        have hDl : ∀ g', D = some ⟨g', 0, none⟩ → g' < v2.heap.size := fun g' hA => (OD.bet g' hA).2
        have OD := OD.base_le (B := w.heap.size + 2) hzz
        have hDg : ∀ g', D = some ⟨g', 0, none⟩ → g' ≠ g := fun g' hA => by have := hDb g' hA; have := hgl; omega
        refine hK.out _ _ (.inr (kkd.1.cell 0)) (fun hHeld => ?_)
        have hHeld := hHeld.resolve_left (by decide)
        clear hK K
        try simp only [List.setIfInBounds_toArray, List.set_cons_zero, List.set_cons_succ]
        have hgl := Nat.lt_of_lt_of_le hgl L.size
        clear L
        refine AnyU.one 3 (by kernel_rfl) rfl (fun K hK => ?_)
        go_simp
        have hzz : w.heap.size + 1 < v2.heap.size := kkd.2.1.2
        have L := bal v2 (.cells #[.int .u32 (1 : Int)] 46)
        have kkd := kkd.nx L
        have OD := OD.below L (Nat.le_refl _)
        have Sx := Sx.nx L
        have OB : OW (v2.alloc (.cells #[.int .u32 (1 : Int)] 46)) (w.heap.size + 2) (some ⟨v2.heap.size, 0, none⟩) 1 [1] := (OW.lit v2 [1] (by simp) (by rw [← digs_one1]; exact B32_digs 1)).base_le hzz
        obtain ⟨gB, hgBe⟩ : ∃ g, g = v2.heap.size := ⟨_, rfl⟩
        rw [← hgBe] at OB ⊢
        have hgB : gB ≠ g := by have := hgl; omega
        have hBl : gB < _ := OB.lt.2
        refine hK.out _ _ (.inr (kkd.1.cell 0)) (fun hHeld => ?_)
        have hHeld := hHeld.resolve_left (by decide)
        clear hK K
        try simp only [List.setIfInBounds_toArray, List.set_cons_zero, List.set_cons_succ]
        obtain ⟨v3, hv⟩ : ∃ v, v = v2.alloc (.cells #[.int .u32 (1 : Int)] 46) := ⟨_, rfl⟩
        rw [← hv] at kkd OB hHeld hBl OD Sx ⊢
        have hgl := Nat.lt_trans hgl (show v2.heap.size < v3.heap.size by rw [hv]; simp)
        have hDl := fun g' hA => Nat.lt_trans (hDl g' hA) (show v2.heap.size < v3.heap.size by rw [hv]; simp)
        clear hv L hgBe
        refine AnyU.next (i := 4) (v := ?_) hq hns hHeld rfl rfl (by kernel_rfl) (Or.inl ⟨by rfl, ?_⟩) ?_
        rotate_left
        · intro w' hSw; (try dsimp only at hSw); go_simp <;> with_reducible rfl
        try simp only [List.setIfInBounds_toArray, List.set_cons_zero, List.set_cons_succ]
        refine AnyU.next (i := 6) (v := ?_) hq hns hHeld rfl rfl (by kernel_rfl) (Or.inl ⟨by rfl, ?_⟩) ?_
        rotate_left
        · intro w' hSw; (try dsimp only at hSw); go_simp <;> with_reducible rfl
        try simp only [List.setIfInBounds_toArray, List.set_cons_zero, List.set_cons_succ]
        have f0 := Sx.frozen 0
        have f1 := Sx.frozen 1
        have f2 := Sx.frozen 2
        have f3 := Sx.frozen 3
        have f4 := Sx.frozen 4
        have f5 := Sx.frozen 5
        have j0 := Sx.cell 0
        have j1 := Sx.cell 1
        have j2 := Sx.cell 2
        have j3 := Sx.cell 3
        have j4 := Sx.cell 4
        have j5 := Sx.cell 5
        refine AnyU.one 8 (by kernel_rfl) rfl (fun K hK => ?_)
        go_simp
        refine hK.out _ _ (.inl rfl) (fun _ => ?_)
        clear hK K hHeld
        try simp only [List.setIfInBounds_toArray, List.set_cons_zero, List.set_cons_succ]
        clear f0 f1 f2 f3 f4 f5 j0 j1 j2 j3 j4 j5
        refine AnyU.done (by kernel_rfl) (hQK.out _ _ ?_)
        clear hQK hq hns
        have Sx := Sx.put6x (.bool false) (.slice none 0 0) (.slice (some ⟨gB, 0, none⟩) 1 1) (.bool false) (.slice none 0 0) (.slice D 1 d)
        have OB := OB.putg (b := g) hgB (.bool false) (.slice none 0 0) (.slice (some ⟨gB, 0, none⟩) 1 1) (.bool false) (.slice none 0 0) (.slice D 1 d)
        have OD := OD.far6 (b := g) hDg (.bool false) (.slice none 0 0) (.slice (some ⟨gB, 0, none⟩) 1 1) (.bool false) (.slice none 0 0) (.slice D 1 d)
        have kkd := kkd.put6g hgr (.bool false) (.slice none 0 0) (.slice (some ⟨gB, 0, none⟩) 1 1) (.bool false) (.slice none 0 0) (.slice D 1 d)
        obtain ⟨w9, hw9⟩ : ∃ w9, w9 = wr6 v3 g (.bool false) (.slice none 0 0) (.slice (some ⟨gB, 0, none⟩) 1 1) (.bool false) (.slice none 0 0) (.slice D 1 d) := ⟨_, rfl⟩
        have hw9' := hw9
        unfold wr6 wr3 at hw9'
        rw [← hw9']
        rw [← hw9] at Sx OB OD kkd
        clear hw9 hw9'
        go_wp2_with fail
        go_meet
        exact ⟨g, gB, D, d, rfl, Sx, OB, OD, kkd, hgr, hgB, hDg⟩
  case rest =>
    obtain ⟨g, gB, D, d, rfl, Sx, OB, OD, kkd, hgr, hgB, hDg⟩ := hcut
    have hgl := Sx.2
    have OBl := OB.lt.2
    have hDl0 : ∀ g', D = some ⟨g', 0, none⟩ → g' < _ := fun g' hA => (OD.bet g' hA).2
    have BB := kkd.2.2
    have i0 := kkd.1.cell 0
    have i1 := kkd.1.cell 1
    have i2 := kkd.1.cell 2
    have i3 := kkd.1.cell 3
    have i4 := kkd.1.cell 4
    have i5 := kkd.1.cell 5
    have L8 := bal wc (.cells #[.bool false, .slice A1 a1.length c1, .slice D1 b1.length d1, .bool s2, .slice A2 a2.length c2, .slice D2 b2.length d2] 26)
    have Sb := SB.new wc [.bool false, .slice A1 a1.length c1, .slice D1 b1.length d1, .bool s2, .slice A2 a2.length c2, .slice D2 b2.length d2] 26
    have kkd := kkd.nx L8
    have Sx := Sx.nx L8
    have OB := OB.below L8 (Nat.le_refl _)
    have OD := OD.below L8 (Nat.le_refl _)
    have hgb : g < wc.heap.size := hgl
    have hDl : ∀ g', D = some ⟨g', 0, none⟩ → g' < wc.heap.size := hDl0
    obtain ⟨gb, hgbe⟩ : ∃ gb, gb = wc.heap.size := ⟨_, rfl⟩
    obtain ⟨w8, hw8⟩ : ∃ w8, w8 = wc.alloc (.cells #[.bool false, .slice A1 a1.length c1, .slice D1 b1.length d1, .bool s2, .slice A2 a2.length c2, .slice D2 b2.length d2] 26) := ⟨_, rfl⟩
    go_upto_region 13 with fail
    rw [← hgbe] at Sb hgb hDl OBl ⊢
    rw [← hw8] at Sb kkd Sx OB OD ⊢
    clear hw8 hgbe L8 i0 i1 i2 i3 i4 i5
    have BB := kkd.2.2
    have i0 := kkd.1.cell 0
    go_upto_region 15 with fail
    clear i0
    obtain ⟨w10, hw10⟩ : ∃ w10, w10 = w8 := ⟨_, rfl⟩
    rw [← hw10] at Sb Sx kkd OB OD BB ⊢
    clear hw10
    have f0 := Sx.frozen 0
    have i0 := Sx.cell 0
    go_upto_region 16 with fail
    clear f0 i0
    have Sx := Sx.set 0 (.bool false)
    have kkd := kkd.farS hgr 0 (.bool false)
    have OB := OB.far (p := ⟨g, 0, none⟩) (fun g' hA => by cases hA; show gB ≠ g; exact hgB) (.bool false)
    have OD := OD.far (p := ⟨g, 0, none⟩) (fun g' hA => by exact hDg g' hA) (.bool false)
    have Sb := Sb.far (p := ⟨g, 0, none⟩) (by show gb ≠ g; omega) (.bool false)
    obtain ⟨w11, hw11⟩ : ∃ w11, w11 = w10.setCell ⟨g, 0, none⟩ (.bool false) := ⟨_, rfl⟩
    rw [← hw11] at Sb Sx kkd OB OD ⊢
    clear hw11
    have BB := kkd.2.2
    have i1 := Sb.cell 1
    go_wp2_with fail
    refine (hD _ _ w11 (st p1 BB)).mono ?_; rintro e12 w12 ⟨T, ct, rfl, OT, B12⟩
    clear hD i1
    have hgl2 : g < w11.heap.size := Sx.2
    have hTg : ∀ g', T = some ⟨g', 0, none⟩ → g' ≠ g := fun g' hA => by have := OT.bet g' hA; omega
    have hz11 : w.heap.size + 1 < w11.heap.size := kkd.2.1.2
    have OT := OT.base_le (B := w.heap.size + 2) (by omega)
    have kkd := kkd.nx B12
    have Sx := Sx.nx B12
    have OB := OB.below B12 (Nat.le_refl _)
    have OD := OD.below B12 (Nat.le_refl _)
    have f1 := Sx.frozen 1
    have i1 := Sx.cell 1
    go_upto_region 17 with fail
    clear f1 i1 Sb 
    have Sx := Sx.set 1 (.slice T u0.length ct)
    have kkd := kkd.farS hgr 1 (.slice T u0.length ct)
    have OB := OB.far (p := ⟨g, 1, none⟩) (fun g' hA => by cases hA; show gB ≠ g; exact hgB) (.slice T u0.length ct)
    have OD := OD.far (p := ⟨g, 1, none⟩) (fun g' hA => by exact hDg g' hA) (.slice T u0.length ct)
    have OT := OT.far (p := ⟨g, 1, none⟩) (fun g' hA => by exact hTg g' hA) (.slice T u0.length ct)
    obtain ⟨w13, hw13⟩ : ∃ w13, w13 = w12.setCell ⟨g, 1, none⟩ (.slice T u0.length ct) := ⟨_, rfl⟩
    rw [← hw13] at Sx kkd OB OD OT ⊢
    clear hw13 B12
    have i0 := kkd.1.cell 0
    go_upto_region 19 with fail
    clear i0
    have hRC := kkd.2.1
    have BB := kkd.2.2
    have j0 := Sx.cell 0
    have j1 := Sx.cell 1
    have j2 := Sx.cell 2
    have j3 := Sx.cell 3
    have j4 := Sx.cell 4
    have j5 := Sx.cell 5
    go_wp2_with (refine wp_st6 rfl (.tmp 4) (.tmp 67) rfl _ rfl _ _ _ _ _ _ rfl hRC rfl rfl rfl rfl rfl rfl ?_)
    clear j0 j1 j2 j3 j4 j5
    have s6 := hRC.put6 (.bool false) (.slice T u0.length ct) (.slice (some ⟨gB, 0, none⟩) 1 1) (.bool false) (.slice none 0 0) (.slice D 1 d)
    have B6 := wr6_below (b := w.heap.size + 1) BB (by omega) (.bool false) (.slice T u0.length ct) (.slice (some ⟨gB, 0, none⟩) 1 1) (.bool false) (.slice none 0 0) (.slice D 1 d)
    have OT := OT.put6 (b := w.heap.size + 1) (by omega) (.bool false) (.slice T u0.length ct) (.slice (some ⟨gB, 0, none⟩) 1 1) (.bool false) (.slice none 0 0) (.slice D 1 d)
    have OB := OB.put6 (b := w.heap.size + 1) (by omega) (.bool false) (.slice T u0.length ct) (.slice (some ⟨gB, 0, none⟩) 1 1) (.bool false) (.slice none 0 0) (.slice D 1 d)
    have OD := OD.put6 (b := w.heap.size + 1) (by omega) (.bool false) (.slice T u0.length ct) (.slice (some ⟨gB, 0, none⟩) 1 1) (.bool false) (.slice none 0 0) (.slice D 1 d)
    have r0' := s6.cell 0
    have r1' := s6.cell 1
    have r2' := s6.cell 2
    have r3' := s6.cell 3
    have r4' := s6.cell 4
    have r5' := s6.cell 5
    refine bodyPost_ret (v := .tuple #[.agg #[.bool false, .slice T u0.length ct, .slice (some ⟨gB, 0, none⟩) 1 1, .bool false, .slice none 0 0, .slice D 1 d], .int .i64 0]) (by simp [results, r0', r1', r2', r3', r4', r5', go_sem]) rfl ?_
    exact ⟨_, _, _, _, _, _, _, _, rfl, OT.base_le (by omega), OB.base_le (by omega), OW.nil _ _, OD.base_le (by omega), B6⟩


set_option maxRecDepth 100000 in
set_option maxHeartbeats 16000000 in
theorem rbshift_down_true (s2 : Bool) (a1 b1 a2 b2 : List Nat) (A1 D1 A2 D2 : Option Addr) (c1 d1 c2 d2 : Nat) (w : World) (p1 : RW w w.heap.size A1 c1 a1) (p2 : RW w w.heap.size D1 d1 b1) (p3 : RW w w.heap.size A2 c2 a2) (p4 : RW w w.heap.size D2 d2 b2) (X : Int) (n : Int) (m : Nat) (hnm : -n = (m : Int)) (hm0 : 0 < m) (hm : m ≤ 16384) (v : Nat) (hv : X = -(v : Int) - 1) (hX : Hid ((⟨true, a1, b1⟩ : Rw) = rwq ((X : Int) : Rat))) (lx : a1.length ≤ 512) (hk : bchkN1 ⟨true, a1, b1⟩ ⟨s2, a2, b2⟩ = 0) :
    Calls Try.prog 19 #[.agg #[.bool true, .slice A1 a1.length c1, .slice D1 b1.length d1, .bool s2, .slice A2 a2.length c2, .slice D2 b2.length d2], .int .i64 n] w (RetNE w (fitQ (((X / ((2 ^ m : Nat) : Int) : Int)) : Rat) 0)) := by
  have kk0 := S2.new w [.bool true, .slice A1 a1.length c1, .slice D1 b1.length d1, .bool s2, .slice A2 a2.length c2, .slice D2 b2.length d2] [.bool false, .slice none 0 0, .slice none 0 0, .bool false, .slice none 0 0, .slice none 0 0] 26 26 6
  have LB4 := bal ((w.alloc (.cells #[.bool true, .slice A1 a1.length c1, .slice D1 b1.length d1, .bool s2, .slice A2 a2.length c2, .slice D2 b2.length d2] 26)).alloc (.cells #[.bool false, .slice none 0 0, .slice none 0 0, .bool false, .slice none 0 0, .slice none 0 0] 26)) (.cells #[.bool true, .slice A1 a1.length c1, .slice D1 b1.length d1, .bool s2, .slice A2 a2.length c2, .slice D2 b2.length d2] 26)
  have kk1 := kk0.nx LB4
  have SG := SB.new ((w.alloc (.cells #[.bool true, .slice A1 a1.length c1, .slice D1 b1.length d1, .bool s2, .slice A2 a2.length c2, .slice D2 b2.length d2] 26)).alloc (.cells #[.bool false, .slice none 0 0, .slice none 0 0, .bool false, .slice none 0 0, .slice none 0 0] 26)) [.bool true, .slice A1 a1.length c1, .slice D1 b1.length d1, .bool s2, .slice A2 a2.length c2, .slice D2 b2.length d2] 26
  have z3 : ((w.alloc (.cells #[.bool true, .slice A1 a1.length c1, .slice D1 b1.length d1, .bool s2, .slice A2 a2.length c2, .slice D2 b2.length d2] 26)).alloc (.cells #[.bool false, .slice none 0 0, .slice none 0 0, .bool false, .slice none 0 0, .slice none 0 0] 26)).heap.size = w.heap.size + 2 := by simp
  rw [z3] at SG
  have hC := fun w' hg h1 h2 h3 h4 => rbcheck1_any (w.heap.size + 2) true a1 b1 s2 a2 b2 A1 c1 D1 d1 A2 c2 D2 d2 w' hg h1 h2 h3 h4
  have BW := kk1.2.2
  obtain ⟨W, hW⟩ : ∃ W, W = ((w.alloc (.cells #[.bool true, .slice A1 a1.length c1, .slice D1 b1.length d1, .bool s2, .slice A2 a2.length c2, .slice D2 b2.length d2] 26)).alloc (.cells #[.bool false, .slice none 0 0, .slice none 0 0, .bool false, .slice none 0 0, .slice none 0 0] 26)).alloc (.cells #[.bool true, .slice A1 a1.length c1, .slice D1 b1.length d1, .bool s2, .slice A2 a2.length c2, .slice D2 b2.length d2] 26) := ⟨_, rfl⟩
  have i0 := kk0.1.cell 0
  have i1 := kk0.1.cell 1
  have i2 := kk0.1.cell 2
  have i3 := kk0.1.cell 3
  have i4 := kk0.1.cell 4
  have i5 := kk0.1.cell 5
  simp only [hk] at hC
  clear hk
  have hYl : qw (((X / ((2 ^ m : Nat) : Int) : Int)) : Rat) ≤ 512 := by
    have h1 : (X / ((2 ^ m : Nat) : Int)).natAbs ≤ X.natAbs := Int.natAbs_ediv_le_natAbs _ _
    have h2 := digs_mono h1
    have h3 : a1 = digs X.natAbs := congrArg Rw.a hX.out
    rw [← h3] at h2
    unfold qw
    rw [qd_int, digs_one1, qt_int]
    exact Nat.max_le.2 ⟨by omega, by simp⟩
  have hF := Lib.hid (fitQ_ok hYl (by rw [qw_zero]; omega : qw 0 ≤ 512))
  clear hYl
  have hT := fun w' h1 h2 => rturn_int X true s2 a1 b1 A1 D1 A2 D2 c1 d1 c2 d2 a2.length b2.length w' hX.out (by omega) h1 h2
  have hY : (-X - 1 : Int) = sgn false v := by rw [hv, sgn_false]; omega
  rw [hY, rwq_int false v (fun _ => rfl)] at hT
  dsimp only at hT
  have hvl : (digs v).length ≤ 513 := by
    have h3 : a1 = digs X.natAbs := congrArg Rw.a hX.out
    have h4 := digs_mono (show v ≤ X.natAbs by rw [hv]; omega)
    rw [← h3] at h4; omega
  obtain ⟨y, hy⟩ : ∃ y, Hid (digs v = y) := ⟨_, rfl⟩
  rw [hy.out] at hT hvl
  have hZ : X / ((2 ^ m : Nat) : Int) = sgn true (v / 2 ^ m + 1) := by
    rw [hv, floor_neg v (2 ^ m) (Nat.pow_pos (by omega)), sgn_true]; omega
  have hF2 : fitQ (((X / ((2 ^ m : Nat) : Int) : Int)) : Rat) 0 = (⟨true, digs (v / 2 ^ m + 1), [1]⟩, ⟨false, [], [1]⟩, 0) := by
    rw [hF.out, hZ]
    exact fit_in (fun h => absurd h (Nat.succ_ne_zero _))
  rw [hF2]
  have hD := fun A c w' h => rdown_any A c y.length y w' m (by omega) rfl h (by omega)
  have hyv : val y = v := by rw [← hy.out, val_digs]
  rw [hyv] at hD
  unfold RetW at hD
  have HV := Lib.hid hv
  clear hF hF2 hZ hyv hv hY
  obtain ⟨u0, hu0⟩ : ∃ u0, Hid (digs (v / 2 ^ m) = u0) := ⟨_, rfl⟩
  rw [hu0.out] at hD
  have hul : u0.length ≤ 513 := by
    rw [← hu0.out]
    have h4 := digs_mono (Nat.div_le_self v (2 ^ m))
    rw [hy.out] at h4; omega
  have hT2 := fun (gB ct : Nat) (T D : Option Addr) (d : Nat) (w' : World) h1 h2 => rturn_int ((v / 2 ^ m : Nat) : Int) false false u0 [1] T (some ⟨gB, 0, none⟩) none D ct 1 0 d 0 1 w' (by rw [show ((v / 2 ^ m : Nat) : Int) = sgn false (v / 2 ^ m) by rw [sgn_false], rwq_int false _ (fun _ => rfl), hu0.out]) (Nat.le_trans hul (by omega)) h1 h2
  rw [show (-((v / 2 ^ m : Nat) : Int) - 1) = sgn true (v / 2 ^ m + 1) by rw [sgn_true]; omega, rwq_int true (v / 2 ^ m + 1) (fun h => absurd h (Nat.succ_ne_zero _))] at hT2
  dsimp only at hT2
  obtain ⟨z0, hz0⟩ : ∃ z0, Hid (digs (v / 2 ^ m + 1) = z0) := ⟨_, rfl⟩
  rw [hz0.out] at hT2 ⊢
  have t1 : ¬ n < -16384 := by omega
  have t2 : ¬ 16384 < n := by omega
  have t3 : ¬ 0 ≤ n := by omega
  go_enter Try.func19, Try.ntmps19
  go_wp2_with fail
  rw [← hW] at kk1 SG BW ⊢
  clear hW kk0 i0 i1 i2 i3 i4 i5
  refine (hC W SG (st p1 BW) (st p2 BW) (st p3 BW) (st p4 BW)).mono ?_; rintro e w5 ⟨rfl, B5⟩
  clear hC
  have kk5 := kk1.nx B5
  have BB := kk5.2.2
  go_upto_region 6 with fail
  go_cut [7] (fun s7 wx => ∃ (g gB : Nat) (D : Option Addr) (d : Nat), s7 = .pointer (some ⟨g, 0, none⟩) ∧ SB wx g [.bool true, .slice none 0 0, .slice (some ⟨gB, 0, none⟩) 1 1, .bool false, .slice none 0 0, .slice D 1 d] ∧ OW wx (w.heap.size + 2) (some ⟨gB, 0, none⟩) 1 [1] ∧ OW wx (w.heap.size + 2) D d [1] ∧ S2 w w.heap.size [.bool true, .slice A1 a1.length c1, .slice D1 b1.length d1, .bool s2, .slice A2 a2.length c2, .slice D2 b2.length d2] 6 wx ∧ w.heap.size + 1 < g ∧ gB ≠ g ∧ (∀ g', D = some ⟨g', 0, none⟩ → g' ≠ g))
  case first =>
    have Bd : Below w5.heap.size w5 w5.drew := Below.drew (Below.refl _ _)
    have kkd := kk5.nx Bd
    have hz5 : w.heap.size + 1 < w5.heap.size := kk5.2.1.2
    refine AnyU.regionQ 8 9 (fun w' => w'.cell? ⟨w.heap.size, 0, none⟩ = some (.bool true)) rfl (by kernel_rfl) (by kernel_rfl) (by repeat (first | refine quiet_then ?_ | refine quiet_block ?_ | exact quiet_body)) (kkd.1.cell 0) (fun Q hQK hq hns hHeld => ?_)
    generalize w5.drew = v0 at *
    refine AnyU.next (i := 0) (v := ?_) hq hns hHeld rfl rfl (by kernel_rfl) (Or.inl ⟨by rfl, ?_⟩) ?_
    rotate_left
    · intro w' hSw; (try dsimp only at hSw); go_simp <;> with_reducible rfl
    try simp only [List.setIfInBounds_toArray, List.set_cons_zero, List.set_cons_succ]
    refine AnyU.next (i := 1) (v := ?_) hq hns hHeld rfl rfl (by kernel_rfl) (Or.inl ⟨by rfl, ?_⟩) ?_
    rotate_left
    · intro w' hSw; (try dsimp only at hSw); go_simp <;> with_reducible rfl
    try simp only [List.setIfInBounds_toArray, List.set_cons_zero, List.set_cons_succ]
    refine AnyU.next (i := 2) (v := ?_) hq hns hHeld rfl rfl (by kernel_rfl) (Or.inl ⟨by rfl, ?_⟩) ?_
    rotate_left
    · intro w' hSw; (try dsimp only at hSw); go_simp <;> with_reducible rfl
    try simp only [List.setIfInBounds_toArray, List.set_cons_zero, List.set_cons_succ]
    refine AnyU.three (i := 3) (j := 5) (m := 7) (by kernel_rfl) (USome.mk rfl (fun K hK => ?_)) (USome.mk rfl (fun K hK => ?_)) (USome.mk rfl (fun K hK => ?_))
    · go_simp
      have hzz : w.heap.size + 1 < v0.heap.size := kkd.2.1.2
      have L := bal v0 (.cells #[.int .u32 (1 : Int)] 46)
      have kkd := kkd.nx L
      have OB : OW (v0.alloc (.cells #[.int .u32 (1 : Int)] 46)) (w.heap.size + 2) (some ⟨v0.heap.size, 0, none⟩) 1 [1] := (OW.lit v0 [1] (by simp) (by rw [← digs_one1]; exact B32_digs 1)).base_le hzz
      obtain ⟨gB, hgBe⟩ : ∃ g, g = v0.heap.size := ⟨_, rfl⟩
      rw [← hgBe] at OB ⊢
      have hBl : gB < _ := OB.lt.2
      refine hK.out _ _ (.inr (kkd.1.cell 0)) (fun hHeld => ?_)
      have hHeld := hHeld.resolve_left (by decide)
      clear hK K
      try simp only [List.setIfInBounds_toArray, List.set_cons_zero, List.set_cons_succ]
      obtain ⟨v1, hv⟩ : ∃ v, v = v0.alloc (.cells #[.int .u32 (1 : Int)] 46) := ⟨_, rfl⟩
      rw [← hv] at kkd OB hHeld hBl  ⊢
      clear hv L hgBe
      refine AnyU.next (i := 4) (v := ?_) hq hns hHeld rfl rfl (by kernel_rfl) (Or.inl ⟨by rfl, ?_⟩) ?_
      rotate_left
      · intro w' hSw; (try dsimp only at hSw); go_simp <;> with_reducible rfl
      try simp only [List.setIfInBounds_toArray, List.set_cons_zero, List.set_cons_succ]
      refine AnyU.two (i := 5) (j := 7) (by kernel_rfl) (USome.mk rfl (fun K hK => ?_)) (USome.mk rfl (fun K hK => ?_))
      · go_simp
        have hzz : w.heap.size + 1 < v1.heap.size := kkd.2.1.2
        refine (rzero_any v1).mono ?_; rintro e v2 ⟨D, d, rfl, OD, L⟩
        go_wp2_with fail
        have kkd := kkd.nx L
        have OB := OB.below L (Nat.le_refl _)
        have hDb := OD.bet
        have hDl : ∀ g', D = some ⟨g', 0, none⟩ → g' < v2.heap.size := fun g' hA => (OD.bet g' hA).2
        have OD := OD.base_le (B := w.heap.size + 2) hzz
        refine hK.out _ _ (.inr (kkd.1.cell 0)) (fun hHeld => ?_)
        have hHeld := hHeld.resolve_left (by decide)
        clear hK K
        try simp only [List.setIfInBounds_toArray, List.set_cons_zero, List.set_cons_succ]
        have hBl := Nat.lt_of_lt_of_le hBl L.size
        clear L
        refine AnyU.next (i := 6) (v := ?_) hq hns hHeld rfl rfl (by kernel_rfl) (Or.inl ⟨by rfl, ?_⟩) ?_
        rotate_left
        · intro w' hSw; (try dsimp only at hSw); go_simp <;> with_reducible rfl
        try simp only [List.setIfInBounds_toArray, List.set_cons_zero, List.set_cons_succ]
        refine AnyU.one 7 (by kernel_rfl) rfl (fun K hK => ?_)
        go_simp
        have hzz : w.heap.size + 1 < v2.heap.size := kkd.2.1.2
        have L := bal v2 (.cells #[.bool false, .slice none 0 0, .slice none 0 0, .bool false, .slice none 0 0, .slice none 0 0] 26)
        have kkd := kkd.nx L
        have OB := OB.below L (Nat.le_refl _)
        have OD := OD.below L (Nat.le_refl _)
        have Sx := SB.new v2 [.bool false, .slice none 0 0, .slice none 0 0, .bool false, .slice none 0 0, .slice none 0 0] 26
        obtain ⟨g, hge⟩ : ∃ g, g = v2.heap.size := ⟨_, rfl⟩
        rw [← hge] at Sx ⊢
        have hgr : w.heap.size + 1 < g := by omega
        have hgB : gB ≠ g := by have := hBl; omega
        have hDg : ∀ g', D = some ⟨g', 0, none⟩ → g' ≠ g := fun g' hA => by have := hDl g' hA; omega
        have hgl : g < _ := Sx.2
        refine hK.out _ _ (.inr (kkd.1.cell 0)) (fun hHeld => ?_)
        have hHeld := hHeld.resolve_left (by decide)
        clear hK K
        try simp only [List.setIfInBounds_toArray, List.set_cons_zero, List.set_cons_succ]
        obtain ⟨v3, hv⟩ : ∃ v, v = v2.alloc (.cells #[.bool false, .slice none 0 0, .slice none 0 0, .bool false, .slice none 0 0, .slice none 0 0] 26) := ⟨_, rfl⟩
        rw [← hv] at kkd Sx hHeld hgl OB OD ⊢
        have hBl := Nat.lt_trans hBl (show v2.heap.size < v3.heap.size by rw [hv]; simp)
        have hDl := fun g' hA => Nat.lt_trans (hDl g' hA) (show v2.heap.size < v3.heap.size by rw [hv]; simp)
        clear hv L hge
        have f0 := Sx.frozen 0
        have f1 := Sx.frozen 1
        have f2 := Sx.frozen 2
        have f3 := Sx.frozen 3
        have f4 := Sx.frozen 4
        have f5 := Sx.frozen 5
        have j0 := Sx.cell 0
        have j1 := Sx.cell 1
        have j2 := Sx.cell 2
        have j3 := Sx.cell 3
        have j4 := Sx.cell 4
        have j5 := Sx.cell 5
        refine AnyU.one 8 (by kernel_rfl) rfl (fun K hK => ?_)
        go_simp
        refine hK.out _ _ (.inl rfl) (fun _ => ?_)
        clear hK K hHeld
        try simp only [List.setIfInBounds_toArray, List.set_cons_zero, List.set_cons_succ]
        clear f0 f1 f2 f3 f4 f5 j0 j1 j2 j3 j4 j5
        refine AnyU.done (by kernel_rfl) (hQK.out _ _ ?_)
        clear hQK hq hns
        have Sx := Sx.put6x (.bool true) (.slice none 0 0) (.slice (some ⟨gB, 0, none⟩) 1 1) (.bool false) (.slice none 0 0) (.slice D 1 d)
        have OB := OB.putg (b := g) hgB (.bool true) (.slice none 0 0) (.slice (some ⟨gB, 0, none⟩) 1 1) (.bool false) (.slice none 0 0) (.slice D 1 d)
        have OD := OD.far6 (b := g) hDg (.bool true) (.slice none 0 0) (.slice (some ⟨gB, 0, none⟩) 1 1) (.bool false) (.slice none 0 0) (.slice D 1 d)
        have kkd := kkd.put6g hgr (.bool true) (.slice none 0 0) (.slice (some ⟨gB, 0, none⟩) 1 1) (.bool false) (.slice none 0 0) (.slice D 1 d)
        obtain ⟨w9, hw9⟩ : ∃ w9, w9 = wr6 v3 g (.bool true) (.slice none 0 0) (.slice (some ⟨gB, 0, none⟩) 1 1) (.bool false) (.slice none 0 0) (.slice D 1 d) := ⟨_, rfl⟩
        have hw9' := hw9
        unfold wr6 wr3 at hw9'
        rw [← hw9']
        rw [← hw9] at Sx OB OD kkd
        clear hw9 hw9'
        go_wp2_with fail
        go_meet
        exact ⟨g, gB, D, d, rfl, Sx, OB, OD, kkd, hgr, hgB, hDg⟩
      · go_simp
        have hzz : w.heap.size + 1 < v1.heap.size := kkd.2.1.2
        have L := bal v1 (.cells #[.bool false, .slice none 0 0, .slice none 0 0, .bool false, .slice none 0 0, .slice none 0 0] 26)
        have kkd := kkd.nx L
        have OB := OB.below L (Nat.le_refl _)
        have Sx := SB.new v1 [.bool false, .slice none 0 0, .slice none 0 0, .bool false, .slice none 0 0, .slice none 0 0] 26
        obtain ⟨g, hge⟩ : ∃ g, g = v1.heap.size := ⟨_, rfl⟩
        rw [← hge] at Sx ⊢
        have hgr : w.heap.size + 1 < g := by omega
        have hgB : gB ≠ g := by have := hBl; omega
        have hgl : g < _ := Sx.2
        refine hK.out _ _ (.inr (kkd.1.cell 0)) (fun hHeld => ?_)
        have hHeld := hHeld.resolve_left (by decide)
        clear hK K
        try simp only [List.setIfInBounds_toArray, List.set_cons_zero, List.set_cons_succ]
        obtain ⟨v2, hv⟩ : ∃ v, v = v1.alloc (.cells #[.bool false, .slice none 0 0, .slice none 0 0, .bool false, .slice none 0 0, .slice none 0 0] 26) := ⟨_, rfl⟩
        rw [← hv] at kkd Sx hHeld hgl OB ⊢
        have hBl := Nat.lt_trans hBl (show v1.heap.size < v2.heap.size by rw [hv]; simp)
        clear hv L hge
        refine AnyU.one 5 (by kernel_rfl) rfl (fun K hK => ?_)
        go_simp
        have hzz : w.heap.size + 1 < v2.heap.size := kkd.2.1.2
        refine (rzero_any v2).mono ?_; rintro e v3 ⟨D, d, rfl, OD, L⟩
        go_wp2_with fail
        have kkd := kkd.nx L
        have OB := OB.below L (Nat.le_refl _)
        have Sx := Sx.nx L
        have hDb := OD.bet
        have hDl : ∀ g', D = some ⟨g', 0, none⟩ → g' < v3.heap.size := fun g' hA => (OD.bet g' hA).2
        have OD := OD.base_le (B := w.heap.size + 2) hzz
        have hDg : ∀ g', D = some ⟨g', 0, none⟩ → g' ≠ g := fun g' hA => by have := hDb g' hA; have := hgl; omega
        refine hK.out _ _ (.inr (kkd.1.cell 0)) (fun hHeld => ?_)
        have hHeld := hHeld.resolve_left (by decide)
        clear hK K
        try simp only [List.setIfInBounds_toArray, List.set_cons_zero, List.set_cons_succ]
        have hgl := Nat.lt_of_lt_of_le hgl L.size
        have hBl := Nat.lt_of_lt_of_le hBl L.size
        clear L
        refine AnyU.next (i := 6) (v := ?_) hq hns hHeld rfl rfl (by kernel_rfl) (Or.inl ⟨by rfl, ?_⟩) ?_
        rotate_left
        · intro w' hSw; (try dsimp only at hSw); go_simp <;> with_reducible rfl
        try simp only [List.setIfInBounds_toArray, List.set_cons_zero, List.set_cons_succ]
        have f0 := Sx.frozen 0
        have f1 := Sx.frozen 1
        have f2 := Sx.frozen 2
        have f3 := Sx.frozen 3
        have f4 := Sx.frozen 4
        have f5 := Sx.frozen 5
        have j0 := Sx.cell 0
        have j1 := Sx.cell 1
        have j2 := Sx.cell 2
        have j3 := Sx.cell 3
        have j4 := Sx.cell 4
        have j5 := Sx.cell 5
        refine AnyU.one 8 (by kernel_rfl) rfl (fun K hK => ?_)
        go_simp
        refine hK.out _ _ (.inl rfl) (fun _ => ?_)
        clear hK K hHeld
        try simp only [List.setIfInBounds_toArray, List.set_cons_zero, List.set_cons_succ]
        clear f0 f1 f2 f3 f4 f5 j0 j1 j2 j3 j4 j5
        refine AnyU.done (by kernel_rfl) (hQK.out _ _ ?_)
        clear hQK hq hns
        have Sx := Sx.put6x (.bool true) (.slice none 0 0) (.slice (some ⟨gB, 0, none⟩) 1 1) (.bool false) (.slice none 0 0) (.slice D 1 d)
        have OB := OB.putg (b := g) hgB (.bool true) (.slice none 0 0) (.slice (some ⟨gB, 0, none⟩) 1 1) (.bool false) (.slice none 0 0) (.slice D 1 d)
        have OD := OD.far6 (b := g) hDg (.bool true) (.slice none 0 0) (.slice (some ⟨gB, 0, none⟩) 1 1) (.bool false) (.slice none 0 0) (.slice D 1 d)
        have kkd := kkd.put6g hgr (.bool true) (.slice none 0 0) (.slice (some ⟨gB, 0, none⟩) 1 1) (.bool false) (.slice none 0 0) (.slice D 1 d)
        obtain ⟨w9, hw9⟩ : ∃ w9, w9 = wr6 v3 g (.bool true) (.slice none 0 0) (.slice (some ⟨gB, 0, none⟩) 1 1) (.bool false) (.slice none 0 0) (.slice D 1 d) := ⟨_, rfl⟩
        have hw9' := hw9
        unfold wr6 wr3 at hw9'
        rw [← hw9']
        rw [← hw9] at Sx OB OD kkd
        clear hw9 hw9'
        go_wp2_with fail
        go_meet
        exact ⟨g, gB, D, d, rfl, Sx, OB, OD, kkd, hgr, hgB, hDg⟩
    · go_simp
      have hzz : w.heap.size + 1 < v0.heap.size := kkd.2.1.2
      refine (rzero_any v0).mono ?_; rintro e v1 ⟨D, d, rfl, OD, L⟩
      go_wp2_with fail
      have kkd := kkd.nx L
      have hDb := OD.bet
      have hDl : ∀ g', D = some ⟨g', 0, none⟩ → g' < v1.heap.size := fun g' hA => (OD.bet g' hA).2
      have OD := OD.base_le (B := w.heap.size + 2) hzz
      refine hK.out _ _ (.inr (kkd.1.cell 0)) (fun hHeld => ?_)
      have hHeld := hHeld.resolve_left (by decide)
      clear hK K
      try simp only [List.setIfInBounds_toArray, List.set_cons_zero, List.set_cons_succ]
      clear L
      refine AnyU.two (i := 3) (j := 7) (by kernel_rfl) (USome.mk rfl (fun K hK => ?_)) (USome.mk rfl (fun K hK => ?_))
      · go_simp
        have hzz : w.heap.size + 1 < v1.heap.size := kkd.2.1.2
        have L := bal v1 (.cells #[.int .u32 (1 : Int)] 46)
        have kkd := kkd.nx L
        have OD := OD.below L (Nat.le_refl _)
        have OB : OW (v1.alloc (.cells #[.int .u32 (1 : Int)] 46)) (w.heap.size + 2) (some ⟨v1.heap.size, 0, none⟩) 1 [1] := (OW.lit v1 [1] (by simp) (by rw [← digs_one1]; exact B32_digs 1)).base_le hzz
        obtain ⟨gB, hgBe⟩ : ∃ g, g = v1.heap.size := ⟨_, rfl⟩
        rw [← hgBe] at OB ⊢
        have hBl : gB < _ := OB.lt.2
        refine hK.out _ _ (.inr (kkd.1.cell 0)) (fun hHeld => ?_)
        have hHeld := hHeld.resolve_left (by decide)
        clear hK K
        try simp only [List.setIfInBounds_toArray, List.set_cons_zero, List.set_cons_succ]
        obtain ⟨v2, hv⟩ : ∃ v, v = v1.alloc (.cells #[.int .u32 (1 : Int)] 46) := ⟨_, rfl⟩
        rw [← hv] at kkd OB hHeld hBl OD ⊢
        have hDl := fun g' hA => Nat.lt_trans (hDl g' hA) (show v1.heap.size < v2.heap.size by rw [hv]; simp)
        clear hv L hgBe
        refine AnyU.next (i := 4) (v := ?_) hq hns hHeld rfl rfl (by kernel_rfl) (Or.inl ⟨by rfl, ?_⟩) ?_
        rotate_left
        · intro w' hSw; (try dsimp only at hSw); go_simp <;> with_reducible rfl
        try simp only [List.setIfInBounds_toArray, List.set_cons_zero, List.set_cons_succ]
        refine AnyU.next (i := 6) (v := ?_) hq hns hHeld rfl rfl (by kernel_rfl) (Or.inl ⟨by rfl, ?_⟩) ?_
        rotate_left
        · intro w' hSw; (try dsimp only at hSw); go_simp <;> with_reducible rfl
        try simp only [List.setIfInBounds_toArray, List.set_cons_zero, List.set_cons_succ]
        refine AnyU.one 7 (by kernel_rfl) rfl (fun K hK => ?_)
        go_simp
        have hzz : w.heap.size + 1 < v2.heap.size := kkd.2.1.2
        have L := bal v2 (.cells #[.bool false, .slice none 0 0, .slice none 0 0, .bool false, .slice none 0 0, .slice none 0 0] 26)
        have kkd := kkd.nx L
        have OB := OB.below L (Nat.le_refl _)
        have OD := OD.below L (Nat.le_refl _)
        have Sx := SB.new v2 [.bool false, .slice none 0 0, .slice none 0 0, .bool false, .slice none 0 0, .slice none 0 0] 26
        obtain ⟨g, hge⟩ : ∃ g, g = v2.heap.size := ⟨_, rfl⟩
        rw [← hge] at Sx ⊢
        have hgr : w.heap.size + 1 < g := by omega
        have hgB : gB ≠ g := by have := hBl; omega
        have hDg : ∀ g', D = some ⟨g', 0, none⟩ → g' ≠ g := fun g' hA => by have := hDl g' hA; omega
        have hgl : g < _ := Sx.2
        refine hK.out _ _ (.inr (kkd.1.cell 0)) (fun hHeld => ?_)
        have hHeld := hHeld.resolve_left (by decide)
        clear hK K
        try simp only [List.setIfInBounds_toArray, List.set_cons_zero, List.set_cons_succ]
        obtain ⟨v3, hv⟩ : ∃ v, v = v2.alloc (.cells #[.bool false, .slice none 0 0, .slice none 0 0, .bool false, .slice none 0 0, .slice none 0 0] 26) := ⟨_, rfl⟩
        rw [← hv] at kkd Sx hHeld hgl OB OD ⊢
        have hBl := Nat.lt_trans hBl (show v2.heap.size < v3.heap.size by rw [hv]; simp)
        have hDl := fun g' hA => Nat.lt_trans (hDl g' hA) (show v2.heap.size < v3.heap.size by rw [hv]; simp)
        clear hv L hge
        have f0 := Sx.frozen 0
        have f1 := Sx.frozen 1
        have f2 := Sx.frozen 2
        have f3 := Sx.frozen 3
        have f4 := Sx.frozen 4
        have f5 := Sx.frozen 5
        have j0 := Sx.cell 0
        have j1 := Sx.cell 1
        have j2 := Sx.cell 2
        have j3 := Sx.cell 3
        have j4 := Sx.cell 4
        have j5 := Sx.cell 5
        refine AnyU.one 8 (by kernel_rfl) rfl (fun K hK => ?_)
        go_simp
        refine hK.out _ _ (.inl rfl) (fun _ => ?_)
        clear hK K hHeld
        try simp only [List.setIfInBounds_toArray, List.set_cons_zero, List.set_cons_succ]
        clear f0 f1 f2 f3 f4 f5 j0 j1 j2 j3 j4 j5
        refine AnyU.done (by kernel_rfl) (hQK.out _ _ ?_)
        clear hQK hq hns
        have Sx := Sx.put6x (.bool true) (.slice none 0 0) (.slice (some ⟨gB, 0, none⟩) 1 1) (.bool false) (.slice none 0 0) (.slice D 1 d)
        have OB := OB.putg (b := g) hgB (.bool true) (.slice none 0 0) (.slice (some ⟨gB, 0, none⟩) 1 1) (.bool false) (.slice none 0 0) (.slice D 1 d)
        have OD := OD.far6 (b := g) hDg (.bool true) (.slice none 0 0) (.slice (some ⟨gB, 0, none⟩) 1 1) (.bool false) (.slice none 0 0) (.slice D 1 d)
        have kkd := kkd.put6g hgr (.bool true) (.slice none 0 0) (.slice (some ⟨gB, 0, none⟩) 1 1) (.bool false) (.slice none 0 0) (.slice D 1 d)
        obtain ⟨w9, hw9⟩ : ∃ w9, w9 = wr6 v3 g (.bool true) (.slice none 0 0) (.slice (some ⟨gB, 0, none⟩) 1 1) (.bool false) (.slice none 0 0) (.slice D 1 d) := ⟨_, rfl⟩
        have hw9' := hw9
        unfold wr6 wr3 at hw9'
        rw [← hw9']
        rw [← hw9] at Sx OB OD kkd
        clear hw9 hw9'
        go_wp2_with fail
        go_meet
        exact ⟨g, gB, D, d, rfl, Sx, OB, OD, kkd, hgr, hgB, hDg⟩
      · go_simp
        have hzz : w.heap.size + 1 < v1.heap.size := kkd.2.1.2
        have L := bal v1 (.cells #[.bool false, .slice none 0 0, .slice none 0 0, .bool false, .slice none 0 0, .slice none 0 0] 26)
        have kkd := kkd.nx L
        have OD := OD.below L (Nat.le_refl _)
        have Sx := SB.new v1 [.bool false, .slice none 0 0, .slice none 0 0, .bool false, .slice none 0 0, .slice none 0 0] 26
        obtain ⟨g, hge⟩ : ∃ g, g = v1.heap.size := ⟨_, rfl⟩
        rw [← hge] at Sx ⊢
        have hgr : w.heap.size + 1 < g := by omega
        have hDg : ∀ g', D = some ⟨g', 0, none⟩ → g' ≠ g := fun g' hA => by have := hDl g' hA; omega
        have hgl : g < _ := Sx.2
        refine hK.out _ _ (.inr (kkd.1.cell 0)) (fun hHeld => ?_)
        have hHeld := hHeld.resolve_left (by decide)
        clear hK K
        try simp only [List.setIfInBounds_toArray, List.set_cons_zero, List.set_cons_succ]
        obtain ⟨v2, hv⟩ : ∃ v, v = v1.alloc (.cells #[.bool false, .slice none 0 0, .slice none 0 0, .bool false, .slice none 0 0, .slice none 0 0] 26) := ⟨_, rfl⟩
        rw [← hv] at kkd Sx hHeld hgl OD ⊢
        have hDl := fun g' hA => Nat.lt_trans (hDl g' hA) (show v1.heap.size < v2.heap.size by rw [hv]; simp)
        clear hv L hge
        refine AnyU.one 3 (by kernel_rfl) rfl (fun K hK => ?_)
        go_simp
        have hzz : w.heap.size + 1 < v2.heap.size := kkd.2.1.2
        have L := bal v2 (.cells #[.int .u32 (1 : Int)] 46)
        have kkd := kkd.nx L
        have OD := OD.below L (Nat.le_refl _)
        have Sx := Sx.nx L
        have OB : OW (v2.alloc (.cells #[.int .u32 (1 : Int)] 46)) (w.heap.size + 2) (some ⟨v2.heap.size, 0, none⟩) 1 [1] := (OW.lit v2 [1] (by simp) (by rw [← digs_one1]; exact B32_digs 1)).base_le hzz
        obtain ⟨gB, hgBe⟩ : ∃ g, g = v2.heap.size := ⟨_, rfl⟩
        rw [← hgBe] at OB ⊢
        have hgB : gB ≠ g := by have := hgl; omega
        have hBl : gB < _ := OB.lt.2
        refine hK.out _ _ (.inr (kkd.1.cell 0)) (fun hHeld => ?_)
        have hHeld := hHeld.resolve_left (by decide)
        clear hK K
        try simp only [List.setIfInBounds_toArray, List.set_cons_zero, List.set_cons_succ]
        obtain ⟨v3, hv⟩ : ∃ v, v = v2.alloc (.cells #[.int .u32 (1 : Int)] 46) := ⟨_, rfl⟩
        rw [← hv] at kkd OB hHeld hBl OD Sx ⊢
        have hgl := Nat.lt_trans hgl (show v2.heap.size < v3.heap.size by rw [hv]; simp)
        have hDl := fun g' hA => Nat.lt_trans (hDl g' hA) (show v2.heap.size < v3.heap.size by rw [hv]; simp)
        clear hv L hgBe
        refine AnyU.next (i := 4) (v := ?_) hq hns hHeld rfl rfl (by kernel_rfl) (Or.inl ⟨by rfl, ?_⟩) ?_
        rotate_left
        · intro w' hSw; (try dsimp only at hSw); go_simp <;> with_reducible rfl
        try simp only [List.setIfInBounds_toArray, List.set_cons_zero, List.set_cons_succ]
        refine AnyU.next (i := 6) (v := ?_) hq hns hHeld rfl rfl (by kernel_rfl) (Or.inl ⟨by rfl, ?_⟩) ?_
        rotate_left
        · intro w' hSw; (try dsimp only at hSw); go_simp <;> with_reducible rfl
        try simp only [List.setIfInBounds_toArray, List.set_cons_zero, List.set_cons_succ]
        have f0 := Sx.frozen 0
        have f1 := Sx.frozen 1
        have f2 := Sx.frozen 2
        have f3 := Sx.frozen 3
        have f4 := Sx.frozen 4
        have f5 := Sx.frozen 5
        have j0 := Sx.cell 0
        have j1 := Sx.cell 1
        have j2 := Sx.cell 2
        have j3 := Sx.cell 3
        have j4 := Sx.cell 4
        have j5 := Sx.cell 5
        refine AnyU.one 8 (by kernel_rfl) rfl (fun K hK => ?_)
        go_simp
        refine hK.out _ _ (.inl rfl) (fun _ => ?_)
        clear hK K hHeld
        try simp only [List.setIfInBounds_toArray, List.set_cons_zero, List.set_cons_succ]
        clear f0 f1 f2 f3 f4 f5 j0 j1 j2 j3 j4 j5
        refine AnyU.done (by kernel_rfl) (hQK.out _ _ ?_)
        clear hQK hq hns
        have Sx := Sx.put6x (.bool true) (.slice none 0 0) (.slice (some ⟨gB, 0, none⟩) 1 1) (.bool false) (.slice none 0 0) (.slice D 1 d)
        have OB := OB.putg (b := g) hgB (.bool true) (.slice none 0 0) (.slice (some ⟨gB, 0, none⟩) 1 1) (.bool false) (.slice none 0 0) (.slice D 1 d)
        have OD := OD.far6 (b := g) hDg (.bool true) (.slice none 0 0) (.slice (some ⟨gB, 0, none⟩) 1 1) (.bool false) (.slice none 0 0) (.slice D 1 d)
        have kkd := kkd.put6g hgr (.bool true) (.slice none 0 0) (.slice (some ⟨gB, 0, none⟩) 1 1) (.bool false) (.slice none 0 0) (.slice D 1 d)
        obtain ⟨w9, hw9⟩ : ∃ w9, w9 = wr6 v3 g (.bool true) (.slice none 0 0) (.slice (some ⟨gB, 0, none⟩) 1 1) (.bool false) (.slice none 0 0) (.slice D 1 d) := ⟨_, rfl⟩
        have hw9' := hw9
        unfold wr6 wr3 at hw9'
        rw [← hw9']
        rw [← hw9] at Sx OB OD kkd
        clear hw9 hw9'
        go_wp2_with fail
        go_meet
        exact ⟨g, gB, D, d, rfl, Sx, OB, OD, kkd, hgr, hgB, hDg⟩
    · go_simp
      have hzz : w.heap.size + 1 < v0.heap.size := kkd.2.1.2
      have L := bal v0 (.cells #[.bool false, .slice none 0 0, .slice none 0 0, .bool false, .slice none 0 0, .slice none 0 0] 26)
      have kkd := kkd.nx L
      have Sx := SB.new v0 [.bool false, .slice none 0 0, .slice none 0 0, .bool false, .slice none 0 0, .slice none 0 0] 26
      obtain ⟨g, hge⟩ : ∃ g, g = v0.heap.size := ⟨_, rfl⟩
      rw [← hge] at Sx ⊢
      have hgr : w.heap.size + 1 < g := by omega
      have hgl : g < _ := Sx.2
      refine hK.out _ _ (.inr (kkd.1.cell 0)) (fun hHeld => ?_)
      have hHeld := hHeld.resolve_left (by decide)
      clear hK K
      try simp only [List.setIfInBounds_toArray, List.set_cons_zero, List.set_cons_succ]
      obtain ⟨v1, hv⟩ : ∃ v, v = v0.alloc (.cells #[.bool false, .slice none 0 0, .slice none 0 0, .bool false, .slice none 0 0, .slice none 0 0] 26) := ⟨_, rfl⟩
      rw [← hv] at kkd Sx hHeld hgl  ⊢
      clear hv L hge
      refine AnyU.two (i := 3) (j := 5) (by kernel_rfl) (USome.mk rfl (fun K hK => ?_)) (USome.mk rfl (fun K hK => ?_))
      · go_simp
        have hzz : w.heap.size + 1 < v1.heap.size := kkd.2.1.2
        have L := bal v1 (.cells #[.int .u32 (1 : Int)] 46)
        have kkd := kkd.nx L
        have Sx := Sx.nx L
        have OB : OW (v1.alloc (.cells #[.int .u32 (1 : Int)] 46)) (w.heap.size + 2) (some ⟨v1.heap.size, 0, none⟩) 1 [1] := (OW.lit v1 [1] (by simp) (by rw [← digs_one1]; exact B32_digs 1)).base_le hzz
        obtain ⟨gB, hgBe⟩ : ∃ g, g = v1.heap.size := ⟨_, rfl⟩
        rw [← hgBe] at OB ⊢
        have hgB : gB ≠ g := by have := hgl; omega
        have hBl : gB < _ := OB.lt.2
        refine hK.out _ _ (.inr (kkd.1.cell 0)) (fun hHeld => ?_)
        have hHeld := hHeld.resolve_left (by decide)
        clear hK K
        try simp only [List.setIfInBounds_toArray, List.set_cons_zero, List.set_cons_succ]
        obtain ⟨v2, hv⟩ : ∃ v, v = v1.alloc (.cells #[.int .u32 (1 : Int)] 46) := ⟨_, rfl⟩
        rw [← hv] at kkd OB hHeld hBl Sx ⊢
        have hgl := Nat.lt_trans hgl (show v1.heap.size < v2.heap.size by rw [hv]; simp)
        clear hv L hgBe
        refine AnyU.next (i := 4) (v := ?_) hq hns hHeld rfl rfl (by kernel_rfl) (Or.inl ⟨by rfl, ?_⟩) ?_
        rotate_left
        · intro w' hSw; (try dsimp only at hSw); go_simp <;> with_reducible rfl
        try simp only [List.setIfInBounds_toArray, List.set_cons_zero, List.set_cons_succ]
        refine AnyU.one 5 (by kernel_rfl) rfl (fun K hK => ?_)
        go_simp
        have hzz : w.heap.size + 1 < v2.heap.size := kkd.2.1.2
        refine (rzero_any v2).mono ?_; rintro e v3 ⟨D, d, rfl, OD, L⟩
        go_wp2_with fail
        have kkd := kkd.nx L
        have OB := OB.below L (Nat.le_refl _)
        have Sx := Sx.nx L
        have hDb := OD.bet
        have hDl : ∀ g', D = some ⟨g', 0, none⟩ → g' < v3.heap.size := fun g' hA => (OD.bet g' hA).2
        have OD := OD.base_le (B := w.heap.size + 2) hzz
        have hDg : ∀ g', D = some ⟨g', 0, none⟩ → g' ≠ g := fun g' hA => by have := hDb g' hA; have := hgl; omega
        refine hK.out _ _ (.inr (kkd.1.cell 0)) (fun hHeld => ?_)
        have hHeld := hHeld.resolve_left (by decide)
        clear hK K
        try simp only [List.setIfInBounds_toArray, List.set_cons_zero, List.set_cons_succ]
        have hgl := Nat.lt_of_lt_of_le hgl L.size
        have hBl := Nat.lt_of_lt_of_le hBl L.size
        clear L
        refine AnyU.next (i := 6) (v := ?_) hq hns hHeld rfl rfl (by kernel_rfl) (Or.inl ⟨by rfl, ?_⟩) ?_
        rotate_left
        · intro w' hSw; (try dsimp only at hSw); go_simp <;> with_reducible rfl
        try simp only [List.setIfInBounds_toArray, List.set_cons_zero, List.set_cons_succ]
        have f0 := Sx.frozen 0
        have f1 := Sx.frozen 1
        have f2 := Sx.frozen 2
        have f3 := Sx.frozen 3
        have f4 := Sx.frozen 4
        have f5 := Sx.frozen 5
        have j0 := Sx.cell 0
        have j1 := Sx.cell 1
        have j2 := Sx.cell 2
        have j3 := Sx.cell 3
        have j4 := Sx.cell 4
        have j5 := Sx.cell 5
        refine AnyU.one 8 (by kernel_rfl) rfl (fun K hK => ?_)
        go_simp
        refine hK.out _ _ (.inl rfl) (fun _ => ?_)
        clear hK K hHeld
        try simp only [List.setIfInBounds_toArray, List.set_cons_zero, List.set_cons_succ]
        clear f0 f1 f2 f3 f4 f5 j0 j1 j2 j3 j4 j5
        refine AnyU.done (by kernel_rfl) (hQK.out _ _ ?_)
        clear hQK hq hns
        have Sx := Sx.put6x (.bool true) (.slice none 0 0) (.slice (some ⟨gB, 0, none⟩) 1 1) (.bool false) (.slice none 0 0) (.slice D 1 d)
        have OB := OB.putg (b := g) hgB (.bool true) (.slice none 0 0) (.slice (some ⟨gB, 0, none⟩) 1 1) (.bool false) (.slice none 0 0) (.slice D 1 d)
        have OD := OD.far6 (b := g) hDg (.bool true) (.slice none 0 0) (.slice (some ⟨gB, 0, none⟩) 1 1) (.bool false) (.slice none 0 0) (.slice D 1 d)
        have kkd := kkd.put6g hgr (.bool true) (.slice none 0 0) (.slice (some ⟨gB, 0, none⟩) 1 1) (.bool false) (.slice none 0 0) (.slice D 1 d)
        obtain ⟨w9, hw9⟩ : ∃ w9, w9 = wr6 v3 g (.bool true) (.slice none 0 0) (.slice (some ⟨gB, 0, none⟩) 1 1) (.bool false) (.slice none 0 0) (.slice D 1 d) := ⟨_, rfl⟩
        have hw9' := hw9
        unfold wr6 wr3 at hw9'
        rw [← hw9']
        rw [← hw9] at Sx OB OD kkd
        clear hw9 hw9'
        go_wp2_with fail
        go_meet
        exact ⟨g, gB, D, d, rfl, Sx, OB, OD, kkd, hgr, hgB, hDg⟩
      · go_simp
        have hzz : w.heap.size + 1 < v1.heap.size := kkd.2.1.2
        refine (rzero_any v1).mono ?_; rintro e v2 ⟨D, d, rfl, OD, L⟩
        go_wp2_with fail
        have kkd := kkd.nx L
        have Sx := Sx.nx L
        have hDb := OD.bet
        have hDl : ∀ g', D = some ⟨g', 0, none⟩ → g' < v2.heap.size := fun g' hA => (OD.bet g' hA).2
        have OD := OD.base_le (B := w.heap.size + 2) hzz
        have hDg : ∀ g', D = some ⟨g', 0, none⟩ → g' ≠ g := fun g' hA => by have := hDb g' hA; have := hgl; omega
        refine hK.out _ _ (.inr (kkd.1.cell 0)) (fun hHeld => ?_)
        have hHeld := hHeld.resolve_left (by decide)
        clear hK K
        try simp only [List.setIfInBounds_toArray, List.set_cons_zero, List.set_cons_succ]
        have hgl := Nat.lt_of_lt_of_le hgl L.size
        clear L
        refine AnyU.one 3 (by kernel_rfl) rfl (fun K hK => ?_)
        go_simp
        have hzz : w.heap.size + 1 < v2.heap.size := kkd.2.1.2
        have L := bal v2 (.cells #[.int .u32 (1 : Int)] 46)
        have kkd := kkd.nx L
        have OD := OD.below L (Nat.le_refl _)
        have Sx := Sx.nx L
        have OB : OW (v2.alloc (.cells #[.int .u32 (1 : Int)] 46)) (w.heap.size + 2) (some ⟨v2.heap.size, 0, none⟩) 1 [1] := (OW.lit v2 [1] (by simp) (by rw [← digs_one1]; exact B32_digs 1)).base_le hzz
        obtain ⟨gB, hgBe⟩ : ∃ g, g = v2.heap.size := ⟨_, rfl⟩
        rw [← hgBe] at OB ⊢
        have hgB : gB ≠ g := by have := hgl; omega
        have hBl : gB < _ := OB.lt.2
        refine hK.out _ _ (.inr (kkd.1.cell 0)) (fun hHeld => ?_)
        have hHeld := hHeld.resolve_left (by decide)
        clear hK K
        try simp only [List.setIfInBounds_toArray, List.set_cons_zero, List.set_cons_succ]
        obtain ⟨v3, hv⟩ : ∃ v, v = v2.alloc (.cells #[.int .u32 (1 : Int)] 46) := ⟨_, rfl⟩
        rw [← hv] at kkd OB hHeld hBl OD Sx ⊢
        have hgl := Nat.lt_trans hgl (show v2.heap.size < v3.heap.size by rw [hv]; simp)
        have hDl := fun g' hA => Nat.lt_trans (hDl g' hA) (show v2.heap.size < v3.heap.size by rw [hv]; simp)
        clear hv L hgBe
        refine AnyU.next (i := 4) (v := ?_) hq hns hHeld rfl rfl (by kernel_rfl) (Or.inl ⟨by rfl, ?_⟩) ?_
        rotate_left
        · intro w' hSw; (try dsimp only at hSw); go_simp <;> with_reducible rfl
        try simp only [List.setIfInBounds_toArray, List.set_cons_zero, List.set_cons_succ]
        refine AnyU.next (i := 6) (v := ?_) hq hns hHeld rfl rfl (by kernel_rfl) (Or.inl ⟨by rfl, ?_⟩) ?_
        rotate_left
        · intro w' hSw; (try dsimp only at hSw); go_simp <;> with_reducible rfl
        try simp only [List.setIfInBounds_toArray, List.set_cons_zero, List.set_cons_succ]
        have f0 := Sx.frozen 0
        have f1 := Sx.frozen 1
        have f2 := Sx.frozen 2
        have f3 := Sx.frozen 3
        have f4 := Sx.frozen 4
        have f5 := Sx.frozen 5
        have j0 := Sx.cell 0
        have j1 := Sx.cell 1
        have j2 := Sx.cell 2
        have j3 := Sx.cell 3
        have j4 := Sx.cell 4
        have j5 := Sx.cell 5
        refine AnyU.one 8 (by kernel_rfl) rfl (fun K hK => ?_)
        go_simp
        refine hK.out _ _ (.inl rfl) (fun _ => ?_)
        clear hK K hHeld
        try simp only [List.setIfInBounds_toArray, List.set_cons_zero, List.set_cons_succ]
        clear f0 f1 f2 f3 f4 f5 j0 j1 j2 j3 j4 j5
        refine AnyU.done (by kernel_rfl) (hQK.out _ _ ?_)
        clear hQK hq hns
        have Sx := Sx.put6x (.bool true) (.slice none 0 0) (.slice (some ⟨gB, 0, none⟩) 1 1) (.bool false) (.slice none 0 0) (.slice D 1 d)
        have OB := OB.putg (b := g) hgB (.bool true) (.slice none 0 0) (.slice (some ⟨gB, 0, none⟩) 1 1) (.bool false) (.slice none 0 0) (.slice D 1 d)
        have OD := OD.far6 (b := g) hDg (.bool true) (.slice none 0 0) (.slice (some ⟨gB, 0, none⟩) 1 1) (.bool false) (.slice none 0 0) (.slice D 1 d)
        have kkd := kkd.put6g hgr (.bool true) (.slice none 0 0) (.slice (some ⟨gB, 0, none⟩) 1 1) (.bool false) (.slice none 0 0) (.slice D 1 d)
        obtain ⟨w9, hw9⟩ : ∃ w9, w9 = wr6 v3 g (.bool true) (.slice none 0 0) (.slice (some ⟨gB, 0, none⟩) 1 1) (.bool false) (.slice none 0 0) (.slice D 1 d) := ⟨_, rfl⟩
        have hw9' := hw9
        unfold wr6 wr3 at hw9'
        rw [← hw9']
        rw [← hw9] at Sx OB OD kkd
        clear hw9 hw9'
        go_wp2_with fail
        go_meet
        exact ⟨g, gB, D, d, rfl, Sx, OB, OD, kkd, hgr, hgB, hDg⟩
  case rest =>
    obtain ⟨g, gB, D, d, rfl, Sx, OB, OD, kkd, hgr, hgB, hDg⟩ := hcut
    have hgl := Sx.2
    have OBl := OB.lt.2
    have hDl0 : ∀ g', D = some ⟨g', 0, none⟩ → g' < _ := fun g' hA => (OD.bet g' hA).2
    have BB := kkd.2.2
    have i0 := kkd.1.cell 0
    have i1 := kkd.1.cell 1
    have i2 := kkd.1.cell 2
    have i3 := kkd.1.cell 3
    have i4 := kkd.1.cell 4
    have i5 := kkd.1.cell 5
    have L8 := bal wc (.cells #[.bool true, .slice A1 a1.length c1, .slice D1 b1.length d1, .bool s2, .slice A2 a2.length c2, .slice D2 b2.length d2] 26)
    have Sb := SB.new wc [.bool true, .slice A1 a1.length c1, .slice D1 b1.length d1, .bool s2, .slice A2 a2.length c2, .slice D2 b2.length d2] 26
    have kkd := kkd.nx L8
    have Sx := Sx.nx L8
    have OB := OB.below L8 (Nat.le_refl _)
    have OD := OD.below L8 (Nat.le_refl _)
    have hgb : g < wc.heap.size := hgl
    have hDl : ∀ g', D = some ⟨g', 0, none⟩ → g' < wc.heap.size := hDl0
    obtain ⟨gb, hgbe⟩ : ∃ gb, gb = wc.heap.size := ⟨_, rfl⟩
    obtain ⟨w8, hw8⟩ : ∃ w8, w8 = wc.alloc (.cells #[.bool true, .slice A1 a1.length c1, .slice D1 b1.length d1, .bool s2, .slice A2 a2.length c2, .slice D2 b2.length d2] 26) := ⟨_, rfl⟩
    go_upto_region 13 with fail
    rw [← hgbe] at Sb hgb hDl OBl ⊢
    rw [← hw8] at Sb kkd Sx OB OD ⊢
    clear hw8 hgbe L8 i0 i1 i2 i3 i4 i5
    have BB := kkd.2.2
    have i0 := kkd.1.cell 0
    have i1 := kkd.1.cell 1
    have i2 := kkd.1.cell 2
    have i3 := kkd.1.cell 3
    have i4 := kkd.1.cell 4
    have i5 := kkd.1.cell 5
    go_wp2_with fail
    refine (hT w8 (st p1 BB) (st p2 BB)).mono ?_; rintro e9 w9 ⟨Y1, e1, Y2, e2, rfl, OY, OZ, B9⟩
    clear hT i0 i1 i2 i3 i4 i5
    have hzb := Sb.2
    have hYb : ∀ g', Y1 = some ⟨g', 0, none⟩ → gb < g' := fun g' hA => by have := OY.bet g' hA; omega
    have kkd := kkd.nx B9
    have Sx := Sx.nx B9
    have Sb := Sb.nx B9
    have OB := OB.below B9 (Nat.le_refl _)
    have OD := OD.below B9 (Nat.le_refl _)
    have hRb := Sb.rc (n := 6)
    go_upto_region 15 with (refine wp_st6 rfl (.tmp 8) (.tmp 51) rfl _ rfl _ _ _ _ _ _ rfl hRb rfl rfl rfl rfl rfl rfl ?_)
    have Sb := Sb.put6x (.bool false) (.slice Y1 y.length e1) (.slice Y2 1 e2) (.bool s2) (.slice A2 a2.length c2) (.slice D2 b2.length d2)
    have Sx := Sx.wr6 (r := gb) (by omega) (.bool false) (.slice Y1 y.length e1) (.slice Y2 1 e2) (.bool s2) (.slice A2 a2.length c2) (.slice D2 b2.length d2)
    have kkd := kkd.put6g (g := gb) (by omega) (.bool false) (.slice Y1 y.length e1) (.slice Y2 1 e2) (.bool s2) (.slice A2 a2.length c2) (.slice D2 b2.length d2)
    have OB := OB.far6 (b := gb) (fun g' hA => by have := OBl; cases hA; omega) (.bool false) (.slice Y1 y.length e1) (.slice Y2 1 e2) (.bool s2) (.slice A2 a2.length c2) (.slice D2 b2.length d2)
    have OD := OD.far6 (b := gb) (fun g' hA => by have := hDl g' hA; omega) (.bool false) (.slice Y1 y.length e1) (.slice Y2 1 e2) (.bool s2) (.slice A2 a2.length c2) (.slice D2 b2.length d2)
    have OY := OY.far6 (b := gb) (fun g' hA => by have := hYb g' hA; omega) (.bool false) (.slice Y1 y.length e1) (.slice Y2 1 e2) (.bool s2) (.slice A2 a2.length c2) (.slice D2 b2.length d2)
    obtain ⟨w10, hw10⟩ : ∃ w10, w10 = wr6 w9 gb (.bool false) (.slice Y1 y.length e1) (.slice Y2 1 e2) (.bool s2) (.slice A2 a2.length c2) (.slice D2 b2.length d2) := ⟨_, rfl⟩
    rw [← hw10] at Sb Sx kkd OB OD OY ⊢
    clear hw10 B9 hRb OZ
    have f0 := Sx.frozen 0
    have i0 := Sx.cell 0
    go_upto_region 16 with fail
    clear f0 i0
    have Sx := Sx.set 0 (.bool false)
    have kkd := kkd.farS hgr 0 (.bool false)
    have OB := OB.far (p := ⟨g, 0, none⟩) (fun g' hA => by cases hA; show gB ≠ g; exact hgB) (.bool false)
    have OD := OD.far (p := ⟨g, 0, none⟩) (fun g' hA => by exact hDg g' hA) (.bool false)
    have OY := OY.far (p := ⟨g, 0, none⟩) (fun g' hA => by have := hYb g' hA; show g' ≠ g; omega) (.bool false)
    have Sb := Sb.far (p := ⟨g, 0, none⟩) (by show gb ≠ g; omega) (.bool false)
    obtain ⟨w11, hw11⟩ : ∃ w11, w11 = w10.setCell ⟨g, 0, none⟩ (.bool false) := ⟨_, rfl⟩
    rw [← hw11] at Sb Sx kkd OB OD OY ⊢
    clear hw11
    have BB := kkd.2.2
    have i1 := Sb.cell 1
    go_wp2_with fail
    refine (hD _ _ w11 OY.rw).mono ?_; rintro e12 w12 ⟨T, ct, rfl, OT, B12⟩
    clear hD i1
    have hgl2 : g < w11.heap.size := Sx.2
    have hTg : ∀ g', T = some ⟨g', 0, none⟩ → g' ≠ g := fun g' hA => by have := OT.bet g' hA; omega
    have hz11 : w.heap.size + 1 < w11.heap.size := kkd.2.1.2
    have OT := OT.base_le (B := w.heap.size + 2) (by omega)
    have kkd := kkd.nx B12
    have Sx := Sx.nx B12
    have OB := OB.below B12 (Nat.le_refl _)
    have OD := OD.below B12 (Nat.le_refl _)
    have f1 := Sx.frozen 1
    have i1 := Sx.cell 1
    go_upto_region 17 with fail
    clear f1 i1 Sb OY
    have Sx := Sx.set 1 (.slice T u0.length ct)
    have kkd := kkd.farS hgr 1 (.slice T u0.length ct)
    have OB := OB.far (p := ⟨g, 1, none⟩) (fun g' hA => by cases hA; show gB ≠ g; exact hgB) (.slice T u0.length ct)
    have OD := OD.far (p := ⟨g, 1, none⟩) (fun g' hA => by exact hDg g' hA) (.slice T u0.length ct)
    have OT := OT.far (p := ⟨g, 1, none⟩) (fun g' hA => by exact hTg g' hA) (.slice T u0.length ct)
    obtain ⟨w13, hw13⟩ : ∃ w13, w13 = w12.setCell ⟨g, 1, none⟩ (.slice T u0.length ct) := ⟨_, rfl⟩
    rw [← hw13] at Sx kkd OB OD OT ⊢
    clear hw13 B12
    have i0 := kkd.1.cell 0
    have j0 := Sx.cell 0
    have j1 := Sx.cell 1
    have j2 := Sx.cell 2
    have j3 := Sx.cell 3
    have j4 := Sx.cell 4
    have j5 := Sx.cell 5
    go_wp2_with fail
    refine (hT2 gB ct T D d w13 OT.rw OB.rw).mono ?_; rintro e14 w14 ⟨T2, ct2, D5, d5, rfl, OT2, OD5, B14⟩
    clear hT2 i0 j0 j1 j2 j3 j4 j5 OT OB
    have hgl3 : g < w13.heap.size := Sx.2
    have hz13 : w.heap.size + 1 < w13.heap.size := kkd.2.1.2
    have hT2g : ∀ g', T2 = some ⟨g', 0, none⟩ → g' ≠ g := fun g' hA => by have := OT2.bet g' hA; omega
    have hD5g : ∀ g', D5 = some ⟨g', 0, none⟩ → g' ≠ g := fun g' hA => by have := OD5.bet g' hA; omega
    have OT := OT2.base_le (B := w.heap.size + 2) (by omega)
    have OB := OD5.base_le (B := w.heap.size + 2) (by omega)
    have kkd := kkd.nx B14
    have Sx := Sx.nx B14
    have OD := OD.below B14 (Nat.le_refl _)
    have hRx := Sx.rc (n := 6)
    go_upto_region 19 with (refine wp_st6 rfl (.tmp 7) (.tmp 66) rfl _ rfl _ _ _ _ _ _ rfl hRx rfl rfl rfl rfl rfl rfl ?_)
    have Sx := Sx.put6x (.bool true) (.slice T2 z0.length ct2) (.slice D5 1 d5) (.bool false) (.slice none 0 0) (.slice D 1 d)
    have kkd := kkd.put6g hgr (.bool true) (.slice T2 z0.length ct2) (.slice D5 1 d5) (.bool false) (.slice none 0 0) (.slice D 1 d)
    have OT := OT.far6 (b := g) hT2g (.bool true) (.slice T2 z0.length ct2) (.slice D5 1 d5) (.bool false) (.slice none 0 0) (.slice D 1 d)
    have OB := OB.far6 (b := g) hD5g (.bool true) (.slice T2 z0.length ct2) (.slice D5 1 d5) (.bool false) (.slice none 0 0) (.slice D 1 d)
    have OD := OD.far6 (b := g) hDg (.bool true) (.slice T2 z0.length ct2) (.slice D5 1 d5) (.bool false) (.slice none 0 0) (.slice D 1 d)
    obtain ⟨w15, hw15⟩ : ∃ w15, w15 = wr6 w14 g (.bool true) (.slice T2 z0.length ct2) (.slice D5 1 d5) (.bool false) (.slice none 0 0) (.slice D 1 d) := ⟨_, rfl⟩
    rw [← hw15] at Sx kkd OT OB OD ⊢
    clear hw15 B14 hRx
    have hRC := kkd.2.1
    have BB := kkd.2.2
    have j0 := Sx.cell 0
    have j1 := Sx.cell 1
    have j2 := Sx.cell 2
    have j3 := Sx.cell 3
    have j4 := Sx.cell 4
    have j5 := Sx.cell 5
    go_wp2_with (refine wp_st6 rfl (.tmp 4) (.tmp 67) rfl _ rfl _ _ _ _ _ _ rfl hRC rfl rfl rfl rfl rfl rfl ?_)
    clear j0 j1 j2 j3 j4 j5
    have s6 := hRC.put6 (.bool true) (.slice T2 z0.length ct2) (.slice D5 1 d5) (.bool false) (.slice none 0 0) (.slice D 1 d)
    have B6 := wr6_below (b := w.heap.size + 1) BB (by omega) (.bool true) (.slice T2 z0.length ct2) (.slice D5 1 d5) (.bool false) (.slice none 0 0) (.slice D 1 d)
    have OT := OT.put6 (b := w.heap.size + 1) (by omega) (.bool true) (.slice T2 z0.length ct2) (.slice D5 1 d5) (.bool false) (.slice none 0 0) (.slice D 1 d)
    have OB := OB.put6 (b := w.heap.size + 1) (by omega) (.bool true) (.slice T2 z0.length ct2) (.slice D5 1 d5) (.bool false) (.slice none 0 0) (.slice D 1 d)
    have OD := OD.put6 (b := w.heap.size + 1) (by omega) (.bool true) (.slice T2 z0.length ct2) (.slice D5 1 d5) (.bool false) (.slice none 0 0) (.slice D 1 d)
    have r0' := s6.cell 0
    have r1' := s6.cell 1
    have r2' := s6.cell 2
    have r3' := s6.cell 3
    have r4' := s6.cell 4
    have r5' := s6.cell 5
    refine bodyPost_ret (v := .tuple #[.agg #[.bool true, .slice T2 z0.length ct2, .slice D5 1 d5, .bool false, .slice none 0 0, .slice D 1 d], .int .i64 0]) (by simp [results, r0', r1', r2', r3', r4', r5', go_sem]) rfl ?_
    exact ⟨_, _, _, _, _, _, _, _, rfl, OT.base_le (by omega), OB.base_le (by omega), OW.nil _ _, OD.base_le (by omega), B6⟩

end Go.Proofs.Ytnlgoedklmjhlaa
namespace Go.Proofs.Ytnlgoedklmjhlaa
open Go.RowKit

/-- Shift's answer -/
def qshiftA (r i : Rw) (n : Int) : Rw × Rw × Int :=
  if bchkN1 r i = 0 then (if n < -16384 ∨ 16384 < n then (rw0, rw0, 1) else if 0 ≤ n then fitQ ((iv r * ((2 ^ n.toNat : Nat) : Int) : Int) : Rat) 0 else fitQ ((iv r / ((2 ^ (-n).toNat : Nat) : Int) : Int) : Rat) 0) else (rw0, rw0, bchkN1 r i)
theorem iv_sign {r i : Rw} (h : wB r i = true) : r.s = decide (iv r < 0) := by
  obtain ⟨x1, x2, x3⟩ := wB_rw h
  have e : r.s = (rwq ((iv r : Int) : Rat)).s := congrArg Rw.s x1
  exact e
theorem bshift_any (V : Value) (r i : Rw) (n : Int) (w : World) (hV : VN w w.heap.size V r i) :
    Calls Try.prog 18 #[V, .int .i64 n] w (RetNE w (qshiftA r i n)) := by
  obtain ⟨A1, c1, D1, d1, A2, c2, D2, d2, rfl, p1, p2, p3, p4⟩ := hV
  unfold qshiftA
  by_cases hk : bchkN1 r i = 0
  · rw [if_pos hk]
    obtain ⟨x1, x2, x3⟩ := wB_rw (bchk1_zero hk)
    by_cases h : n < -16384 ∨ 16384 < n
    · rw [if_pos h]
      by_cases h1 : n < -16384
      · exact bshift_neg r.s i.s r.a r.b i.a i.b A1 D1 A2 D2 c1 d1 c2 d2 w p1 p2 p3 p4 n h1 hk
      · exact bshift_far r.s i.s r.a r.b i.a i.b A1 D1 A2 D2 c1 d1 c2 d2 w p1 p2 p3 p4 n ⟨h1, by omega⟩ hk
    · rw [if_neg h]
      by_cases h0 : 0 ≤ n
      · rw [if_pos h0]
        obtain ⟨m, rfl⟩ : ∃ m : Nat, n = (m : Int) := ⟨n.toNat, by omega⟩
        exact bshift_up r.s i.s r.a r.b i.a i.b A1 D1 A2 D2 c1 d1 c2 d2 w p1 p2 p3 p4 (iv r) m (by omega) (Lib.hid x1) x3 hk
      rw [if_neg h0]
      obtain ⟨m, hm⟩ : ∃ m : Nat, -n = (m : Int) := ⟨(-n).toNat, by omega⟩
      rw [hm, Int.toNat_natCast]
      exact bshift_down r.s i.s r.a r.b i.a i.b A1 D1 A2 D2 c1 d1 c2 d2 w p1 p2 p3 p4 (iv r) n m hm (by omega) (by omega) (Lib.hid x1) x3 hk
  · rw [if_neg hk]
    exact bshift_bad r.s i.s r.a r.b i.a i.b A1 D1 A2 D2 c1 d1 c2 d2 w p1 p2 p3 p4 n _ rfl (beq_eq_false_iff_ne.2 hk)
theorem rbshift_any (V : Value) (r i : Rw) (n : Int) (w : World) (hV : VN w w.heap.size V r i) :
    Calls Try.prog 19 #[V, .int .i64 n] w (RetNE w (qshiftA r i n)) := by
  obtain ⟨A1, c1, D1, d1, A2, c2, D2, d2, rfl, p1, p2, p3, p4⟩ := hV
  unfold qshiftA
  by_cases hk : bchkN1 r i = 0
  · rw [if_pos hk]
    obtain ⟨x1, x2, x3⟩ := wB_rw (bchk1_zero hk)
    by_cases h : n < -16384 ∨ 16384 < n
    · rw [if_pos h]
      by_cases h1 : n < -16384
      · exact rbshift_neg r.s i.s r.a r.b i.a i.b A1 D1 A2 D2 c1 d1 c2 d2 w p1 p2 p3 p4 n h1 hk
      · exact rbshift_far r.s i.s r.a r.b i.a i.b A1 D1 A2 D2 c1 d1 c2 d2 w p1 p2 p3 p4 n ⟨h1, by omega⟩ hk
    · rw [if_neg h]
      by_cases h0 : 0 ≤ n
      · rw [if_pos h0]
        obtain ⟨m, rfl⟩ : ∃ m : Nat, n = (m : Int) := ⟨n.toNat, by omega⟩
        exact rbshift_up r.s i.s r.a r.b i.a i.b A1 D1 A2 D2 c1 d1 c2 d2 w p1 p2 p3 p4 (iv r) m (by omega) (Lib.hid x1) x3 hk
      rw [if_neg h0]
      obtain ⟨m, hm⟩ : ∃ m : Nat, -n = (m : Int) := ⟨(-n).toNat, by omega⟩
      rw [hm, Int.toNat_natCast]
      by_cases hX : iv r < 0
      · have hs := iv_sign (bchk1_zero hk)
        rw [decide_eq_true hX] at hs
        obtain ⟨s, a, b⟩ := r
        dsimp only at hs
        subst hs
        exact rbshift_down_true i.s a b i.a i.b A1 D1 A2 D2 c1 d1 c2 d2 w p1 p2 p3 p4 (iv ⟨true, a, b⟩) n m hm (by omega) (by omega) (-(iv ⟨true, a, b⟩) - 1).toNat (by omega) (Lib.hid x1) x3 hk
      · have hs := iv_sign (bchk1_zero hk)
        rw [decide_eq_false hX] at hs
        obtain ⟨s, a, b⟩ := r
        dsimp only at hs
        subst hs
        exact rbshift_down_false i.s a b i.a i.b A1 D1 A2 D2 c1 d1 c2 d2 w p1 p2 p3 p4 (iv ⟨false, a, b⟩) n m hm (by omega) (by omega) (iv ⟨false, a, b⟩).toNat (by omega) (Lib.hid x1) x3 hk
  · rw [if_neg hk]
    exact rbshift_bad r.s i.s r.a r.b i.a i.b A1 D1 A2 D2 c1 d1 c2 d2 w p1 p2 p3 p4 n _ rfl (beq_eq_false_iff_ne.2 hk)
end Go.Proofs.Ytnlgoedklmjhlaa
