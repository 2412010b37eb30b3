/- Merged texts: BiT, BiX. -/
import Derived.Test.YtnlgoedklmjhlaaGN
import Derived.Test.YtnlgoedklmjhlaaGK
import Derived.Laws.DeepNot64
import Derived.Lib.Tables
import Derived.Lib.BitFns
namespace Go.Proofs.Ytnlgoedklmjhlaa
open Go.RowKit

theorem pop_pcount : ∀ n : Fin 256, Lib.pop8 (n.val : Int) = (pcount n.val 8 : Int) := by decide +kernel
theorem pop_pc (n : Nat) (h : n < 256) : Lib.pop8 (n : Int) = (pcount n 8 : Int) := pop_pcount ⟨n, h⟩
theorem pcount_far {m n : Nat} (h : m < 2 ^ n) (j : Nat) : pcount m (n + j) = pcount m n := by
  induction j with
  | zero => rfl
  | succ j ih =>
    rw [← Nat.add_assoc]
    show pcount m (n + j) + (if m.testBit (n + j) = true then 1 else 0) = _
    rw [ih, Nat.testBit_lt_two_pow (Nat.lt_of_lt_of_le h (Nat.pow_le_pow_right (by omega) (Nat.le_add_right ..)))]
    rfl
/-- how many bits of a number of up to 512 words are 1 -/
def pcN (m : Nat) : Nat := pcount m 16384
theorem pcN_words {m : Nat} (h : (digs m).length ≤ 512) : pcount m (32 * (digs m).length) = pcN m := by
  have h1 : m < 2 ^ (32 * (digs m).length) := by rw [← Wp_eq]; exact digs_len_le.1 (Nat.le_refl _)
  have h2 := pcount_far h1 (16384 - 32 * (digs m).length)
  rw [show 32 * (digs m).length + (16384 - 32 * (digs m).length) = 16384 by omega] at h2
  exact h2.symm

theorem ones_any (x : Nat) (w : World) (hx : x < 4294967296) :
    Calls Try.prog 51 #[.int .u32 (x : Int)] w fun e w' => e = .returned (.int .i64 ((pcount x 32 : Nat) : Int)) ∧ ∃ q, w' = w.drewN q := by
  have e1 : bits BinOp.and IntKind.u32 ((x : Int) / 65536) 255 = ((x / 65536 % 256 : Nat) : Int) := by
    have h := u32_and_nat (x / 65536) 255 (by omega) (by omega)
    rw [show (255 : Nat) = 2 ^ 8 - 1 from rfl, Nat.and_two_pow_sub_one_eq_mod] at h
    exact h
  have e2 : bits BinOp.and IntKind.u32 ((x : Int) / 256) 255 = ((x / 256 % 256 : Nat) : Int) := by
    have h := u32_and_nat (x / 256) 255 (by omega) (by omega)
    rw [show (255 : Nat) = 2 ^ 8 - 1 from rfl, Nat.and_two_pow_sub_one_eq_mod] at h
    exact h
  have e3 : bits BinOp.and IntKind.u32 (x : Int) 255 = ((x % 256 : Nat) : Int) := by
    have h := u32_and_nat x 255 hx (by omega)
    rw [show (255 : Nat) = 2 ^ 8 - 1 from rfl, Nat.and_two_pow_sub_one_eq_mod] at h
    exact h
  have hb := pcount_bytes x
  have p0 := pop_pc (x / 16777216) (by omega)
  have p1 := pop_pc (x / 65536 % 256) (by omega)
  have p2 := pop_pc (x / 256 % 256) (by omega)
  have p3 := pop_pc (x % 256) (by omega)
  have l0 := pcount_le (x / 16777216) 8
  have l1 := pcount_le (x / 65536 % 256) 8
  have l2 := pcount_le (x / 256 % 256) 8
  have l3 := pcount_le (x % 256) 8
  have i0 : (0 : Int) ≤ ((x / 16777216 : Nat) : Int) := by omega
  have j0 : ((x / 16777216 : Nat) : Int) ≤ 255 := by omega
  have HB := Lib.hid hb
  clear hb
  have q0 : (0 : Int) ≤ (x : Int) / 16777216 := by omega
  have q1 : (x : Int) / 16777216 ≤ 255 := by omega
  have q2 : (0 : Int) ≤ bits BinOp.and IntKind.u32 ((x : Int) / 65536) 255 := by omega
  have q3 : bits BinOp.and IntKind.u32 ((x : Int) / 65536) 255 ≤ 255 := by omega
  have q4 : (0 : Int) ≤ bits BinOp.and IntKind.u32 ((x : Int) / 256) 255 := by omega
  have q5 : bits BinOp.and IntKind.u32 ((x : Int) / 256) 255 ≤ 255 := by omega
  have q6 : (0 : Int) ≤ bits BinOp.and IntKind.u32 (x : Int) 255 := by omega
  have q7 : bits BinOp.and IntKind.u32 (x : Int) 255 ≤ 255 := by omega
  rw [← e1] at p1
  rw [← e2] at p2
  rw [← e3] at p3
  rw [show ((x / 16777216 : Nat) : Int) = (x : Int) / 16777216 from Int.natCast_ediv _ _] at p0
  clear e1 e2 e3 i0 j0
  go_enter Try.func51, Try.ntmps51
  go_wp2_with fail
  go_quiet (fail)
  go_wp2_with fail
  go_ret
  exact ⟨ret_int (by rw [HB.out, Int.natCast_add, Int.natCast_add, Int.natCast_add]), _, rfl⟩


set_option maxRecDepth 100000 in
set_option maxHeartbeats 16000000 in
theorem bcount_bad (s1 : Bool) (s2 : Bool) (a1 b1 a2 b2 : List Nat) (A1 D1 A2 D2 : Option Addr) (c1 d1 c2 d2 : Nat) (w : World) (p1 : RW w w.heap.size A1 c1 a1) (p2 : RW w w.heap.size D1 d1 b1) (p3 : RW w w.heap.size A2 c2 a2) (p4 : RW w w.heap.size D2 d2 b2) (k : Int) (hk : bchkN1 ⟨s1, a1, b1⟩ ⟨s2, a2, b2⟩ = k) (hk0 : (k == 0) = false) :
    Calls Try.prog 20 #[.agg #[.bool s1, .slice A1 a1.length c1, .slice D1 b1.length d1, .bool s2, .slice A2 a2.length c2, .slice D2 b2.length d2]] w fun e w' => e = .returned (.tuple #[.int .i64 0, .int .i64 k]) ∧ Below w.heap.size w w' := by
  have S1 := SB.new w [.bool s1, .slice A1 a1.length c1, .slice D1 b1.length d1, .bool s2, .slice A2 a2.length c2, .slice D2 b2.length d2] 26
  have C1 := bal w (.cells #[.bool s1, .slice A1 a1.length c1, .slice D1 b1.length d1, .bool s2, .slice A2 a2.length c2, .slice D2 b2.length d2] 26)
  have L2 := bal (w.alloc (.cells #[.bool s1, .slice A1 a1.length c1, .slice D1 b1.length d1, .bool s2, .slice A2 a2.length c2, .slice D2 b2.length d2] 26)) (.cells #[.bool s1, .slice A1 a1.length c1, .slice D1 b1.length d1, .bool s2, .slice A2 a2.length c2, .slice D2 b2.length d2] 26)
  have SG := SB.new (w.alloc (.cells #[.bool s1, .slice A1 a1.length c1, .slice D1 b1.length d1, .bool s2, .slice A2 a2.length c2, .slice D2 b2.length d2] 26)) [.bool s1, .slice A1 a1.length c1, .slice D1 b1.length d1, .bool s2, .slice A2 a2.length c2, .slice D2 b2.length d2] 26
  have z3 : (w.alloc (.cells #[.bool s1, .slice A1 a1.length c1, .slice D1 b1.length d1, .bool s2, .slice A2 a2.length c2, .slice D2 b2.length d2] 26)).heap.size = w.heap.size + 1 := by simp
  rw [z3] at SG
  have hC := fun w' hg h1 h2 h3 h4 => bcheck1_any (w.heap.size + 1) s1 a1 b1 s2 a2 b2 A1 c1 D1 d1 A2 c2 D2 d2 w' hg h1 h2 h3 h4
  have BW := bt C1 L2
  have S2_ := S1.nx L2
  obtain ⟨W, hW⟩ : ∃ W, W = (w.alloc (.cells #[.bool s1, .slice A1 a1.length c1, .slice D1 b1.length d1, .bool s2, .slice A2 a2.length c2, .slice D2 b2.length d2] 26)).alloc (.cells #[.bool s1, .slice A1 a1.length c1, .slice D1 b1.length d1, .bool s2, .slice A2 a2.length c2, .slice D2 b2.length d2] 26) := ⟨_, rfl⟩
  have i0 := S1.cell 0
  have i1 := S1.cell 1
  have i2 := S1.cell 2
  have i3 := S1.cell 3
  have i4 := S1.cell 4
  have i5 := S1.cell 5
  simp only [hk] at hC
  have Hk := Lib.hid hk
  clear hk
  have n0 : (k != 0) = true := by simp [bne, hk0]
  go_enter Try.func20, Try.ntmps20
  go_wp2_with fail
  rw [← hW] at S2_ SG BW ⊢
  clear hW S1 C1 L2 z3 i0 i1 i2 i3 i4 i5
  refine (hC W SG (st p1 BW) (st p2 BW) (st p3 BW) (st p4 BW)).mono ?_; rintro e w5 ⟨rfl, B5⟩
  clear hC
  have S5 := S2_.nx B5
  have BB := bt BW B5
  go_wp2_with fail
  go_ret2
  exact ⟨rfl, BB⟩


set_option maxRecDepth 100000 in
set_option maxHeartbeats 16000000 in
theorem blength_bad (s1 : Bool) (s2 : Bool) (a1 b1 a2 b2 : List Nat) (A1 D1 A2 D2 : Option Addr) (c1 d1 c2 d2 : Nat) (w : World) (p1 : RW w w.heap.size A1 c1 a1) (p2 : RW w w.heap.size D1 d1 b1) (p3 : RW w w.heap.size A2 c2 a2) (p4 : RW w w.heap.size D2 d2 b2) (k : Int) (hk : bchkN1 ⟨s1, a1, b1⟩ ⟨s2, a2, b2⟩ = k) (hk0 : (k == 0) = false) :
    Calls Try.prog 22 #[.agg #[.bool s1, .slice A1 a1.length c1, .slice D1 b1.length d1, .bool s2, .slice A2 a2.length c2, .slice D2 b2.length d2]] w fun e w' => e = .returned (.tuple #[.int .i64 0, .int .i64 k]) ∧ Below w.heap.size w w' := by
  have S1 := SB.new w [.bool s1, .slice A1 a1.length c1, .slice D1 b1.length d1, .bool s2, .slice A2 a2.length c2, .slice D2 b2.length d2] 26
  have C1 := bal w (.cells #[.bool s1, .slice A1 a1.length c1, .slice D1 b1.length d1, .bool s2, .slice A2 a2.length c2, .slice D2 b2.length d2] 26)
  have L2 := bal (w.alloc (.cells #[.bool s1, .slice A1 a1.length c1, .slice D1 b1.length d1, .bool s2, .slice A2 a2.length c2, .slice D2 b2.length d2] 26)) (.cells #[.bool s1, .slice A1 a1.length c1, .slice D1 b1.length d1, .bool s2, .slice A2 a2.length c2, .slice D2 b2.length d2] 26)
  have SG := SB.new (w.alloc (.cells #[.bool s1, .slice A1 a1.length c1, .slice D1 b1.length d1, .bool s2, .slice A2 a2.length c2, .slice D2 b2.length d2] 26)) [.bool s1, .slice A1 a1.length c1, .slice D1 b1.length d1, .bool s2, .slice A2 a2.length c2, .slice D2 b2.length d2] 26
  have z3 : (w.alloc (.cells #[.bool s1, .slice A1 a1.length c1, .slice D1 b1.length d1, .bool s2, .slice A2 a2.length c2, .slice D2 b2.length d2] 26)).heap.size = w.heap.size + 1 := by simp
  rw [z3] at SG
  have hC := fun w' hg h1 h2 h3 h4 => bcheck1_any (w.heap.size + 1) s1 a1 b1 s2 a2 b2 A1 c1 D1 d1 A2 c2 D2 d2 w' hg h1 h2 h3 h4
  have BW := bt C1 L2
  have S2_ := S1.nx L2
  obtain ⟨W, hW⟩ : ∃ W, W = (w.alloc (.cells #[.bool s1, .slice A1 a1.length c1, .slice D1 b1.length d1, .bool s2, .slice A2 a2.length c2, .slice D2 b2.length d2] 26)).alloc (.cells #[.bool s1, .slice A1 a1.length c1, .slice D1 b1.length d1, .bool s2, .slice A2 a2.length c2, .slice D2 b2.length d2] 26) := ⟨_, rfl⟩
  have i0 := S1.cell 0
  have i1 := S1.cell 1
  have i2 := S1.cell 2
  have i3 := S1.cell 3
  have i4 := S1.cell 4
  have i5 := S1.cell 5
  simp only [hk] at hC
  have Hk := Lib.hid hk
  clear hk
  have n0 : (k != 0) = true := by simp [bne, hk0]
  go_enter Try.func22, Try.ntmps22
  go_wp2_with fail
  rw [← hW] at S2_ SG BW ⊢
  clear hW S1 C1 L2 z3 i0 i1 i2 i3 i4 i5
  refine (hC W SG (st p1 BW) (st p2 BW) (st p3 BW) (st p4 BW)).mono ?_; rintro e w5 ⟨rfl, B5⟩
  clear hC
  have S5 := S2_.nx B5
  have BB := bt BW B5
  go_wp2_with fail
  go_ret2
  exact ⟨rfl, BB⟩


set_option maxRecDepth 100000 in
set_option maxHeartbeats 16000000 in
theorem rbcount_bad (s1 : Bool) (s2 : Bool) (a1 b1 a2 b2 : List Nat) (A1 D1 A2 D2 : Option Addr) (c1 d1 c2 d2 : Nat) (w : World) (p1 : RW w w.heap.size A1 c1 a1) (p2 : RW w w.heap.size D1 d1 b1) (p3 : RW w w.heap.size A2 c2 a2) (p4 : RW w w.heap.size D2 d2 b2) (k : Int) (hk : bchkN1 ⟨s1, a1, b1⟩ ⟨s2, a2, b2⟩ = k) (hk0 : (k == 0) = false) :
    Calls Try.prog 21 #[.agg #[.bool s1, .slice A1 a1.length c1, .slice D1 b1.length d1, .bool s2, .slice A2 a2.length c2, .slice D2 b2.length d2]] w fun e w' => e = .returned (.tuple #[.int .i64 0, .int .i64 k]) ∧ Below w.heap.size w w' := by
  have S1 := SB.new w [.bool s1, .slice A1 a1.length c1, .slice D1 b1.length d1, .bool s2, .slice A2 a2.length c2, .slice D2 b2.length d2] 26
  have C1 := bal w (.cells #[.bool s1, .slice A1 a1.length c1, .slice D1 b1.length d1, .bool s2, .slice A2 a2.length c2, .slice D2 b2.length d2] 26)
  have L2 := bal (w.alloc (.cells #[.bool s1, .slice A1 a1.length c1, .slice D1 b1.length d1, .bool s2, .slice A2 a2.length c2, .slice D2 b2.length d2] 26)) (.cells #[.bool s1, .slice A1 a1.length c1, .slice D1 b1.length d1, .bool s2, .slice A2 a2.length c2, .slice D2 b2.length d2] 26)
  have SG := SB.new (w.alloc (.cells #[.bool s1, .slice A1 a1.length c1, .slice D1 b1.length d1, .bool s2, .slice A2 a2.length c2, .slice D2 b2.length d2] 26)) [.bool s1, .slice A1 a1.length c1, .slice D1 b1.length d1, .bool s2, .slice A2 a2.length c2, .slice D2 b2.length d2] 26
  have z3 : (w.alloc (.cells #[.bool s1, .slice A1 a1.length c1, .slice D1 b1.length d1, .bool s2, .slice A2 a2.length c2, .slice D2 b2.length d2] 26)).heap.size = w.heap.size + 1 := by simp
  rw [z3] at SG
  have hC := fun w' hg h1 h2 h3 h4 => rbcheck1_any (w.heap.size + 1) s1 a1 b1 s2 a2 b2 A1 c1 D1 d1 A2 c2 D2 d2 w' hg h1 h2 h3 h4
  have BW := bt C1 L2
  have S2_ := S1.nx L2
  obtain ⟨W, hW⟩ : ∃ W, W = (w.alloc (.cells #[.bool s1, .slice A1 a1.length c1, .slice D1 b1.length d1, .bool s2, .slice A2 a2.length c2, .slice D2 b2.length d2] 26)).alloc (.cells #[.bool s1, .slice A1 a1.length c1, .slice D1 b1.length d1, .bool s2, .slice A2 a2.length c2, .slice D2 b2.length d2] 26) := ⟨_, rfl⟩
  have i0 := S1.cell 0
  have i1 := S1.cell 1
  have i2 := S1.cell 2
  have i3 := S1.cell 3
  have i4 := S1.cell 4
  have i5 := S1.cell 5
  simp only [hk] at hC
  have Hk := Lib.hid hk
  clear hk
  have n0 : (k != 0) = true := by simp [bne, hk0]
  go_enter Try.func21, Try.ntmps21
  go_wp2_with fail
  rw [← hW] at S2_ SG BW ⊢
  clear hW S1 C1 L2 z3 i0 i1 i2 i3 i4 i5
  refine (hC W SG (st p1 BW) (st p2 BW) (st p3 BW) (st p4 BW)).mono ?_; rintro e w5 ⟨rfl, B5⟩
  clear hC
  have S5 := S2_.nx B5
  have BB := bt BW B5
  go_wp2_with fail
  go_ret2
  exact ⟨rfl, BB⟩


set_option maxRecDepth 100000 in
set_option maxHeartbeats 16000000 in
theorem rblength_bad (s1 : Bool) (s2 : Bool) (a1 b1 a2 b2 : List Nat) (A1 D1 A2 D2 : Option Addr) (c1 d1 c2 d2 : Nat) (w : World) (p1 : RW w w.heap.size A1 c1 a1) (p2 : RW w w.heap.size D1 d1 b1) (p3 : RW w w.heap.size A2 c2 a2) (p4 : RW w w.heap.size D2 d2 b2) (k : Int) (hk : bchkN1 ⟨s1, a1, b1⟩ ⟨s2, a2, b2⟩ = k) (hk0 : (k == 0) = false) :
    Calls Try.prog 23 #[.agg #[.bool s1, .slice A1 a1.length c1, .slice D1 b1.length d1, .bool s2, .slice A2 a2.length c2, .slice D2 b2.length d2]] w fun e w' => e = .returned (.tuple #[.int .i64 0, .int .i64 k]) ∧ Below w.heap.size w w' := by
  have S1 := SB.new w [.bool s1, .slice A1 a1.length c1, .slice D1 b1.length d1, .bool s2, .slice A2 a2.length c2, .slice D2 b2.length d2] 26
  have C1 := bal w (.cells #[.bool s1, .slice A1 a1.length c1, .slice D1 b1.length d1, .bool s2, .slice A2 a2.length c2, .slice D2 b2.length d2] 26)
  have L2 := bal (w.alloc (.cells #[.bool s1, .slice A1 a1.length c1, .slice D1 b1.length d1, .bool s2, .slice A2 a2.length c2, .slice D2 b2.length d2] 26)) (.cells #[.bool s1, .slice A1 a1.length c1, .slice D1 b1.length d1, .bool s2, .slice A2 a2.length c2, .slice D2 b2.length d2] 26)
  have SG := SB.new (w.alloc (.cells #[.bool s1, .slice A1 a1.length c1, .slice D1 b1.length d1, .bool s2, .slice A2 a2.length c2, .slice D2 b2.length d2] 26)) [.bool s1, .slice A1 a1.length c1, .slice D1 b1.length d1, .bool s2, .slice A2 a2.length c2, .slice D2 b2.length d2] 26
  have z3 : (w.alloc (.cells #[.bool s1, .slice A1 a1.length c1, .slice D1 b1.length d1, .bool s2, .slice A2 a2.length c2, .slice D2 b2.length d2] 26)).heap.size = w.heap.size + 1 := by simp
  rw [z3] at SG
  have hC := fun w' hg h1 h2 h3 h4 => rbcheck1_any (w.heap.size + 1) s1 a1 b1 s2 a2 b2 A1 c1 D1 d1 A2 c2 D2 d2 w' hg h1 h2 h3 h4
  have BW := bt C1 L2
  have S2_ := S1.nx L2
  obtain ⟨W, hW⟩ : ∃ W, W = (w.alloc (.cells #[.bool s1, .slice A1 a1.length c1, .slice D1 b1.length d1, .bool s2, .slice A2 a2.length c2, .slice D2 b2.length d2] 26)).alloc (.cells #[.bool s1, .slice A1 a1.length c1, .slice D1 b1.length d1, .bool s2, .slice A2 a2.length c2, .slice D2 b2.length d2] 26) := ⟨_, rfl⟩
  have i0 := S1.cell 0
  have i1 := S1.cell 1
  have i2 := S1.cell 2
  have i3 := S1.cell 3
  have i4 := S1.cell 4
  have i5 := S1.cell 5
  simp only [hk] at hC
  have Hk := Lib.hid hk
  clear hk
  have n0 : (k != 0) = true := by simp [bne, hk0]
  go_enter Try.func23, Try.ntmps23
  go_wp2_with fail
  rw [← hW] at S2_ SG BW ⊢
  clear hW S1 C1 L2 z3 i0 i1 i2 i3 i4 i5
  refine (hC W SG (st p1 BW) (st p2 BW) (st p3 BW) (st p4 BW)).mono ?_; rintro e w5 ⟨rfl, B5⟩
  clear hC
  have S5 := S2_.nx B5
  have BB := bt BW B5
  go_wp2_with fail
  go_ret2
  exact ⟨rfl, BB⟩


set_option maxRecDepth 100000 in
set_option maxHeartbeats 16000000 in
theorem bcount_pos (s2 : Bool) (a1 b1 a2 b2 : List Nat) (A1 D1 A2 D2 : Option Addr) (c1 d1 c2 d2 : Nat) (w : World) (p1 : RW w w.heap.size A1 c1 a1) (p2 : RW w w.heap.size D1 d1 b1) (p3 : RW w w.heap.size A2 c2 a2) (p4 : RW w w.heap.size D2 d2 b2) (la : a1.length ≤ 512) (hd : a1 = digs (val a1)) (hk : bchkN1 ⟨false, a1, b1⟩ ⟨s2, a2, b2⟩ = 0) :
    Calls Try.prog 20 #[.agg #[.bool false, .slice A1 a1.length c1, .slice D1 b1.length d1, .bool s2, .slice A2 a2.length c2, .slice D2 b2.length d2]] w fun e w' => e = .returned (.tuple #[.int .i64 (pcN (val a1) : Nat), .int .i64 0]) ∧ Below w.heap.size w w' := by
  have S1 := SB.new w [.bool false, .slice A1 a1.length c1, .slice D1 b1.length d1, .bool s2, .slice A2 a2.length c2, .slice D2 b2.length d2] 26
  have C1 := bal w (.cells #[.bool false, .slice A1 a1.length c1, .slice D1 b1.length d1, .bool s2, .slice A2 a2.length c2, .slice D2 b2.length d2] 26)
  have L2 := bal (w.alloc (.cells #[.bool false, .slice A1 a1.length c1, .slice D1 b1.length d1, .bool s2, .slice A2 a2.length c2, .slice D2 b2.length d2] 26)) (.cells #[.bool false, .slice A1 a1.length c1, .slice D1 b1.length d1, .bool s2, .slice A2 a2.length c2, .slice D2 b2.length d2] 26)
  have SG := SB.new (w.alloc (.cells #[.bool false, .slice A1 a1.length c1, .slice D1 b1.length d1, .bool s2, .slice A2 a2.length c2, .slice D2 b2.length d2] 26)) [.bool false, .slice A1 a1.length c1, .slice D1 b1.length d1, .bool s2, .slice A2 a2.length c2, .slice D2 b2.length d2] 26
  have z3 : (w.alloc (.cells #[.bool false, .slice A1 a1.length c1, .slice D1 b1.length d1, .bool s2, .slice A2 a2.length c2, .slice D2 b2.length d2] 26)).heap.size = w.heap.size + 1 := by simp
  rw [z3] at SG
  have hC := fun w' hg h1 h2 h3 h4 => bcheck1_any (w.heap.size + 1) false a1 b1 s2 a2 b2 A1 c1 D1 d1 A2 c2 D2 d2 w' hg h1 h2 h3 h4
  have BW := bt C1 L2
  have S2_ := S1.nx L2
  obtain ⟨W, hW⟩ : ∃ W, W = (w.alloc (.cells #[.bool false, .slice A1 a1.length c1, .slice D1 b1.length d1, .bool s2, .slice A2 a2.length c2, .slice D2 b2.length d2] 26)).alloc (.cells #[.bool false, .slice A1 a1.length c1, .slice D1 b1.length d1, .bool s2, .slice A2 a2.length c2, .slice D2 b2.length d2] 26) := ⟨_, rfl⟩
  have i0 := S1.cell 0
  have i1 := S1.cell 1
  have i2 := S1.cell 2
  have i3 := S1.cell 3
  have i4 := S1.cell 4
  have i5 := S1.cell 5
  simp only [hk] at hC
  clear hk
  have HP : Hid (pcount (val a1) (32 * a1.length) = pcN (val a1)) := by
    have h := pcN_words (m := val a1) (by rw [← hd]; exact la)
    rw [← hd] at h
    exact h
  have hb := p1.2
  clear hd
  go_enter Try.func20, Try.ntmps20
  go_wp2_with fail
  rw [← hW] at S2_ SG BW ⊢
  clear hW S1 C1 L2 z3 i0 i1 i2 i3 i4 i5
  refine (hC W SG (st p1 BW) (st p2 BW) (st p3 BW) (st p4 BW)).mono ?_; rintro e w5 ⟨rfl, B5⟩
  clear hC
  have S5 := S2_.nx B5
  have BB := bt BW B5
  have i0 := S5.cell 0
  have i1 := S5.cell 1
  go_wp2_with fail
  clear i0 i1
  go_loopg [9, 38] a1.length (fun gg nv iv wr => ∃ k : Nat, k ≤ a1.length ∧ a1.length - k = gg ∧ iv = .int .i64 (k : Int) ∧ nv = .int .i64 ((pcount (val a1) (32 * k) : Nat) : Int) ∧ Below w.heap.size w wr)
  case atStart => exact ⟨0, Nat.zero_le _, rfl, rfl, rfl, BB⟩
  case round =>
    obtain ⟨k, hk, rfl, rfl, rfl, BL⟩ := hrel
    by_cases hk0 : k < a1.length
    · obtain ⟨g, o, rfl, hg, hx⟩ := (st p1 BL).at_ (by omega)
      have ck := hx k hk0
      have hw := wd_lt hb k
      have hon := fun w' => ones_any (wd a1 k) w' hw
      have hpl := pcount_le (val a1) (32 * k)
      have hpw := pcount_le (wd a1 k) 32
      have HS := Lib.hid (pcount_word hb (k := k))
      clear hx
      go_wp2_with fail
      refine (hon _).mono ?_; rintro e6 w6 ⟨rfl, qq, rfl⟩
      go_wp2_with fail
      go_roundg (a1.length - (k + 1))
      case measure => omega
      case rel => exact ⟨k + 1, by omega, rfl, by go_num, by rw [HS.out]; go_num, bdN BL qq⟩
    · obtain rfl : k = a1.length := by omega
      go_wp2_with fail
      go_ret2
      exact ⟨by rw [← HP.out]; rfl, BL⟩


set_option maxRecDepth 100000 in
set_option maxHeartbeats 16000000 in
theorem bcount_neg (s2 : Bool) (a1 b1 a2 b2 : List Nat) (A1 D1 A2 D2 : Option Addr) (c1 d1 c2 d2 : Nat) (w : World) (p1 : RW w w.heap.size A1 c1 a1) (p2 : RW w w.heap.size D1 d1 b1) (p3 : RW w w.heap.size A2 c2 a2) (p4 : RW w w.heap.size D2 d2 b2) (X : Int) (v : Nat) (hv : X = -(v : Int) - 1) (hX : Hid ((⟨true, a1, b1⟩ : Rw) = rwq ((X : Int) : Rat) ∧ (⟨s2, a2, b2⟩ : Rw) = rwq 0)) (la : a1.length ≤ 512) (hk : bchkN1 ⟨true, a1, b1⟩ ⟨s2, a2, b2⟩ = 0) :
    Calls Try.prog 20 #[.agg #[.bool true, .slice A1 a1.length c1, .slice D1 b1.length d1, .bool s2, .slice A2 a2.length c2, .slice D2 b2.length d2]] w fun e w' => e = .returned (.tuple #[.int .i64 (-(pcN v : Nat) - 1), .int .i64 0]) ∧ Below w.heap.size w w' := by
  have S1 := SB.new w [.bool true, .slice A1 a1.length c1, .slice D1 b1.length d1, .bool s2, .slice A2 a2.length c2, .slice D2 b2.length d2] 26
  have C1 := bal w (.cells #[.bool true, .slice A1 a1.length c1, .slice D1 b1.length d1, .bool s2, .slice A2 a2.length c2, .slice D2 b2.length d2] 26)
  have L2 := bal (w.alloc (.cells #[.bool true, .slice A1 a1.length c1, .slice D1 b1.length d1, .bool s2, .slice A2 a2.length c2, .slice D2 b2.length d2] 26)) (.cells #[.bool true, .slice A1 a1.length c1, .slice D1 b1.length d1, .bool s2, .slice A2 a2.length c2, .slice D2 b2.length d2] 26)
  have SG := SB.new (w.alloc (.cells #[.bool true, .slice A1 a1.length c1, .slice D1 b1.length d1, .bool s2, .slice A2 a2.length c2, .slice D2 b2.length d2] 26)) [.bool true, .slice A1 a1.length c1, .slice D1 b1.length d1, .bool s2, .slice A2 a2.length c2, .slice D2 b2.length d2] 26
  have z3 : (w.alloc (.cells #[.bool true, .slice A1 a1.length c1, .slice D1 b1.length d1, .bool s2, .slice A2 a2.length c2, .slice D2 b2.length d2] 26)).heap.size = w.heap.size + 1 := by simp
  rw [z3] at SG
  have hC := fun w' hg h1 h2 h3 h4 => bcheck1_any (w.heap.size + 1) true a1 b1 s2 a2 b2 A1 c1 D1 d1 A2 c2 D2 d2 w' hg h1 h2 h3 h4
  have BW := bt C1 L2
  have S2_ := S1.nx L2
  obtain ⟨W, hW⟩ : ∃ W, W = (w.alloc (.cells #[.bool true, .slice A1 a1.length c1, .slice D1 b1.length d1, .bool s2, .slice A2 a2.length c2, .slice D2 b2.length d2] 26)).alloc (.cells #[.bool true, .slice A1 a1.length c1, .slice D1 b1.length d1, .bool s2, .slice A2 a2.length c2, .slice D2 b2.length d2] 26) := ⟨_, rfl⟩
  have i0 := S1.cell 0
  have i1 := S1.cell 1
  have i2 := S1.cell 2
  have i3 := S1.cell 3
  have i4 := S1.cell 4
  have i5 := S1.cell 5
  have hY : (-X - 1 : Int) = sgn false v := by rw [hv, sgn_false]; omega
  have hvl : (digs v).length ≤ 512 := by
    have h3 : a1 = digs X.natAbs := congrArg Rw.a hX.out.1
    have h4 := digs_mono (show v ≤ X.natAbs by rw [hv]; omega)
    rw [← h3] at h4; omega
  have hN := fun V w' h => bnot_any V ⟨true, a1, b1⟩ ⟨s2, a2, b2⟩ w' h
  have hq : qbothA (fun x _ => 4294967295 - x) ⟨true, a1, b1⟩ ⟨s2, a2, b2⟩ ⟨true, a1, b1⟩ ⟨s2, a2, b2⟩ = (⟨false, digs v, [1]⟩, ⟨false, [], [1]⟩, 0) := by
    rw [qboth_not]
    unfold qnotA
    have hiv : iv ⟨true, a1, b1⟩ = X := by
      have e1 : a1 = digs X.natAbs := congrArg Rw.a hX.out.1
      unfold iv
      rw [sgn_true]
      dsimp only
      rw [e1, val_digs]
      omega
    rw [if_pos hk, hiv, hY]
    exact fit_int (fun _ => rfl) hvl
  rw [hq] at hN
  clear hq
  simp only [hk] at hC
  have HV := Lib.hid hv
  clear hk hv hY
  obtain ⟨y, hy⟩ : ∃ y, Hid (digs v = y) := ⟨_, rfl⟩
  rw [hy.out] at hN hvl
  have hyv : val y = v := by rw [← hy.out, val_digs]
  have hyd : y = digs (val y) := by rw [hyv]; exact hy.out.symm
  have hch : bchkN1 ⟨false, y, [1]⟩ ⟨false, [], [1]⟩ = 0 := by
    have h := bchk1_of (nB_whole false v (fun _ => rfl) (by rw [hy.out]; exact hvl))
    rw [rwq_int false v (fun _ => rfl), rwq_z', hy.out] at h
    exact h
  have hP := fun T D3 T2 D4 ct d3 ct2 d4 w' h1 h2 h3 h4 => bcount_pos false y [1] [] [1] T D3 T2 D4 ct d3 ct2 d4 w' h1 h2 h3 h4 hvl hyd hch
  rw [hyv] at hP
  have hpl := pcount_le v 16384
  have hpl : pcN v ≤ 16384 := hpl
  clear hyv hyd hch
  go_enter Try.func20, Try.ntmps20
  go_wp2_with fail
  rw [← hW] at S2_ SG BW ⊢
  clear hW S1 C1 L2 z3 i0 i1 i2 i3 i4 i5
  refine (hC W SG (st p1 BW) (st p2 BW) (st p3 BW) (st p4 BW)).mono ?_; rintro e w5 ⟨rfl, B5⟩
  clear hC
  have S5 := S2_.nx B5
  have BB := bt BW B5
  have i0 := S5.cell 0
  have i1 := S5.cell 1
  have i2 := S5.cell 2
  have i3 := S5.cell 3
  have i4 := S5.cell 4
  have i5 := S5.cell 5
  have hVN : VN w5 w5.heap.size (.agg #[.bool true, .slice A1 a1.length c1, .slice D1 b1.length d1, .bool s2, .slice A2 a2.length c2, .slice D2 b2.length d2]) ⟨true, a1, b1⟩ ⟨s2, a2, b2⟩ := ⟨A1, c1, D1, d1, A2, c2, D2, d2, rfl, st p1 BB, st p2 BB, st p3 BB, st p4 BB⟩
  go_wp2_with fail
  refine (hN _ _ hVN).mono ?_; rintro e6 w6 ⟨T, ct, D3, d3, T2, ct2, D4, d4, rfl, O1, O2, O3, O4, B6⟩
  clear hN i0 i1 i2 i3 i4 i5 hVN
  dsimp only [List.length_nil, List.length_cons, Nat.zero_add] at O1 O2 O3 O4 hP ⊢
  have L7 := bal w6 (.cells #[.bool false, .slice T y.length ct, .slice D3 1 d3, .bool false, .slice T2 0 ct2, .slice D4 1 d4] 26)
  have Sb := SB.new w6 [.bool false, .slice T y.length ct, .slice D3 1 d3, .bool false, .slice T2 0 ct2, .slice D4 1 d4] 26
  have BB := bt (bt BB B6) L7
  have h1 := st O1.rw L7
  have h2 := st O2.rw L7
  have h3 := st O3.rw L7
  have h4 := st O4.rw L7
  obtain ⟨w7, hw7⟩ : ∃ w7, w7 = w6.alloc (.cells #[.bool false, .slice T y.length ct, .slice D3 1 d3, .bool false, .slice T2 0 ct2, .slice D4 1 d4] 26) := ⟨_, rfl⟩
  go_upto_region 6 with fail
  rw [← hw7] at Sb BB h1 h2 h3 h4 ⊢
  clear hw7 L7 O1 O2 O3 O4 B6
  have i0 := Sb.cell 0
  have i1 := Sb.cell 1
  have i2 := Sb.cell 2
  have i3 := Sb.cell 3
  have i4 := Sb.cell 4
  have i5 := Sb.cell 5
  go_wp2_with fail
  refine (hP T D3 T2 D4 ct d3 ct2 d4 w7 h1 h2 h3 h4).mono ?_; rintro e8 w8 ⟨rfl, B8⟩
  clear hP i0 i1 i2 i3 i4 i5
  go_wp2_with fail
  go_ret2
  refine ⟨?_, bt BB B8⟩
  have h64 := i64_not (pcN v) (by omega)
  rw [show (-1 : Int) - ((pcN v : Nat) : Int) = -((pcN v : Nat) : Int) - 1 by omega] at h64
  rw [← h64]
  rfl


set_option maxRecDepth 100000 in
set_option maxHeartbeats 16000000 in
theorem blength_pos (s2 : Bool) (a1 b1 a2 b2 : List Nat) (A1 D1 A2 D2 : Option Addr) (c1 d1 c2 d2 : Nat) (w : World) (p1 : RW w w.heap.size A1 c1 a1) (p2 : RW w w.heap.size D1 d1 b1) (p3 : RW w w.heap.size A2 c2 a2) (p4 : RW w w.heap.size D2 d2 b2) (hN : Nrm a1) (hk : bchkN1 ⟨false, a1, b1⟩ ⟨s2, a2, b2⟩ = 0) :
    Calls Try.prog 22 #[.agg #[.bool false, .slice A1 a1.length c1, .slice D1 b1.length d1, .bool s2, .slice A2 a2.length c2, .slice D2 b2.length d2]] w fun e w' => e = .returned (.tuple #[.int .i64 (blen (val a1)), .int .i64 0]) ∧ Below w.heap.size w w' := by
  have S1 := SB.new w [.bool false, .slice A1 a1.length c1, .slice D1 b1.length d1, .bool s2, .slice A2 a2.length c2, .slice D2 b2.length d2] 26
  have C1 := bal w (.cells #[.bool false, .slice A1 a1.length c1, .slice D1 b1.length d1, .bool s2, .slice A2 a2.length c2, .slice D2 b2.length d2] 26)
  have L2 := bal (w.alloc (.cells #[.bool false, .slice A1 a1.length c1, .slice D1 b1.length d1, .bool s2, .slice A2 a2.length c2, .slice D2 b2.length d2] 26)) (.cells #[.bool false, .slice A1 a1.length c1, .slice D1 b1.length d1, .bool s2, .slice A2 a2.length c2, .slice D2 b2.length d2] 26)
  have SG := SB.new (w.alloc (.cells #[.bool false, .slice A1 a1.length c1, .slice D1 b1.length d1, .bool s2, .slice A2 a2.length c2, .slice D2 b2.length d2] 26)) [.bool false, .slice A1 a1.length c1, .slice D1 b1.length d1, .bool s2, .slice A2 a2.length c2, .slice D2 b2.length d2] 26
  have z3 : (w.alloc (.cells #[.bool false, .slice A1 a1.length c1, .slice D1 b1.length d1, .bool s2, .slice A2 a2.length c2, .slice D2 b2.length d2] 26)).heap.size = w.heap.size + 1 := by simp
  rw [z3] at SG
  have hC := fun w' hg h1 h2 h3 h4 => bcheck1_any (w.heap.size + 1) false a1 b1 s2 a2 b2 A1 c1 D1 d1 A2 c2 D2 d2 w' hg h1 h2 h3 h4
  have BW := bt C1 L2
  have S2_ := S1.nx L2
  obtain ⟨W, hW⟩ : ∃ W, W = (w.alloc (.cells #[.bool false, .slice A1 a1.length c1, .slice D1 b1.length d1, .bool s2, .slice A2 a2.length c2, .slice D2 b2.length d2] 26)).alloc (.cells #[.bool false, .slice A1 a1.length c1, .slice D1 b1.length d1, .bool s2, .slice A2 a2.length c2, .slice D2 b2.length d2] 26) := ⟨_, rfl⟩
  have i0 := S1.cell 0
  have i1 := S1.cell 1
  have i2 := S1.cell 2
  have i3 := S1.cell 3
  have i4 := S1.cell 4
  have i5 := S1.cell 5
  simp only [hk] at hC
  clear hk
  have hS := fun w' h => size_any A1 c1 a1.length a1 w' rfl h hN
  go_enter Try.func22, Try.ntmps22
  go_wp2_with fail
  rw [← hW] at S2_ SG BW ⊢
  clear hW S1 C1 L2 z3 i0 i1 i2 i3 i4 i5
  refine (hC W SG (st p1 BW) (st p2 BW) (st p3 BW) (st p4 BW)).mono ?_; rintro e w5 ⟨rfl, B5⟩
  clear hC
  have S5 := S2_.nx B5
  have BB := bt BW B5
  have i0 := S5.cell 0
  have i1 := S5.cell 1
  go_wp2_with fail
  refine (hS _ (st p1 BB)).mono ?_; rintro e6 w6 ⟨rfl, rfl⟩
  go_wp2_with fail
  go_ret2
  exact ⟨rfl, BB⟩


set_option maxRecDepth 100000 in
set_option maxHeartbeats 16000000 in
theorem blength_neg (s2 : Bool) (a1 b1 a2 b2 : List Nat) (A1 D1 A2 D2 : Option Addr) (c1 d1 c2 d2 : Nat) (w : World) (p1 : RW w w.heap.size A1 c1 a1) (p2 : RW w w.heap.size D1 d1 b1) (p3 : RW w w.heap.size A2 c2 a2) (p4 : RW w w.heap.size D2 d2 b2) (X : Int) (v : Nat) (hv : X = -(v : Int) - 1) (hX : Hid ((⟨true, a1, b1⟩ : Rw) = rwq ((X : Int) : Rat) ∧ (⟨s2, a2, b2⟩ : Rw) = rwq 0)) (la : a1.length ≤ 512) (hk : bchkN1 ⟨true, a1, b1⟩ ⟨s2, a2, b2⟩ = 0) :
    Calls Try.prog 22 #[.agg #[.bool true, .slice A1 a1.length c1, .slice D1 b1.length d1, .bool s2, .slice A2 a2.length c2, .slice D2 b2.length d2]] w fun e w' => e = .returned (.tuple #[.int .i64 (blen v), .int .i64 0]) ∧ Below w.heap.size w w' := by
  have S1 := SB.new w [.bool true, .slice A1 a1.length c1, .slice D1 b1.length d1, .bool s2, .slice A2 a2.length c2, .slice D2 b2.length d2] 26
  have C1 := bal w (.cells #[.bool true, .slice A1 a1.length c1, .slice D1 b1.length d1, .bool s2, .slice A2 a2.length c2, .slice D2 b2.length d2] 26)
  have L2 := bal (w.alloc (.cells #[.bool true, .slice A1 a1.length c1, .slice D1 b1.length d1, .bool s2, .slice A2 a2.length c2, .slice D2 b2.length d2] 26)) (.cells #[.bool true, .slice A1 a1.length c1, .slice D1 b1.length d1, .bool s2, .slice A2 a2.length c2, .slice D2 b2.length d2] 26)
  have SG := SB.new (w.alloc (.cells #[.bool true, .slice A1 a1.length c1, .slice D1 b1.length d1, .bool s2, .slice A2 a2.length c2, .slice D2 b2.length d2] 26)) [.bool true, .slice A1 a1.length c1, .slice D1 b1.length d1, .bool s2, .slice A2 a2.length c2, .slice D2 b2.length d2] 26
  have z3 : (w.alloc (.cells #[.bool true, .slice A1 a1.length c1, .slice D1 b1.length d1, .bool s2, .slice A2 a2.length c2, .slice D2 b2.length d2] 26)).heap.size = w.heap.size + 1 := by simp
  rw [z3] at SG
  have hC := fun w' hg h1 h2 h3 h4 => bcheck1_any (w.heap.size + 1) true a1 b1 s2 a2 b2 A1 c1 D1 d1 A2 c2 D2 d2 w' hg h1 h2 h3 h4
  have BW := bt C1 L2
  have S2_ := S1.nx L2
  obtain ⟨W, hW⟩ : ∃ W, W = (w.alloc (.cells #[.bool true, .slice A1 a1.length c1, .slice D1 b1.length d1, .bool s2, .slice A2 a2.length c2, .slice D2 b2.length d2] 26)).alloc (.cells #[.bool true, .slice A1 a1.length c1, .slice D1 b1.length d1, .bool s2, .slice A2 a2.length c2, .slice D2 b2.length d2] 26) := ⟨_, rfl⟩
  have i0 := S1.cell 0
  have i1 := S1.cell 1
  have i2 := S1.cell 2
  have i3 := S1.cell 3
  have i4 := S1.cell 4
  have i5 := S1.cell 5
  have hY : (-X - 1 : Int) = sgn false v := by rw [hv, sgn_false]; omega
  have hvl : (digs v).length ≤ 512 := by
    have h3 : a1 = digs X.natAbs := congrArg Rw.a hX.out.1
    have h4 := digs_mono (show v ≤ X.natAbs by rw [hv]; omega)
    rw [← h3] at h4; omega
  have hN := fun V w' h => bnot_any V ⟨true, a1, b1⟩ ⟨s2, a2, b2⟩ w' h
  have hq : qbothA (fun x _ => 4294967295 - x) ⟨true, a1, b1⟩ ⟨s2, a2, b2⟩ ⟨true, a1, b1⟩ ⟨s2, a2, b2⟩ = (⟨false, digs v, [1]⟩, ⟨false, [], [1]⟩, 0) := by
    rw [qboth_not]
    unfold qnotA
    have hiv : iv ⟨true, a1, b1⟩ = X := by
      have e1 : a1 = digs X.natAbs := congrArg Rw.a hX.out.1
      unfold iv
      rw [sgn_true]
      dsimp only
      rw [e1, val_digs]
      omega
    rw [if_pos hk, hiv, hY]
    exact fit_int (fun _ => rfl) hvl
  rw [hq] at hN
  clear hq
  simp only [hk] at hC
  have HV := Lib.hid hv
  clear hk hv hY
  obtain ⟨y, hy⟩ : ∃ y, Hid (digs v = y) := ⟨_, rfl⟩
  rw [hy.out] at hN hvl
  have hyn : Nrm y := by rw [← hy.out]; exact Nrm_digs v
  have hS := fun A c w' h => size_any A c y.length y w' rfl h hyn
  rw [show val y = v by rw [← hy.out, val_digs]] at hS
  go_enter Try.func22, Try.ntmps22
  go_wp2_with fail
  rw [← hW] at S2_ SG BW ⊢
  clear hW S1 C1 L2 z3 i0 i1 i2 i3 i4 i5
  refine (hC W SG (st p1 BW) (st p2 BW) (st p3 BW) (st p4 BW)).mono ?_; rintro e w5 ⟨rfl, B5⟩
  clear hC
  have S5 := S2_.nx B5
  have BB := bt BW B5
  have i0 := S5.cell 0
  have i1 := S5.cell 1
  have i2 := S5.cell 2
  have i3 := S5.cell 3
  have i4 := S5.cell 4
  have i5 := S5.cell 5
  have hVN : VN w5 w5.heap.size (.agg #[.bool true, .slice A1 a1.length c1, .slice D1 b1.length d1, .bool s2, .slice A2 a2.length c2, .slice D2 b2.length d2]) ⟨true, a1, b1⟩ ⟨s2, a2, b2⟩ := ⟨A1, c1, D1, d1, A2, c2, D2, d2, rfl, st p1 BB, st p2 BB, st p3 BB, st p4 BB⟩
  go_wp2_with fail
  refine (hN _ _ hVN).mono ?_; rintro e6 w6 ⟨T, ct, D3, d3, T2, ct2, D4, d4, rfl, O1, O2, O3, O4, B6⟩
  clear hN i0 i1 i2 i3 i4 i5 hVN
  dsimp only [List.length_nil, List.length_cons, Nat.zero_add] at O1 O2 O3 O4 ⊢
  have hz5 := S5.2
  have BB := bt BB B6
  have S6 := S5.nx B6
  have hRC := S6.rc (n := 6)
  go_upto_region 6 with (refine wp_st6 rfl (.tmp 1) (.tmp 17) rfl _ rfl _ _ _ _ _ _ rfl hRC rfl rfl rfl rfl rfl rfl ?_)
  have Sb := S6.put6x (.bool false) (.slice T y.length ct) (.slice D3 1 d3) (.bool false) (.slice T2 0 ct2) (.slice D4 1 d4)
  have BB := wr6_below (b := w.heap.size) BB (Nat.le_refl _) (.bool false) (.slice T y.length ct) (.slice D3 1 d3) (.bool false) (.slice T2 0 ct2) (.slice D4 1 d4)
  have O1 := O1.put6 (b := w.heap.size) hz5 (.bool false) (.slice T y.length ct) (.slice D3 1 d3) (.bool false) (.slice T2 0 ct2) (.slice D4 1 d4)
  obtain ⟨w7, hw7⟩ : ∃ w7, w7 = wr6 w6 w.heap.size (.bool false) (.slice T y.length ct) (.slice D3 1 d3) (.bool false) (.slice T2 0 ct2) (.slice D4 1 d4) := ⟨_, rfl⟩
  rw [← hw7] at Sb BB O1 ⊢
  clear hw7 O2 O3 O4 B6 hRC S6
  have i1 := Sb.cell 1
  go_wp2_with fail
  refine (hS _ _ _ O1.rw).mono ?_; rintro e8 w8 ⟨rfl, rfl⟩
  go_wp2_with fail
  go_ret2
  exact ⟨rfl, BB⟩


set_option maxRecDepth 100000 in
set_option maxHeartbeats 16000000 in
theorem rblength_pos (s2 : Bool) (a1 b1 a2 b2 : List Nat) (A1 D1 A2 D2 : Option Addr) (c1 d1 c2 d2 : Nat) (w : World) (p1 : RW w w.heap.size A1 c1 a1) (p2 : RW w w.heap.size D1 d1 b1) (p3 : RW w w.heap.size A2 c2 a2) (p4 : RW w w.heap.size D2 d2 b2) (hk : bchkN1 ⟨false, a1, b1⟩ ⟨s2, a2, b2⟩ = 0) :
    Calls Try.prog 23 #[.agg #[.bool false, .slice A1 a1.length c1, .slice D1 b1.length d1, .bool s2, .slice A2 a2.length c2, .slice D2 b2.length d2]] w fun e w' => e = .returned (.tuple #[.int .i64 (blen (val a1)), .int .i64 0]) ∧ Below w.heap.size w w' := by
  have S1 := SB.new w [.bool false, .slice A1 a1.length c1, .slice D1 b1.length d1, .bool s2, .slice A2 a2.length c2, .slice D2 b2.length d2] 26
  have C1 := bal w (.cells #[.bool false, .slice A1 a1.length c1, .slice D1 b1.length d1, .bool s2, .slice A2 a2.length c2, .slice D2 b2.length d2] 26)
  have L2 := bal (w.alloc (.cells #[.bool false, .slice A1 a1.length c1, .slice D1 b1.length d1, .bool s2, .slice A2 a2.length c2, .slice D2 b2.length d2] 26)) (.cells #[.bool false, .slice A1 a1.length c1, .slice D1 b1.length d1, .bool s2, .slice A2 a2.length c2, .slice D2 b2.length d2] 26)
  have SG := SB.new (w.alloc (.cells #[.bool false, .slice A1 a1.length c1, .slice D1 b1.length d1, .bool s2, .slice A2 a2.length c2, .slice D2 b2.length d2] 26)) [.bool false, .slice A1 a1.length c1, .slice D1 b1.length d1, .bool s2, .slice A2 a2.length c2, .slice D2 b2.length d2] 26
  have z3 : (w.alloc (.cells #[.bool false, .slice A1 a1.length c1, .slice D1 b1.length d1, .bool s2, .slice A2 a2.length c2, .slice D2 b2.length d2] 26)).heap.size = w.heap.size + 1 := by simp
  rw [z3] at SG
  have hC := fun w' hg h1 h2 h3 h4 => rbcheck1_any (w.heap.size + 1) false a1 b1 s2 a2 b2 A1 c1 D1 d1 A2 c2 D2 d2 w' hg h1 h2 h3 h4
  have BW := bt C1 L2
  have S2_ := S1.nx L2
  obtain ⟨W, hW⟩ : ∃ W, W = (w.alloc (.cells #[.bool false, .slice A1 a1.length c1, .slice D1 b1.length d1, .bool s2, .slice A2 a2.length c2, .slice D2 b2.length d2] 26)).alloc (.cells #[.bool false, .slice A1 a1.length c1, .slice D1 b1.length d1, .bool s2, .slice A2 a2.length c2, .slice D2 b2.length d2] 26) := ⟨_, rfl⟩
  have i0 := S1.cell 0
  have i1 := S1.cell 1
  have i2 := S1.cell 2
  have i3 := S1.cell 3
  have i4 := S1.cell 4
  have i5 := S1.cell 5
  simp only [hk] at hC
  clear hk
  have hS := fun A c w' h => rsize_any A c a1.length a1 w' rfl h
  go_enter Try.func23, Try.ntmps23
  go_wp2_with fail
  rw [← hW] at S2_ SG BW ⊢
  clear hW S1 C1 L2 z3 i0 i1 i2 i3 i4 i5
  refine (hC W SG (st p1 BW) (st p2 BW) (st p3 BW) (st p4 BW)).mono ?_; rintro e w5 ⟨rfl, B5⟩
  clear hC
  have S5 := S2_.nx B5
  have BB := bt BW B5
  have i0 := S5.cell 0
  have i1 := S5.cell 1
  have i2 := S5.cell 2
  have i3 := S5.cell 3
  have i4 := S5.cell 4
  have i5 := S5.cell 5
  have L6 := bal w5 (.cells #[.bool false, .slice A1 a1.length c1, .slice D1 b1.length d1, .bool s2, .slice A2 a2.length c2, .slice D2 b2.length d2] 26)
  have Sb := SB.new w5 [.bool false, .slice A1 a1.length c1, .slice D1 b1.length d1, .bool s2, .slice A2 a2.length c2, .slice D2 b2.length d2] 26
  have S6 := S5.nx L6
  have BB := bt BB L6
  obtain ⟨gb, hgb⟩ : ∃ g, g = w5.heap.size := ⟨_, rfl⟩
  have hgl : w.heap.size < gb := by rw [hgb]; exact S5.2
  obtain ⟨w6, hw6⟩ : ∃ v, v = w5.alloc (.cells #[.bool false, .slice A1 a1.length c1, .slice D1 b1.length d1, .bool s2, .slice A2 a2.length c2, .slice D2 b2.length d2] 26) := ⟨_, rfl⟩
  go_upto_region 5 with fail
  rw [← hgb] at Sb ⊢
  rw [← hw6] at Sb S6 BB ⊢
  clear hw6 hgb L6 i0 i1 i2 i3 i4 i5 S5
  have i0 := S6.cell 0
  go_upto_region 7 with fail
  clear i0
  obtain ⟨w8, hw8⟩ : ∃ v, v = w6 := ⟨_, rfl⟩
  rw [← hw8] at Sb S6 BB ⊢
  clear hw8
  have i1 := Sb.cell 1
  go_wp2_with fail
  refine (hS _ _ _ (st p1 BB)).mono ?_; rintro e9 w9 ⟨rfl, rfl⟩
  go_wp2_with fail
  go_ret2
  exact ⟨rfl, BB⟩


set_option maxRecDepth 100000 in
set_option maxHeartbeats 16000000 in
theorem rblength_neg (s2 : Bool) (a1 b1 a2 b2 : List Nat) (A1 D1 A2 D2 : Option Addr) (c1 d1 c2 d2 : Nat) (w : World) (p1 : RW w w.heap.size A1 c1 a1) (p2 : RW w w.heap.size D1 d1 b1) (p3 : RW w w.heap.size A2 c2 a2) (p4 : RW w w.heap.size D2 d2 b2) (X : Int) (v : Nat) (hv : X = -(v : Int) - 1) (hX : Hid ((⟨true, a1, b1⟩ : Rw) = rwq ((X : Int) : Rat) ∧ (⟨s2, a2, b2⟩ : Rw) = rwq 0)) (la : a1.length ≤ 512) (hk : bchkN1 ⟨true, a1, b1⟩ ⟨s2, a2, b2⟩ = 0) :
    Calls Try.prog 23 #[.agg #[.bool true, .slice A1 a1.length c1, .slice D1 b1.length d1, .bool s2, .slice A2 a2.length c2, .slice D2 b2.length d2]] w fun e w' => e = .returned (.tuple #[.int .i64 (blen v), .int .i64 0]) ∧ Below w.heap.size w w' := by
  have S1 := SB.new w [.bool true, .slice A1 a1.length c1, .slice D1 b1.length d1, .bool s2, .slice A2 a2.length c2, .slice D2 b2.length d2] 26
  have C1 := bal w (.cells #[.bool true, .slice A1 a1.length c1, .slice D1 b1.length d1, .bool s2, .slice A2 a2.length c2, .slice D2 b2.length d2] 26)
  have L2 := bal (w.alloc (.cells #[.bool true, .slice A1 a1.length c1, .slice D1 b1.length d1, .bool s2, .slice A2 a2.length c2, .slice D2 b2.length d2] 26)) (.cells #[.bool true, .slice A1 a1.length c1, .slice D1 b1.length d1, .bool s2, .slice A2 a2.length c2, .slice D2 b2.length d2] 26)
  have SG := SB.new (w.alloc (.cells #[.bool true, .slice A1 a1.length c1, .slice D1 b1.length d1, .bool s2, .slice A2 a2.length c2, .slice D2 b2.length d2] 26)) [.bool true, .slice A1 a1.length c1, .slice D1 b1.length d1, .bool s2, .slice A2 a2.length c2, .slice D2 b2.length d2] 26
  have z3 : (w.alloc (.cells #[.bool true, .slice A1 a1.length c1, .slice D1 b1.length d1, .bool s2, .slice A2 a2.length c2, .slice D2 b2.length d2] 26)).heap.size = w.heap.size + 1 := by simp
  rw [z3] at SG
  have hC := fun w' hg h1 h2 h3 h4 => rbcheck1_any (w.heap.size + 1) true a1 b1 s2 a2 b2 A1 c1 D1 d1 A2 c2 D2 d2 w' hg h1 h2 h3 h4
  have BW := bt C1 L2
  have S2_ := S1.nx L2
  obtain ⟨W, hW⟩ : ∃ W, W = (w.alloc (.cells #[.bool true, .slice A1 a1.length c1, .slice D1 b1.length d1, .bool s2, .slice A2 a2.length c2, .slice D2 b2.length d2] 26)).alloc (.cells #[.bool true, .slice A1 a1.length c1, .slice D1 b1.length d1, .bool s2, .slice A2 a2.length c2, .slice D2 b2.length d2] 26) := ⟨_, rfl⟩
  have i0 := S1.cell 0
  have i1 := S1.cell 1
  have i2 := S1.cell 2
  have i3 := S1.cell 3
  have i4 := S1.cell 4
  have i5 := S1.cell 5
  have hY : (-X - 1 : Int) = sgn false v := by rw [hv, sgn_false]; omega
  have hvl : (digs v).length ≤ 512 := by
    have h3 : a1 = digs X.natAbs := congrArg Rw.a hX.out.1
    have h4 := digs_mono (show v ≤ X.natAbs by rw [hv]; omega)
    rw [← h3] at h4; omega
  have hT := fun w' h1 h2 => rturn_int X true s2 a1 b1 A1 D1 A2 D2 c1 d1 c2 d2 a2.length b2.length w' hX.out.1 (by omega) h1 h2
  rw [hY, rwq_int false v (fun _ => rfl)] at hT
  dsimp only at hT
  obtain ⟨y, hy⟩ : ∃ y, Hid (digs v = y) := ⟨_, rfl⟩
  rw [hy.out] at hT hvl
  have HV := Lib.hid hv
  clear hv hY
  simp only [hk] at hC
  clear hk
  have hS := fun A c w' h => rsize_any A c y.length y w' rfl h
  rw [show val y = v by rw [← hy.out, val_digs]] at hS
  go_enter Try.func23, Try.ntmps23
  go_wp2_with fail
  rw [← hW] at S2_ SG BW ⊢
  clear hW S1 C1 L2 z3 i0 i1 i2 i3 i4 i5
  refine (hC W SG (st p1 BW) (st p2 BW) (st p3 BW) (st p4 BW)).mono ?_; rintro e w5 ⟨rfl, B5⟩
  clear hC
  have S5 := S2_.nx B5
  have BB := bt BW B5
  have i0 := S5.cell 0
  have i1 := S5.cell 1
  have i2 := S5.cell 2
  have i3 := S5.cell 3
  have i4 := S5.cell 4
  have i5 := S5.cell 5
  have L6 := bal w5 (.cells #[.bool true, .slice A1 a1.length c1, .slice D1 b1.length d1, .bool s2, .slice A2 a2.length c2, .slice D2 b2.length d2] 26)
  have Sb := SB.new w5 [.bool true, .slice A1 a1.length c1, .slice D1 b1.length d1, .bool s2, .slice A2 a2.length c2, .slice D2 b2.length d2] 26
  have S6 := S5.nx L6
  have BB := bt BB L6
  obtain ⟨gb, hgb⟩ : ∃ g, g = w5.heap.size := ⟨_, rfl⟩
  have hgl : w.heap.size < gb := by rw [hgb]; exact S5.2
  obtain ⟨w6, hw6⟩ : ∃ v, v = w5.alloc (.cells #[.bool true, .slice A1 a1.length c1, .slice D1 b1.length d1, .bool s2, .slice A2 a2.length c2, .slice D2 b2.length d2] 26) := ⟨_, rfl⟩
  go_upto_region 5 with fail
  rw [← hgb] at Sb ⊢
  rw [← hw6] at Sb S6 BB ⊢
  clear hw6 hgb L6 i0 i1 i2 i3 i4 i5 S5
  have i0 := S6.cell 0
  have i1 := S6.cell 1
  have i2 := S6.cell 2
  have i3 := S6.cell 3
  have i4 := S6.cell 4
  have i5 := S6.cell 5
  go_wp2_with fail
  refine (hT w6 (st p1 BB) (st p2 BB)).mono ?_; rintro e7 w7 ⟨T, ct, D3, d3, rfl, OT, OD, B7⟩
  clear hT i0 i1 i2 i3 i4 i5
  have hbl := Sb.2
  have Sb := Sb.nx B7
  have S6 := S6.nx B7
  have BB := bt BB B7
  have hRb := Sb.rc (n := 6)
  go_upto_region 7 with (refine wp_st6 rfl (.tmp 5) (.tmp 17) rfl _ rfl _ _ _ _ _ _ rfl hRb rfl rfl rfl rfl rfl rfl ?_)
  have Sb := Sb.put6x (.bool false) (.slice T y.length ct) (.slice D3 1 d3) (.bool s2) (.slice A2 a2.length c2) (.slice D2 b2.length d2)
  have S6 := S6.wr6 (r := gb) (by omega) (.bool false) (.slice T y.length ct) (.slice D3 1 d3) (.bool s2) (.slice A2 a2.length c2) (.slice D2 b2.length d2)
  have BB := wr6_below (b := gb) BB (by omega) (.bool false) (.slice T y.length ct) (.slice D3 1 d3) (.bool s2) (.slice A2 a2.length c2) (.slice D2 b2.length d2)
  have OT := OT.put6 (b := gb) hbl (.bool false) (.slice T y.length ct) (.slice D3 1 d3) (.bool s2) (.slice A2 a2.length c2) (.slice D2 b2.length d2)
  obtain ⟨w8, hw8⟩ : ∃ v, v = wr6 w7 gb (.bool false) (.slice T y.length ct) (.slice D3 1 d3) (.bool s2) (.slice A2 a2.length c2) (.slice D2 b2.length d2) := ⟨_, rfl⟩
  rw [← hw8] at Sb S6 BB OT ⊢
  clear hw8 B7 hRb OD
  have i1 := Sb.cell 1
  go_wp2_with fail
  refine (hS _ _ _ OT.rw).mono ?_; rintro e9 w9 ⟨rfl, rfl⟩
  go_wp2_with fail
  go_ret2
  exact ⟨rfl, BB⟩


set_option maxRecDepth 100000 in
set_option maxHeartbeats 16000000 in
theorem rbcount_pos (s2 : Bool) (a1 b1 a2 b2 : List Nat) (A1 D1 A2 D2 : Option Addr) (c1 d1 c2 d2 : Nat) (w : World) (p1 : RW w w.heap.size A1 c1 a1) (p2 : RW w w.heap.size D1 d1 b1) (p3 : RW w w.heap.size A2 c2 a2) (p4 : RW w w.heap.size D2 d2 b2) (la : a1.length ≤ 512) (hd : a1 = digs (val a1)) (hk : bchkN1 ⟨false, a1, b1⟩ ⟨s2, a2, b2⟩ = 0) :
    Calls Try.prog 21 #[.agg #[.bool false, .slice A1 a1.length c1, .slice D1 b1.length d1, .bool s2, .slice A2 a2.length c2, .slice D2 b2.length d2]] w fun e w' => e = .returned (.tuple #[.int .i64 (pcN (val a1) : Nat), .int .i64 0]) ∧ Below w.heap.size w w' := by
  have S1 := SB.new w [.bool false, .slice A1 a1.length c1, .slice D1 b1.length d1, .bool s2, .slice A2 a2.length c2, .slice D2 b2.length d2] 26
  have C1 := bal w (.cells #[.bool false, .slice A1 a1.length c1, .slice D1 b1.length d1, .bool s2, .slice A2 a2.length c2, .slice D2 b2.length d2] 26)
  have L2 := bal (w.alloc (.cells #[.bool false, .slice A1 a1.length c1, .slice D1 b1.length d1, .bool s2, .slice A2 a2.length c2, .slice D2 b2.length d2] 26)) (.cells #[.bool false, .slice A1 a1.length c1, .slice D1 b1.length d1, .bool s2, .slice A2 a2.length c2, .slice D2 b2.length d2] 26)
  have SG := SB.new (w.alloc (.cells #[.bool false, .slice A1 a1.length c1, .slice D1 b1.length d1, .bool s2, .slice A2 a2.length c2, .slice D2 b2.length d2] 26)) [.bool false, .slice A1 a1.length c1, .slice D1 b1.length d1, .bool s2, .slice A2 a2.length c2, .slice D2 b2.length d2] 26
  have z3 : (w.alloc (.cells #[.bool false, .slice A1 a1.length c1, .slice D1 b1.length d1, .bool s2, .slice A2 a2.length c2, .slice D2 b2.length d2] 26)).heap.size = w.heap.size + 1 := by simp
  rw [z3] at SG
  have hC := fun w' hg h1 h2 h3 h4 => rbcheck1_any (w.heap.size + 1) false a1 b1 s2 a2 b2 A1 c1 D1 d1 A2 c2 D2 d2 w' hg h1 h2 h3 h4
  have BW := bt C1 L2
  have S2_ := S1.nx L2
  obtain ⟨W, hW⟩ : ∃ W, W = (w.alloc (.cells #[.bool false, .slice A1 a1.length c1, .slice D1 b1.length d1, .bool s2, .slice A2 a2.length c2, .slice D2 b2.length d2] 26)).alloc (.cells #[.bool false, .slice A1 a1.length c1, .slice D1 b1.length d1, .bool s2, .slice A2 a2.length c2, .slice D2 b2.length d2] 26) := ⟨_, rfl⟩
  have i0 := S1.cell 0
  have i1 := S1.cell 1
  have i2 := S1.cell 2
  have i3 := S1.cell 3
  have i4 := S1.cell 4
  have i5 := S1.cell 5
  have hvl : a1.length ≤ 512 := la
  have HP : Hid (pcount (val a1) (32 * a1.length) = pcN (val a1)) := by
    have h := pcN_words (m := val a1) (by rw [← hd]; exact la)
    rw [← hd] at h
    exact h
  clear hd
  simp only [hk] at hC
  clear hk
  go_enter Try.func21, Try.ntmps21
  go_wp2_with fail
  rw [← hW] at S2_ SG BW ⊢
  clear hW S1 C1 L2 z3 i0 i1 i2 i3 i4 i5
  refine (hC W SG (st p1 BW) (st p2 BW) (st p3 BW) (st p4 BW)).mono ?_; rintro e w5 ⟨rfl, B5⟩
  clear hC
  have S5 := S2_.nx B5
  have BB := bt BW B5
  have i0 := S5.cell 0
  have i1 := S5.cell 1
  have i2 := S5.cell 2
  have i3 := S5.cell 3
  have i4 := S5.cell 4
  have i5 := S5.cell 5
  have L6 := bal w5 (.cells #[.bool false, .slice A1 a1.length c1, .slice D1 b1.length d1, .bool s2, .slice A2 a2.length c2, .slice D2 b2.length d2] 26)
  have Sb := SB.new w5 [.bool false, .slice A1 a1.length c1, .slice D1 b1.length d1, .bool s2, .slice A2 a2.length c2, .slice D2 b2.length d2] 26
  have S6 := S5.nx L6
  have BB := bt BB L6
  obtain ⟨gb, hgb⟩ : ∃ g, g = w5.heap.size := ⟨_, rfl⟩
  have hgl : w.heap.size < gb := by rw [hgb]; exact S5.2
  obtain ⟨w6, hw6⟩ : ∃ v, v = w5.alloc (.cells #[.bool false, .slice A1 a1.length c1, .slice D1 b1.length d1, .bool s2, .slice A2 a2.length c2, .slice D2 b2.length d2] 26) := ⟨_, rfl⟩
  go_upto_region 5 with fail
  rw [← hgb] at Sb ⊢
  rw [← hw6] at Sb S6 BB ⊢
  clear hw6 hgb L6 i0 i1 i2 i3 i4 i5 S5
  have i0 := S6.cell 0
  go_upto_region 7 with fail
  clear i0
  obtain ⟨w8, hw8⟩ : ∃ v, v = w6 := ⟨_, rfl⟩
  rw [← hw8] at Sb S6 BB ⊢
  clear hw8
  go_wp2_with fail
  go_loopg [6, 7] (32 * a1.length) (fun gg nv iv wr => ∃ k : Nat, k ≤ 32 * a1.length ∧ 32 * a1.length - k = gg ∧ iv = .int .i64 (k : Int) ∧ nv = .int .i64 ((pcount (val a1) k : Nat) : Int) ∧ wr = w8)
  case atStart => exact ⟨0, Nat.zero_le _, rfl, rfl, rfl, rfl⟩
  case round =>
    obtain ⟨k, hk, rfl, rfl, rfl, rfl⟩ := hrel
    have i1 := Sb.cell 1
    by_cases hk0 : k < 32 * a1.length
    · have hpl := pcount_le (val a1) k
      have hB := bit_any A1 c1 a1.length a1 wr (k : Int) k rfl (by omega) rfl (st p1 BB)
      rw [bitN_bit] at hB
      have HS : Hid (pcount (val a1) (k + 1) = pcount (val a1) k + if (val a1).testBit k = true then 1 else 0) := rfl
      obtain ⟨bv, hbv⟩ : ∃ bv, Hid ((if (val a1).testBit k = true then 1 else 0 : Nat) = bv) := ⟨_, rfl⟩
      have hb1 : bv ≤ 1 := by rw [← hbv.out]; split <;> omega
      rw [hbv.out] at hB
      go_wp2_with fail
      refine hB.mono ?_; rintro e9 w9 ⟨rfl, rfl⟩
      clear hB
      go_wp2_with fail
      go_roundg (32 * a1.length - (k + 1))
      case measure => omega
      case rel => exact ⟨k + 1, by omega, rfl, by go_num, by rw [HS.out, hbv.out]; go_num, rfl⟩
    · obtain rfl : k = 32 * a1.length := by omega
      have j0 := S6.cell 0
      have hpl := pcount_le (val a1) (32 * a1.length)
      go_wp2_with fail
      go_ret2
      exact ⟨by rw [← HP.out]; rfl, BB⟩


set_option maxRecDepth 100000 in
set_option maxHeartbeats 16000000 in
theorem rbcount_neg (s2 : Bool) (a1 b1 a2 b2 : List Nat) (A1 D1 A2 D2 : Option Addr) (c1 d1 c2 d2 : Nat) (w : World) (p1 : RW w w.heap.size A1 c1 a1) (p2 : RW w w.heap.size D1 d1 b1) (p3 : RW w w.heap.size A2 c2 a2) (p4 : RW w w.heap.size D2 d2 b2) (X : Int) (v : Nat) (hv : X = -(v : Int) - 1) (hX : Hid ((⟨true, a1, b1⟩ : Rw) = rwq ((X : Int) : Rat) ∧ (⟨s2, a2, b2⟩ : Rw) = rwq 0)) (la : a1.length ≤ 512) (hk : bchkN1 ⟨true, a1, b1⟩ ⟨s2, a2, b2⟩ = 0) :
    Calls Try.prog 21 #[.agg #[.bool true, .slice A1 a1.length c1, .slice D1 b1.length d1, .bool s2, .slice A2 a2.length c2, .slice D2 b2.length d2]] w fun e w' => e = .returned (.tuple #[.int .i64 (-(pcN v : Nat) - 1), .int .i64 0]) ∧ Below w.heap.size w w' := by
  have S1 := SB.new w [.bool true, .slice A1 a1.length c1, .slice D1 b1.length d1, .bool s2, .slice A2 a2.length c2, .slice D2 b2.length d2] 26
  have C1 := bal w (.cells #[.bool true, .slice A1 a1.length c1, .slice D1 b1.length d1, .bool s2, .slice A2 a2.length c2, .slice D2 b2.length d2] 26)
  have L2 := bal (w.alloc (.cells #[.bool true, .slice A1 a1.length c1, .slice D1 b1.length d1, .bool s2, .slice A2 a2.length c2, .slice D2 b2.length d2] 26)) (.cells #[.bool true, .slice A1 a1.length c1, .slice D1 b1.length d1, .bool s2, .slice A2 a2.length c2, .slice D2 b2.length d2] 26)
  have SG := SB.new (w.alloc (.cells #[.bool true, .slice A1 a1.length c1, .slice D1 b1.length d1, .bool s2, .slice A2 a2.length c2, .slice D2 b2.length d2] 26)) [.bool true, .slice A1 a1.length c1, .slice D1 b1.length d1, .bool s2, .slice A2 a2.length c2, .slice D2 b2.length d2] 26
  have z3 : (w.alloc (.cells #[.bool true, .slice A1 a1.length c1, .slice D1 b1.length d1, .bool s2, .slice A2 a2.length c2, .slice D2 b2.length d2] 26)).heap.size = w.heap.size + 1 := by simp
  rw [z3] at SG
  have hC := fun w' hg h1 h2 h3 h4 => rbcheck1_any (w.heap.size + 1) true a1 b1 s2 a2 b2 A1 c1 D1 d1 A2 c2 D2 d2 w' hg h1 h2 h3 h4
  have BW := bt C1 L2
  have S2_ := S1.nx L2
  obtain ⟨W, hW⟩ : ∃ W, W = (w.alloc (.cells #[.bool true, .slice A1 a1.length c1, .slice D1 b1.length d1, .bool s2, .slice A2 a2.length c2, .slice D2 b2.length d2] 26)).alloc (.cells #[.bool true, .slice A1 a1.length c1, .slice D1 b1.length d1, .bool s2, .slice A2 a2.length c2, .slice D2 b2.length d2] 26) := ⟨_, rfl⟩
  have i0 := S1.cell 0
  have i1 := S1.cell 1
  have i2 := S1.cell 2
  have i3 := S1.cell 3
  have i4 := S1.cell 4
  have i5 := S1.cell 5
  have hY : (-X - 1 : Int) = sgn false v := by rw [hv, sgn_false]; omega
  have hvl : (digs v).length ≤ 512 := by
    have h3 : a1 = digs X.natAbs := congrArg Rw.a hX.out.1
    have h4 := digs_mono (show v ≤ X.natAbs by rw [hv]; omega)
    rw [← h3] at h4; omega
  have hT := fun w' h1 h2 => rturn_int X true s2 a1 b1 A1 D1 A2 D2 c1 d1 c2 d2 a2.length b2.length w' hX.out.1 (by omega) h1 h2
  rw [hY, rwq_int false v (fun _ => rfl)] at hT
  dsimp only at hT
  obtain ⟨y, hy⟩ : ∃ y, Hid (digs v = y) := ⟨_, rfl⟩
  rw [hy.out] at hT hvl
  have HV := Lib.hid hv
  clear hv hY
  have hyv : val y = v := by rw [← hy.out, val_digs]
  have HP : Hid (pcount (val y) (32 * y.length) = pcN v) := by
    have h := pcN_words (m := v) (by rw [hy.out]; exact hvl)
    rw [hy.out, ← hyv] at h
    show _ = _
    rw [h, hyv]
  clear hyv
  simp only [hk] at hC
  clear hk
  go_enter Try.func21, Try.ntmps21
  go_wp2_with fail
  rw [← hW] at S2_ SG BW ⊢
  clear hW S1 C1 L2 z3 i0 i1 i2 i3 i4 i5
  refine (hC W SG (st p1 BW) (st p2 BW) (st p3 BW) (st p4 BW)).mono ?_; rintro e w5 ⟨rfl, B5⟩
  clear hC
  have S5 := S2_.nx B5
  have BB := bt BW B5
  have i0 := S5.cell 0
  have i1 := S5.cell 1
  have i2 := S5.cell 2
  have i3 := S5.cell 3
  have i4 := S5.cell 4
  have i5 := S5.cell 5
  have L6 := bal w5 (.cells #[.bool true, .slice A1 a1.length c1, .slice D1 b1.length d1, .bool s2, .slice A2 a2.length c2, .slice D2 b2.length d2] 26)
  have Sb := SB.new w5 [.bool true, .slice A1 a1.length c1, .slice D1 b1.length d1, .bool s2, .slice A2 a2.length c2, .slice D2 b2.length d2] 26
  have S6 := S5.nx L6
  have BB := bt BB L6
  obtain ⟨gb, hgb⟩ : ∃ g, g = w5.heap.size := ⟨_, rfl⟩
  have hgl : w.heap.size < gb := by rw [hgb]; exact S5.2
  obtain ⟨w6, hw6⟩ : ∃ v, v = w5.alloc (.cells #[.bool true, .slice A1 a1.length c1, .slice D1 b1.length d1, .bool s2, .slice A2 a2.length c2, .slice D2 b2.length d2] 26) := ⟨_, rfl⟩
  go_upto_region 5 with fail
  rw [← hgb] at Sb ⊢
  rw [← hw6] at Sb S6 BB ⊢
  clear hw6 hgb L6 i0 i1 i2 i3 i4 i5 S5
  have i0 := S6.cell 0
  have i1 := S6.cell 1
  have i2 := S6.cell 2
  have i3 := S6.cell 3
  have i4 := S6.cell 4
  have i5 := S6.cell 5
  go_wp2_with fail
  refine (hT w6 (st p1 BB) (st p2 BB)).mono ?_; rintro e7 w7 ⟨T, ct, D3, d3, rfl, OT, OD, B7⟩
  clear hT i0 i1 i2 i3 i4 i5
  have hbl := Sb.2
  have Sb := Sb.nx B7
  have S6 := S6.nx B7
  have BB := bt BB B7
  have hRb := Sb.rc (n := 6)
  go_upto_region 7 with (refine wp_st6 rfl (.tmp 5) (.tmp 19) rfl _ rfl _ _ _ _ _ _ rfl hRb rfl rfl rfl rfl rfl rfl ?_)
  have Sb := Sb.put6x (.bool false) (.slice T y.length ct) (.slice D3 1 d3) (.bool s2) (.slice A2 a2.length c2) (.slice D2 b2.length d2)
  have S6 := S6.wr6 (r := gb) (by omega) (.bool false) (.slice T y.length ct) (.slice D3 1 d3) (.bool s2) (.slice A2 a2.length c2) (.slice D2 b2.length d2)
  have BB := wr6_below (b := gb) BB (by omega) (.bool false) (.slice T y.length ct) (.slice D3 1 d3) (.bool s2) (.slice A2 a2.length c2) (.slice D2 b2.length d2)
  have OT := OT.put6 (b := gb) hbl (.bool false) (.slice T y.length ct) (.slice D3 1 d3) (.bool s2) (.slice A2 a2.length c2) (.slice D2 b2.length d2)
  obtain ⟨w8, hw8⟩ : ∃ v, v = wr6 w7 gb (.bool false) (.slice T y.length ct) (.slice D3 1 d3) (.bool s2) (.slice A2 a2.length c2) (.slice D2 b2.length d2) := ⟨_, rfl⟩
  rw [← hw8] at Sb S6 BB OT ⊢
  clear hw8 B7 hRb OD
  go_wp2_with fail
  go_loopg [6, 7] (32 * y.length) (fun gg nv iv wr => ∃ k : Nat, k ≤ 32 * y.length ∧ 32 * y.length - k = gg ∧ iv = .int .i64 (k : Int) ∧ nv = .int .i64 ((pcount (val y) k : Nat) : Int) ∧ OW wr w6.heap.size T ct y ∧ wr = w8)
  case atStart => exact ⟨0, Nat.zero_le _, rfl, rfl, rfl, OT, rfl⟩
  case round =>
    obtain ⟨k, hk, rfl, rfl, rfl, OT, rfl⟩ := hrel
    have i1 := Sb.cell 1
    by_cases hk0 : k < 32 * y.length
    · have hpl := pcount_le (val y) k
      have hB := bit_any T ct y.length y wr (k : Int) k rfl (by omega) rfl OT.rw
      rw [bitN_bit] at hB
      have HS : Hid (pcount (val y) (k + 1) = pcount (val y) k + if (val y).testBit k = true then 1 else 0) := rfl
      obtain ⟨bv, hbv⟩ : ∃ bv, Hid ((if (val y).testBit k = true then 1 else 0 : Nat) = bv) := ⟨_, rfl⟩
      have hb1 : bv ≤ 1 := by rw [← hbv.out]; split <;> omega
      rw [hbv.out] at hB
      go_wp2_with fail
      refine hB.mono ?_; rintro e9 w9 ⟨rfl, rfl⟩
      clear hB
      go_wp2_with fail
      go_roundg (32 * y.length - (k + 1))
      case measure => omega
      case rel => exact ⟨k + 1, by omega, rfl, by go_num, by rw [HS.out, hbv.out]; go_num, OT, rfl⟩
    · obtain rfl : k = 32 * y.length := by omega
      have j0 := S6.cell 0
      have hpl := pcount_le (val y) (32 * y.length)
      go_wp2_with fail
      go_ret2
      exact ⟨by rw [← HP.out]; rfl, BB⟩

end Go.Proofs.Ytnlgoedklmjhlaa
namespace Go.Proofs.Ytnlgoedklmjhlaa
open Go.RowKit

/-- what Count and Length answer -/
def qcountA (r i : Rw) : Int × Int := if bchkN1 r i = 0 then (if r.s = true then -(pcN (-(iv r) - 1).toNat : Nat) - 1 else (pcN (val r.a) : Nat), 0) else (0, bchkN1 r i)
def qlenA (r i : Rw) : Int × Int := if bchkN1 r i = 0 then (if r.s = true then (blen (-(iv r) - 1).toNat : Nat) else (blen (val r.a) : Nat), 0) else (0, bchkN1 r i)
theorem iv_neg {r i : Rw} (h : wB r i = true) (hs : r.s = true) : iv r < 0 := by
  have e := iv_sign h
  rw [hs] at e
  exact of_decide_eq_true e.symm

theorem bcount_any (V : Value) (r i : Rw) (w : World) (hV : VN w w.heap.size V r i) :
    Calls Try.prog 20 #[V] w fun e w' => e = .returned (.tuple #[.int .i64 (qcountA r i).1, .int .i64 (qcountA r i).2]) ∧ Below w.heap.size w w' := by
  obtain ⟨A1, c1, D1, d1, A2, c2, D2, d2, rfl, p1, p2, p3, p4⟩ := hV
  unfold qcountA
  by_cases hk : bchkN1 r i = 0
  · rw [if_pos hk]
    obtain ⟨x1, x2, x3⟩ := wB_rw (bchk1_zero hk)
    obtain ⟨h1, _⟩ := wB_int (bchk1_zero hk)
    have hng := iv_neg (bchk1_zero hk)
    obtain ⟨s, a, b⟩ := r
    cases s with
    | true =>
      rw [if_pos rfl]
      have hn := hng rfl
      exact bcount_neg i.s a b i.a i.b A1 D1 A2 D2 c1 d1 c2 d2 w p1 p2 p3 p4 (iv ⟨true, a, b⟩) (-(iv ⟨true, a, b⟩) - 1).toNat (by omega) (Lib.hid ⟨x1, x2⟩) x3 hk
    | false =>
      rw [if_neg (by simp)]
      exact bcount_pos i.s a b i.a i.b A1 D1 A2 D2 c1 d1 c2 d2 w p1 p2 p3 p4 x3 h1 hk
  · rw [if_neg hk]
    exact bcount_bad r.s i.s r.a r.b i.a i.b A1 D1 A2 D2 c1 d1 c2 d2 w p1 p2 p3 p4 _ rfl (beq_eq_false_iff_ne.2 hk)

theorem rbcount_any (V : Value) (r i : Rw) (w : World) (hV : VN w w.heap.size V r i) :
    Calls Try.prog 21 #[V] w fun e w' => e = .returned (.tuple #[.int .i64 (qcountA r i).1, .int .i64 (qcountA r i).2]) ∧ Below w.heap.size w w' := by
  obtain ⟨A1, c1, D1, d1, A2, c2, D2, d2, rfl, p1, p2, p3, p4⟩ := hV
  unfold qcountA
  by_cases hk : bchkN1 r i = 0
  · rw [if_pos hk]
    obtain ⟨x1, x2, x3⟩ := wB_rw (bchk1_zero hk)
    obtain ⟨h1, _⟩ := wB_int (bchk1_zero hk)
    have hng := iv_neg (bchk1_zero hk)
    obtain ⟨s, a, b⟩ := r
    cases s with
    | true =>
      rw [if_pos rfl]
      have hn := hng rfl
      exact rbcount_neg i.s a b i.a i.b A1 D1 A2 D2 c1 d1 c2 d2 w p1 p2 p3 p4 (iv ⟨true, a, b⟩) (-(iv ⟨true, a, b⟩) - 1).toNat (by omega) (Lib.hid ⟨x1, x2⟩) x3 hk
    | false =>
      rw [if_neg (by simp)]
      exact rbcount_pos i.s a b i.a i.b A1 D1 A2 D2 c1 d1 c2 d2 w p1 p2 p3 p4 x3 h1 hk
  · rw [if_neg hk]
    exact rbcount_bad r.s i.s r.a r.b i.a i.b A1 D1 A2 D2 c1 d1 c2 d2 w p1 p2 p3 p4 _ rfl (beq_eq_false_iff_ne.2 hk)

theorem blength_any (V : Value) (r i : Rw) (w : World) (hV : VN w w.heap.size V r i) :
    Calls Try.prog 22 #[V] w fun e w' => e = .returned (.tuple #[.int .i64 (qlenA r i).1, .int .i64 (qlenA r i).2]) ∧ Below w.heap.size w w' := by
  obtain ⟨A1, c1, D1, d1, A2, c2, D2, d2, rfl, p1, p2, p3, p4⟩ := hV
  unfold qlenA
  by_cases hk : bchkN1 r i = 0
  · rw [if_pos hk]
    obtain ⟨x1, x2, x3⟩ := wB_rw (bchk1_zero hk)
    obtain ⟨h1, _⟩ := wB_int (bchk1_zero hk)
    have hng := iv_neg (bchk1_zero hk)
    obtain ⟨s, a, b⟩ := r
    cases s with
    | true =>
      rw [if_pos rfl]
      have hn := hng rfl
      exact blength_neg i.s a b i.a i.b A1 D1 A2 D2 c1 d1 c2 d2 w p1 p2 p3 p4 (iv ⟨true, a, b⟩) (-(iv ⟨true, a, b⟩) - 1).toNat (by omega) (Lib.hid ⟨x1, x2⟩) x3 hk
    | false =>
      rw [if_neg (by simp)]
      exact blength_pos i.s a b i.a i.b A1 D1 A2 D2 c1 d1 c2 d2 w p1 p2 p3 p4 (Nrm_of_digs h1) hk
  · rw [if_neg hk]
    exact blength_bad r.s i.s r.a r.b i.a i.b A1 D1 A2 D2 c1 d1 c2 d2 w p1 p2 p3 p4 _ rfl (beq_eq_false_iff_ne.2 hk)

theorem rblength_any (V : Value) (r i : Rw) (w : World) (hV : VN w w.heap.size V r i) :
    Calls Try.prog 23 #[V] w fun e w' => e = .returned (.tuple #[.int .i64 (qlenA r i).1, .int .i64 (qlenA r i).2]) ∧ Below w.heap.size w w' := by
  obtain ⟨A1, c1, D1, d1, A2, c2, D2, d2, rfl, p1, p2, p3, p4⟩ := hV
  unfold qlenA
  by_cases hk : bchkN1 r i = 0
  · rw [if_pos hk]
    obtain ⟨x1, x2, x3⟩ := wB_rw (bchk1_zero hk)
    obtain ⟨h1, _⟩ := wB_int (bchk1_zero hk)
    have hng := iv_neg (bchk1_zero hk)
    obtain ⟨s, a, b⟩ := r
    cases s with
    | true =>
      rw [if_pos rfl]
      have hn := hng rfl
      exact rblength_neg i.s a b i.a i.b A1 D1 A2 D2 c1 d1 c2 d2 w p1 p2 p3 p4 (iv ⟨true, a, b⟩) (-(iv ⟨true, a, b⟩) - 1).toNat (by omega) (Lib.hid ⟨x1, x2⟩) x3 hk
    | false =>
      rw [if_neg (by simp)]
      exact rblength_pos i.s a b i.a i.b A1 D1 A2 D2 c1 d1 c2 d2 w p1 p2 p3 p4 hk
  · rw [if_neg hk]
    exact rblength_bad r.s i.s r.a r.b i.a i.b A1 D1 A2 D2 c1 d1 c2 d2 w p1 p2 p3 p4 _ rfl (beq_eq_false_iff_ne.2 hk)

set_option maxRecDepth 100000 in
set_option maxHeartbeats 16000000 in
theorem bitsShifts_walk (V : Value) (ra ia : Rw) (n : Int) (w : World) (hV : VN w w.heap.size V ra ia) (_ : -9223372036854775808 ≤ n ∧ n ≤ 9223372036854775807) :
    Calls Try.prog 5 #[V, .int .i64 n] w fun e w' => e = .returned (.bool true) ∧ Below w.heap.size w w' := by
  obtain ⟨A1, c1, D1, d1, A2, c2, D2, d2, rfl, p1, p2, p3, p4⟩ := hV
  have S_a := SB.new w [.bool ra.s, .slice A1 ra.a.length c1, .slice D1 ra.b.length d1, .bool ia.s, .slice A2 ia.a.length c2, .slice D2 ia.b.length d2] 26
  have C0 := bal w (.cells #[.bool ra.s, .slice A1 ra.a.length c1, .slice D1 ra.b.length d1, .bool ia.s, .slice A2 ia.a.length c2, .slice D2 ia.b.length d2] 26)
  have H_a : VN w w.heap.size (.agg #[.bool ra.s, .slice A1 ra.a.length c1, .slice D1 ra.b.length d1, .bool ia.s, .slice A2 ia.a.length c2, .slice D2 ia.b.length d2]) ra ia := ⟨A1, c1, D1, d1, A2, c2, D2, d2, rfl, p1, p2, p3, p4⟩
  have H_a := H_a.st C0
  clear p1 p2 p3 p4
  have o0 := fun V w' h1 => bshift_any V ra ia n w' h1
  have o1 := fun V w' h1 => rbshift_any V ra ia n w' h1
  rcases en : qshiftA ra ia n with ⟨nr, ni, nk⟩
  rw [en] at o0 o1
  clear en
  have l0 := fun V U w' h1 h2 => alike_any V U nr ni nr ni w' h1 h2
  rw [alikeB_self] at l0
  have o2 := fun V w' h1 => bcount_any V ra ia w' h1
  have o3 := fun V w' h1 => rbcount_any V ra ia w' h1
  have o4 := fun V w' h1 => blength_any V ra ia w' h1
  have o5 := fun V w' h1 => rblength_any V ra ia w' h1
  rcases ec : qcountA ra ia with ⟨cv_, ce⟩
  rw [ec] at o2 o3
  rcases el : qlenA ra ia with ⟨lv_, le_⟩
  rw [el] at o4 o5
  clear ec el
  dsimp only at o2 o3 o4 o5
  obtain ⟨W0, hW0⟩ : ∃ W0, W0 = w.alloc (.cells #[.bool ra.s, .slice A1 ra.a.length c1, .slice D1 ra.b.length d1, .bool ia.s, .slice A2 ia.a.length c2, .slice D2 ia.b.length d2] 26) := ⟨_, rfl⟩
  go_enter Try.func5, Try.ntmps5
  have i0 := S_a.cell 0
  have i1 := S_a.cell 1
  have i2 := S_a.cell 2
  have i3 := S_a.cell 3
  have i4 := S_a.cell 4
  have i5 := S_a.cell 5
  go_wp2_with fail
  rw [← hW0] at S_a C0 H_a ⊢
  clear hW0
  clear i0 i1 i2 i3 i4 i5
  refine (o0 _ _ H_a).mono ?_; rintro e w3 ⟨A3a, c3a, D3a, d3a, A3b, c3b, D3b, d3b, rfl, O3a, O3b, O3c, O3d, B3⟩
  try dsimp only at O3a O3b O3c O3d
  have H_x0 : VN w3 w3.heap.size (.agg #[.bool nr.s, .slice A3a nr.a.length c3a, .slice D3a nr.b.length d3a, .bool ni.s, .slice A3b ni.a.length c3b, .slice D3b ni.b.length d3b]) nr ni := ⟨A3a, c3a, D3a, d3a, A3b, c3b, D3b, d3b, rfl, O3a.rw, O3b.rw, O3c.rw, O3d.rw⟩
  clear O3a O3b O3c O3d
  have S_a := S_a.nx B3
  have H_a := H_a.st B3
  have C0 := bt C0 B3
  have L3 := bal w3 (.cells #[.bool nr.s, .slice A3a nr.a.length c3a, .slice D3a nr.b.length d3a, .bool ni.s, .slice A3b ni.a.length c3b, .slice D3b ni.b.length d3b] 26)
  have S_x0 := SB.new w3 [.bool nr.s, .slice A3a nr.a.length c3a, .slice D3a nr.b.length d3a, .bool ni.s, .slice A3b ni.a.length c3b, .slice D3b ni.b.length d3b] 26
  have S_a := S_a.nx L3
  have H_a := H_a.st L3
  have H_x0 := H_x0.st L3
  have C0 := bt C0 L3
  have i0 := S_a.cell 0
  have i1 := S_a.cell 1
  have i2 := S_a.cell 2
  have i3 := S_a.cell 3
  have i4 := S_a.cell 4
  have i5 := S_a.cell 5
  go_wp2_with fail
  clear i0 i1 i2 i3 i4 i5
  refine (o1 _ _ H_a).mono ?_; rintro e w4 ⟨A4a, c4a, D4a, d4a, A4b, c4b, D4b, d4b, rfl, O4a, O4b, O4c, O4d, B4⟩
  try dsimp only at O4a O4b O4c O4d
  have H_y0 : VN w4 w4.heap.size (.agg #[.bool nr.s, .slice A4a nr.a.length c4a, .slice D4a nr.b.length d4a, .bool ni.s, .slice A4b ni.a.length c4b, .slice D4b ni.b.length d4b]) nr ni := ⟨A4a, c4a, D4a, d4a, A4b, c4b, D4b, d4b, rfl, O4a.rw, O4b.rw, O4c.rw, O4d.rw⟩
  clear O4a O4b O4c O4d
  have S_a := S_a.nx B4
  have H_a := H_a.st B4
  have S_x0 := S_x0.nx B4
  have H_x0 := H_x0.st B4
  have C0 := bt C0 B4
  have L4 := bal w4 (.cells #[.bool nr.s, .slice A4a nr.a.length c4a, .slice D4a nr.b.length d4a, .bool ni.s, .slice A4b ni.a.length c4b, .slice D4b ni.b.length d4b] 26)
  have S_y0 := SB.new w4 [.bool nr.s, .slice A4a nr.a.length c4a, .slice D4a nr.b.length d4a, .bool ni.s, .slice A4b ni.a.length c4b, .slice D4b ni.b.length d4b] 26
  have S_a := S_a.nx L4
  have H_a := H_a.st L4
  have S_x0 := S_x0.nx L4
  have H_x0 := H_x0.st L4
  have H_y0 := H_y0.st L4
  have C0 := bt C0 L4
  have i0 := S_a.cell 0
  have i1 := S_a.cell 1
  have i2 := S_a.cell 2
  have i3 := S_a.cell 3
  have i4 := S_a.cell 4
  have i5 := S_a.cell 5
  go_wp2_with fail
  refine (o2 _ _ H_a).mono ?_; rintro e w12 ⟨rfl, B12⟩
  clear i0 i1 i2 i3 i4 i5
  have S_a := S_a.nx B12
  have H_a := H_a.st B12
  have S_x0 := S_x0.nx B12
  have H_x0 := H_x0.st B12
  have S_y0 := S_y0.nx B12
  have H_y0 := H_y0.st B12
  have C0 := bt C0 B12
  have i0 := S_a.cell 0
  have i1 := S_a.cell 1
  have i2 := S_a.cell 2
  have i3 := S_a.cell 3
  have i4 := S_a.cell 4
  have i5 := S_a.cell 5
  go_wp2_with fail
  refine (o3 _ _ H_a).mono ?_; rintro e w13 ⟨rfl, B13⟩
  clear i0 i1 i2 i3 i4 i5
  have S_a := S_a.nx B13
  have H_a := H_a.st B13
  have S_x0 := S_x0.nx B13
  have H_x0 := H_x0.st B13
  have S_y0 := S_y0.nx B13
  have H_y0 := H_y0.st B13
  have C0 := bt C0 B13
  have i0 := S_a.cell 0
  have i1 := S_a.cell 1
  have i2 := S_a.cell 2
  have i3 := S_a.cell 3
  have i4 := S_a.cell 4
  have i5 := S_a.cell 5
  go_wp2_with fail
  refine (o4 _ _ H_a).mono ?_; rintro e w14 ⟨rfl, B14⟩
  clear i0 i1 i2 i3 i4 i5
  have S_a := S_a.nx B14
  have H_a := H_a.st B14
  have S_x0 := S_x0.nx B14
  have H_x0 := H_x0.st B14
  have S_y0 := S_y0.nx B14
  have H_y0 := H_y0.st B14
  have C0 := bt C0 B14
  have i0 := S_a.cell 0
  have i1 := S_a.cell 1
  have i2 := S_a.cell 2
  have i3 := S_a.cell 3
  have i4 := S_a.cell 4
  have i5 := S_a.cell 5
  go_wp2_with fail
  refine (o5 _ _ H_a).mono ?_; rintro e w15 ⟨rfl, B15⟩
  clear i0 i1 i2 i3 i4 i5
  have S_a := S_a.nx B15
  have H_a := H_a.st B15
  have S_x0 := S_x0.nx B15
  have H_x0 := H_x0.st B15
  have S_y0 := S_y0.nx B15
  have H_y0 := H_y0.st B15
  have C0 := bt C0 B15
  go_wp2_with fail
  refine (awake4_any _).mono ?_; rintro e w20 ⟨rfl, B20⟩
  have S_a := S_a.nx B20
  have H_a := H_a.st B20
  have S_x0 := S_x0.nx B20
  have H_x0 := H_x0.st B20
  have S_y0 := S_y0.nx B20
  have H_y0 := H_y0.st B20
  have C0 := bt C0 B20
  have i0 := S_x0.cell 0
  have i1 := S_x0.cell 1
  have i2 := S_x0.cell 2
  have i3 := S_x0.cell 3
  have i4 := S_x0.cell 4
  have i5 := S_x0.cell 5
  have j0 := S_y0.cell 0
  have j1 := S_y0.cell 1
  have j2 := S_y0.cell 2
  have j3 := S_y0.cell 3
  have j4 := S_y0.cell 4
  have j5 := S_y0.cell 5
  go_wp2_with fail
  refine (l0 _ _ _ H_x0 H_y0).mono ?_; rintro e w21 ⟨rfl, B21⟩
  have S_a := S_a.nx B21
  have H_a := H_a.st B21
  have S_x0 := S_x0.nx B21
  have H_x0 := H_x0.st B21
  have S_y0 := S_y0.nx B21
  have H_y0 := H_y0.st B21
  have C0 := bt C0 B21
  clear i0 i1 i2 i3 i4 i5
  clear j0 j1 j2 j3 j4 j5
  go_wp2_with fail
  go_ret
  exact ⟨rfl, C0⟩
end Go.Proofs.Ytnlgoedklmjhlaa
