/- Walks: One of bytevec's reference. -/
import Derived.Test.YtabcnpcfknlmlaaGQ
import Derived.Test.YtabcnpcfknlmlaaBvP
import Derived.Test.YtabcnpcfknlmlaaExR
import Derived.Test.YtabcnpcfknlmlaaExP
import Derived.Test.YtabcnpcfknlmlaaEzX
namespace Go.Proofs.Ytabcnpcfknlmlaa
open Go.RowKit

/-- number i comes up next -/
def USome (P : Program) (md : Region.Mode) (ops : Array Oper) (Q : Exit → Act → World → Prop) (S : World → Prop) (n f : Nat) (l : Array Bool) (a : Act) (w : World) (i : Nat) : Prop :=
  wpOp P ops Q i (fun a' w' => (i = n ∨ S w') ∧ AnyU P md ops Q S n f (l.setIfInBounds i true) a' w') a w
section
variable {P : Program} {md : Region.Mode} {ops : Array Oper} {Q : Exit → Act → World → Prop} {S : World → Prop} {n f : Nat} {l : Array Bool} {a : Act} {w : World} {i j m : Nat}
theorem USome.mk {o : Oper} (ho : ops[i]? = some o)
    (h : ∀ K : Act → World → Prop, Shut (∀ a w, (i = n ∨ S w) → ((i = n ∨ S w) → AnyU P md ops Q S n f (l.setIfInBounds i true) a w) → K a w) → if Region.wanted o (yielded ops a.tmps) = true then Oper.wp P o a w K Q else K (a.put o.dst undef) w) : USome P md ops Q S n f l a w i :=
  wpOp_step ho (fun K hK => h K (fun a w hS hW => hK a w ⟨hS, hW hS⟩))
theorem AnyU.two (hr : Region.ready md ops l = [i, j]) (h1 : USome P md ops Q S n f l a w i) (h2 : USome P md ops Q S n f l a w j) : AnyU P md ops Q S n (f + 1) l a w :=
  ⟨fun h0 => (by rw [h0] at hr; cases hr), fun k hk => by
    rw [hr] at hk
    simp only [List.mem_cons, List.not_mem_nil, or_false] at hk
    rcases hk with rfl | rfl
    · exact h1
    · exact h2⟩
theorem AnyU.three (hr : Region.ready md ops l = [i, j, m]) (h1 : USome P md ops Q S n f l a w i) (h2 : USome P md ops Q S n f l a w j) (h3 : USome P md ops Q S n f l a w m) : AnyU P md ops Q S n (f + 1) l a w :=
  ⟨fun h0 => (by rw [h0] at hr; cases hr), fun k hk => by
    rw [hr] at hk
    simp only [List.mem_cons, List.not_mem_nil, or_false] at hk
    rcases hk with rfl | rfl | rfl
    · exact h1
    · exact h2
    · exact h3⟩
end

theorem rq_zero {w : World} {B : Nat} {D : Option Addr} {d : Nat} (h : RW w B D d [1]) : RQ w B (.agg #[.bool false, .slice none 0 0, .slice D 1 d]) 0 :=
  ⟨none, 0, D, d, by rw [show digs (qt (0 : Rat)) = [] from digs_zero, show digs (qd (0 : Rat)) = [1] from digs_one1]; rfl, by rw [show digs (qt (0 : Rat)) = [] from digs_zero]; exact RW.nil _ _ _ _, by rw [show digs (qd (0 : Rat)) = [1] from digs_one1]; exact h⟩
/-- the bytes after k of them are put -/
def outT (s : Nat) (big : Bool) (u k : Nat) : List UInt8 := if big = true then (tgt u s k).reverse else tgt u s k
theorem outT_len (s : Nat) (big : Bool) (u k : Nat) : (outT s big u k).length = s := by unfold outT; split <;> simp [tgt_len]
theorem outT_zero (s : Nat) (big : Bool) (u : Nat) : outT s big u 0 = List.replicate s 0 := by unfold outT; split <;> simp [tgt_zero]
theorem outT_all (s : Nat) (big : Bool) (u : Nat) : outT s big u s = outB s big u := rfl
theorem outT_little {s u k : Nat} (h : k < s) : (outT s false u k).set k (byteN u k) = outT s false u (k + 1) := tgt_set h
theorem outT_big {s u k j : Nat} (h : k < s) (hj : j = s - 1 - k) : (outT s true u k).set j (byteN u k) = outT s true u (k + 1) := by
  show (tgt u s k).reverse.set j (byteN u k) = (tgt u s (k + 1)).reverse
  rw [← tgt_set h]
  refine List.ext_getElem? fun i => ?_
  rw [List.getElem?_set]
  by_cases hi : i < s
  · rw [List.getElem?_reverse (l := tgt u s k) (by rw [tgt_len]; exact hi), List.getElem?_reverse (l := (tgt u s k).set k (byteN u k)) (by rw [List.length_set, tgt_len]; exact hi), List.length_set, tgt_len, List.getElem?_set]
    by_cases e : j = i
    · rw [if_pos e, if_pos (by rw [List.length_reverse, tgt_len]; omega), if_pos (show k = s - 1 - i by omega), if_pos (by rw [tgt_len]; exact h)]
    · rw [if_neg e, if_neg (show ¬ k = s - 1 - i by omega)]
  · have hl : (tgt u s k).length = s := tgt_len ..
    rw [if_neg (by omega), List.getElem?_eq_none (by simp [hl]; omega), List.getElem?_eq_none (by simp [hl]; omega)]
theorem byteN_digit (u k : Nat) : (byteN u k).toNat = u / 256 ^ k % 256 := byteN_nat u k
/-- what is left after k bytes -/
def dv (u k : Nat) : Nat := u / 256 ^ k
theorem dv_zero (u : Nat) : dv u 0 = u := by simp [dv]
theorem dv_succ (u k : Nat) : dv u k / 256 = dv u (k + 1) := by unfold dv; rw [Nat.div_div_eq_div_mul, Nat.pow_succ]
theorem dv_le (u k : Nat) : dv u k ≤ u := Nat.div_le_self ..
theorem dv_byte (u k : Nat) : (byteN u k).toNat = dv u k % 256 := byteN_nat u k
theorem Nrm_256 : Nrm [256] := by rw [← digs_one (n := 256) (by omega) (by omega)]; exact Nrm_digs _


set_option maxRecDepth 100000 in
set_option maxHeartbeats 4000000 in
theorem rone_bad (s : Nat) (big signed : Bool) (V : Value) (r i : Rw) (w : World) (hV : VN w w.heap.size V r i) (hb : ¬ nB r i = true) :
    Calls Try.prog 41 #[.int .i64 (s : Int), .bool big, .bool signed, V] w (RetBE w ([], 2)) := by
  have hs := fun V w' h => resound_any V r i w' h
  rw [Bool.eq_false_iff.2 hb] at hs
  obtain ⟨A1, c1, D1, d1, A2, c2, D2, d2, rfl, p1, p2, p3, p4⟩ := hV
  have Ha : VN w w.heap.size (.agg #[.bool r.s, .slice A1 r.a.length c1, .slice D1 r.b.length d1, .bool i.s, .slice A2 i.a.length c2, .slice D2 i.b.length d2]) r i := ⟨A1, c1, D1, d1, A2, c2, D2, d2, rfl, p1, p2, p3, p4⟩
  have B1 := bal w (.cells #[.bool r.s, .slice A1 r.a.length c1, .slice D1 r.b.length d1, .bool i.s, .slice A2 i.a.length c2, .slice D2 i.b.length d2] 27)
  have S1 := SB.new w [.bool r.s, .slice A1 r.a.length c1, .slice D1 r.b.length d1, .bool i.s, .slice A2 i.a.length c2, .slice D2 i.b.length d2] 27
  have i0 := S1.cell 0
  have i1 := S1.cell 1
  have i2 := S1.cell 2
  have i3 := S1.cell 3
  have i4 := S1.cell 4
  have i5 := S1.cell 5
  clear hb p1 p2 p3 p4
  go_enter Try.func41, Try.ntmps41
  go_wp2_with fail
  refine (hs _ _ (Ha.st B1)).mono ?_; rintro e w3 ⟨rfl, B3⟩
  clear i0 i1 i2 i3 i4 i5 hs
  have S3 := S1.nx B3
  have C3 := bt B1 B3
  have i0 := S3.cell 0
  have i1 := S3.cell 1
  have i2 := S3.cell 2
  have i3 := S3.cell 3
  have i4 := S3.cell 4
  have i5 := S3.cell 5
  clear i0 i1 i2 i3 i4 i5
  go_wp2_with fail
  go_ret2
  exact retBE_nil 2 C3


set_option maxRecDepth 100000 in
set_option maxHeartbeats 4000000 in
theorem rone_type (s : Nat) (big signed : Bool) (V : Value) (r i : Rw) (w : World) (hV : VN w w.heap.size V r i) (hb : nB r i = true) (hw : ¬ wB r i = true) :
    Calls Try.prog 41 #[.int .i64 (s : Int), .bool big, .bool signed, V] w (RetBE w ([], 10)) := by
  have hs := fun V w' h => resound_any V r i w' h
  rw [hb] at hs
  have hw' := Bool.eq_false_iff.2 hw
  clear hw
  have hw := fun V w' h => rwhole1_any V r i w' h
  rw [hw'] at hw
  obtain ⟨A1, c1, D1, d1, A2, c2, D2, d2, rfl, p1, p2, p3, p4⟩ := hV
  have Ha : VN w w.heap.size (.agg #[.bool r.s, .slice A1 r.a.length c1, .slice D1 r.b.length d1, .bool i.s, .slice A2 i.a.length c2, .slice D2 i.b.length d2]) r i := ⟨A1, c1, D1, d1, A2, c2, D2, d2, rfl, p1, p2, p3, p4⟩
  have B1 := bal w (.cells #[.bool r.s, .slice A1 r.a.length c1, .slice D1 r.b.length d1, .bool i.s, .slice A2 i.a.length c2, .slice D2 i.b.length d2] 27)
  have S1 := SB.new w [.bool r.s, .slice A1 r.a.length c1, .slice D1 r.b.length d1, .bool i.s, .slice A2 i.a.length c2, .slice D2 i.b.length d2] 27
  have i0 := S1.cell 0
  have i1 := S1.cell 1
  have i2 := S1.cell 2
  have i3 := S1.cell 3
  have i4 := S1.cell 4
  have i5 := S1.cell 5
  clear hb hw' p1 p2 p3 p4
  go_enter Try.func41, Try.ntmps41
  go_wp2_with fail
  refine (hs _ _ (Ha.st B1)).mono ?_; rintro e w3 ⟨rfl, B3⟩
  clear i0 i1 i2 i3 i4 i5 hs
  have S3 := S1.nx B3
  have C3 := bt B1 B3
  have i0 := S3.cell 0
  have i1 := S3.cell 1
  have i2 := S3.cell 2
  have i3 := S3.cell 3
  have i4 := S3.cell 4
  have i5 := S3.cell 5
  go_wp2_with fail
  refine (hw _ _ (Ha.st C3)).mono ?_; rintro e w4 ⟨rfl, B4⟩
  clear i0 i1 i2 i3 i4 i5 hw
  have S4 := S3.nx B4
  have C4 := bt C3 B4
  go_wp2_with fail
  go_ret2
  exact retBE_nil 10 C4


set_option maxRecDepth 100000 in
set_option maxHeartbeats 16000000 in
theorem rone_main (s : Nat) (big signed : Bool) (V : Value) (x : Rat) (w : World) (h1 : 1 ≤ s) (h64 : s ≤ 64) (hV : RN w w.heap.size V x 0) (bx : qw x ≤ 512) (hn : nB (rwq x) (rwq 0) = true) (hwb : wB (rwq x) (rwq 0) = true) (PW HW : Nat) (hPW : Hid (2 ^ (8 * s) = PW)) (hHW : Hid (2 ^ (8 * s - 1) = HW))
    (L_ U_ : Rat) (hL : L_ = if signed = true then ((-(HW : Int) : Int) : Rat) else 0) (hU : U_ = if signed = true then ((HW : Int) : Rat) else ((PW : Int) : Rat)) (u : Nat) (hub : (digs u).length ≤ 1000) (b1 : qw x + qw L_ ≤ 14000) (b2 : qw x + qw U_ ≤ 14000) (b3 : qw x + qw ((PW : Int) : Rat) ≤ 14000)
    (hu : ¬ cmpQ x L_ < 0 → ¬ 0 ≤ cmpQ x U_ → (if qn x = true then qt (x + ((PW : Int) : Rat)) = u else qt x = u))
    (ans : List UInt8 × Int) (ha1 : cmpQ x L_ < 0 ∨ 0 ≤ cmpQ x U_ → ans = ([], 4)) (ha2 : ¬ cmpQ x L_ < 0 → ¬ 0 ≤ cmpQ x U_ → ans = (outB s big u, 0)) :
    Calls Try.prog 41 #[.int .i64 (s : Int), .bool big, .bool signed, V] w (RetBE w ans) := by
  have hs := fun V w' h => resound_any V (rwq x) (rwq 0) w' h
  rw [hn] at hs
  have hw := fun V w' h => rwhole1_any V (rwq x) (rwq 0) w' h
  rw [hwb] at hw
  clear hn hwb
  obtain ⟨A1, c1, D1, d1, A2, c2, D2, d2, rfl, p1, p2, p3, p4⟩ := hV
  have Ha : VN w w.heap.size (.agg #[.bool (qn x), .slice A1 (digs (qt x)).length c1, .slice D1 (digs (qd x)).length d1, .bool (qn (0 : Rat)), .slice A2 (digs (qt (0 : Rat))).length c2, .slice D2 (digs (qd (0 : Rat))).length d2]) (rwq x) (rwq 0) := ⟨A1, c1, D1, d1, A2, c2, D2, d2, rfl, p1, p2, p3, p4⟩
  have B1 := bal w (.cells #[.bool (qn x), .slice A1 (digs (qt x)).length c1, .slice D1 (digs (qd x)).length d1, .bool (qn (0 : Rat)), .slice A2 (digs (qt (0 : Rat))).length c2, .slice D2 (digs (qd (0 : Rat))).length d2] 27)
  have S1 := SB.new w [.bool (qn x), .slice A1 (digs (qt x)).length c1, .slice D1 (digs (qd x)).length d1, .bool (qn (0 : Rat)), .slice A2 (digs (qt (0 : Rat))).length c2, .slice D2 (digs (qd (0 : Rat))).length d2] 27
  have i0 := S1.cell 0
  have i1 := S1.cell 1
  have i2 := S1.cell 2
  have i3 := S1.cell 3
  have i4 := S1.cell 4
  have i5 := S1.cell 5
  simp only [rwq] at p1 p2 p3 p4
  go_enter Try.func41, Try.ntmps41
  go_wp2_with fail
  refine (hs _ _ (Ha.st B1)).mono ?_; rintro e w3 ⟨rfl, B3⟩
  clear i0 i1 i2 i3 i4 i5 hs
  have S3 := S1.nx B3
  have C3 := bt B1 B3
  have i0 := S3.cell 0
  have i1 := S3.cell 1
  have i2 := S3.cell 2
  have i3 := S3.cell 3
  have i4 := S3.cell 4
  have i5 := S3.cell 5
  go_wp2_with fail
  refine (hw _ _ (Ha.st C3)).mono ?_; rintro e w4 ⟨rfl, B4⟩
  clear i0 i1 i2 i3 i4 i5 hw
  have S4 := S3.nx B4
  have C4 := bt C3 B4
  have e8 : IntKind.i64.wrap (8 * (s : Int)) = 8 * (s : Int) := IntWalk.i64_in _ (by omega)
  have e9 : IntKind.i64.wrap (8 * (s : Int) - 1) = 8 * (s : Int) - 1 := IntWalk.i64_in _ (by omega)
  have hU := rup_any (some ⟨w4.heap.size, 0, none⟩) 1 1 [1] (w4.alloc (.cells #[.int .u32 (1 : Int)] 53)) (8 * s) (by omega) rfl ((RW.one w4 53 (show 1 < 4294967296 by omega)).more (by simp)) (by simp)
  rw [val_one, Nat.one_mul, hPW.out, show ((8 * s : Nat) : Int) = 8 * (s : Int) by omega] at hU
  go_wp2_with fail
  refine hU.mono ?_; rintro e w8 ⟨A8, c8, rfl, O8, Bu⟩
  clear hU
  have Bo := bal w4 (.cells #[.int .u32 (1 : Int)] 53)
  have Bp := bal w8 (.cells #[.int .u32 (1 : Int)] 53)
  have Bq := bal (w8.alloc (.cells #[.int .u32 (1 : Int)] 53)) (.cells #[.bool false, .slice A8 (digs PW).length c8, .slice (some ⟨w8.heap.size, 0, none⟩) 1 1] 25)
  have z8 : (w8.alloc (.cells #[.int .u32 (1 : Int)] 53)).heap.size = w8.heap.size + 1 := by simp
  have ON : OW (w8.alloc (.cells #[.int .u32 (1 : Int)] 53)) w8.heap.size (some ⟨w8.heap.size, 0, none⟩) 1 [1] := OW.lit w8 [1] (by simp) (by rw [← digs_one1]; exact B32_digs 1)
  have S10 := SB.new (w8.alloc (.cells #[.int .u32 (1 : Int)] 53)) [.bool false, .slice A8 (digs PW).length c8, .slice (some ⟨w8.heap.size, 0, none⟩) 1 1] 25
  rw [z8] at S10
  have BA := bt (bt Bo Bu) (bt Bp Bq)
  have R1 := st (st O8.rw Bp) Bq
  have R2 := st ON.rw Bq
  have QF : RQ ((w8.alloc (.cells #[.int .u32 (1 : Int)] 53)).alloc (.cells #[.bool false, .slice A8 (digs PW).length c8, .slice (some ⟨w8.heap.size, 0, none⟩) 1 1] 25)) ((w8.alloc (.cells #[.int .u32 (1 : Int)] 53)).alloc (.cells #[.bool false, .slice A8 (digs PW).length c8, .slice (some ⟨w8.heap.size, 0, none⟩) 1 1] 25)).heap.size (.agg #[.bool false, .slice A8 (digs PW).length c8, .slice (some ⟨w8.heap.size, 0, none⟩) 1 1]) ((PW : Int) : Rat) := rq_pos R1 R2
  have S4 := S4.nx BA
  have C9 := bt C4 BA
  obtain ⟨W9, hW9⟩ : ∃ W9, W9 = (w8.alloc (.cells #[.int .u32 (1 : Int)] 53)).alloc (.cells #[.bool false, .slice A8 (digs PW).length c8, .slice (some ⟨w8.heap.size, 0, none⟩) 1 1] 25) := ⟨_, rfl⟩
  rw [← hW9] at S10 QF S4 C9
  go_upto_region 6 with fail
  rw [← hW9]
  clear hW9 R1 R2 ON z8 Bo Bp Bq Bu O8 BA C4 C3
  have hU := rup_any (some ⟨W9.heap.size, 0, none⟩) 1 1 [1] (W9.alloc (.cells #[.int .u32 (1 : Int)] 53)) (8 * s - 1) (by omega) rfl ((RW.one W9 53 (show 1 < 4294967296 by omega)).more (by simp)) (by simp)
  rw [val_one, Nat.one_mul, hHW.out, show ((8 * s - 1 : Nat) : Int) = 8 * (s : Int) - 1 by omega] at hU
  go_wp2_with fail
  refine hU.mono ?_; rintro e w9 ⟨A9, c9, rfl, O9, Bu⟩
  clear hU
  have Bo := bal W9 (.cells #[.int .u32 (1 : Int)] 53)
  have Bp := bal w9 (.cells #[.int .u32 (1 : Int)] 53)
  have Bq := bal (w9.alloc (.cells #[.int .u32 (1 : Int)] 53)) (.cells #[.bool false, .slice A9 (digs HW).length c9, .slice (some ⟨w9.heap.size, 0, none⟩) 1 1] 25)
  have z8 : (w9.alloc (.cells #[.int .u32 (1 : Int)] 53)).heap.size = w9.heap.size + 1 := by simp
  have ON : OW (w9.alloc (.cells #[.int .u32 (1 : Int)] 53)) w9.heap.size (some ⟨w9.heap.size, 0, none⟩) 1 [1] := OW.lit w9 [1] (by simp) (by rw [← digs_one1]; exact B32_digs 1)
  have S11 := SB.new (w9.alloc (.cells #[.int .u32 (1 : Int)] 53)) [.bool false, .slice A9 (digs HW).length c9, .slice (some ⟨w9.heap.size, 0, none⟩) 1 1] 25
  rw [z8] at S11
  have BA := bt (bt Bo Bu) (bt Bp Bq)
  have R1 := st (st O9.rw Bp) Bq
  have R2 := st ON.rw Bq
  have QH : RQ ((w9.alloc (.cells #[.int .u32 (1 : Int)] 53)).alloc (.cells #[.bool false, .slice A9 (digs HW).length c9, .slice (some ⟨w9.heap.size, 0, none⟩) 1 1] 25)) ((w9.alloc (.cells #[.int .u32 (1 : Int)] 53)).alloc (.cells #[.bool false, .slice A9 (digs HW).length c9, .slice (some ⟨w9.heap.size, 0, none⟩) 1 1] 25)).heap.size (.agg #[.bool false, .slice A9 (digs HW).length c9, .slice (some ⟨w9.heap.size, 0, none⟩) 1 1]) ((HW : Int) : Rat) := rq_pos R1 R2
  have S4 := S4.nx BA
  have C10 := bt C9 BA
  have S10 := S10.nx BA
  have QF := QF.st BA
  obtain ⟨W10, hW10⟩ : ∃ W10, W10 = (w9.alloc (.cells #[.int .u32 (1 : Int)] 53)).alloc (.cells #[.bool false, .slice A9 (digs HW).length c9, .slice (some ⟨w9.heap.size, 0, none⟩) 1 1] 25) := ⟨_, rfl⟩
  have RH1 := R1
  have RH2 := R2
  rw [← hW10] at S10 QF S4 C10 S11 QH RH1 RH2
  go_upto_region 7 with fail
  rw [← hW10]
  clear hW10 R1 R2 ON z8 Bo Bp Bq Bu O9 BA C9
  generalize w8.heap.size + 1 = g10 at *
  generalize w9.heap.size + 1 = g11 at *
  go_cut [12, 13] (fun s12 s13 wx => ∃ (g12 g13 : Nat) (Z1 : Option Addr), s12 = .pointer (some ⟨g12, 0, none⟩) ∧ s13 = .pointer (some ⟨g13, 0, none⟩) ∧ SB wx g12 [.bool false, .slice none 0 0, .slice Z1 1 1] ∧ SB wx g13 [.bool false, .slice A8 (digs PW).length c8, .slice (some ⟨w8.heap.size, 0, none⟩) 1 1] ∧ OW wx W10.heap.size Z1 1 [1] ∧ Below W10.heap.size W10 wx ∧ W10.heap.size ≤ g12 ∧ W10.heap.size ≤ g13 ∧ g12 ≠ g13)
  case first =>
    have BB0 : Below W10.heap.size W10 W10.drew := Below.drew (Below.refl _ _)
    refine AnyU.regionQ 5 6 (fun w' => w'.cell? ⟨g10, 0, none⟩ = some (.bool false) ∧ w'.cell? ⟨g10, 1, none⟩ = some (.slice A8 (digs PW).length c8) ∧ w'.cell? ⟨g10, 2, none⟩ = some (.slice (some ⟨w8.heap.size, 0, none⟩) 1 1)) rfl (by kernel_rfl) (by kernel_rfl) (by repeat (first | refine quiet_then ?_ | refine quiet_block ?_ | exact quiet_body)) ⟨(S10.nx BB0).cell 0, (S10.nx BB0).cell 1, (S10.nx BB0).cell 2⟩ (fun Q hQK hq' hns hHeld => ?_)
    generalize W10.drew = w30 at *
    refine AnyU.next (i := 1) (v := ?_) hq' hns hHeld rfl rfl (by kernel_rfl) (Or.inl ⟨by rfl, ?_⟩) ?_
    rotate_left
    · intro w' hSw; (try dsimp only at hSw); go_simp <;> with_reducible rfl
    try simp only [List.setIfInBounds_toArray, List.set_cons_zero, List.set_cons_succ]
    refine AnyU.three (i := 0) (j := 2) (m := 3) (by kernel_rfl) (USome.mk rfl (fun K hK => ?_)) (USome.mk rfl (fun K hK => ?_)) (USome.mk rfl (fun K hK => ?_))
    · go_simp
      refine (rzero0_any _).mono ?_; rintro e w31 ⟨Z1, rfl, OZ1, BX⟩
      go_wp2_with fail
      have OZ1 := OZ1.base_le (Nat.le_trans (BB0.size) (Nat.le_succ _))
      have BB31 := bt BB0 BX
      clear BX
      refine hK.out _ _ (.inr ⟨(S10.nx BB31).cell 0, (S10.nx BB31).cell 1, (S10.nx BB31).cell 2⟩) (fun hHeld => ?_)
      have hHeld := hHeld.resolve_left (by decide)
      clear hK K
      try simp only [List.setIfInBounds_toArray, List.set_cons_zero, List.set_cons_succ]
      refine AnyU.two (i := 2) (j := 3) (by kernel_rfl) (USome.mk rfl (fun K hK => ?_)) (USome.mk rfl (fun K hK => ?_))
      · go_simp
        have X12 := SB.new w31 [.bool false, .slice none 0 0, .slice none 0 0] 25
        have BX := bal w31 (.cells #[.bool false, .slice none 0 0, .slice none 0 0] 25)
        have BB32 := bt BB31 BX
        have hwg12 : W10.heap.size ≤ w31.heap.size := BB31.size
        have hnZ1g12 : ∀ b, Z1 = some ⟨b, 0, none⟩ → b ≠ w31.heap.size := fun b hb => by subst hb; exact Nat.ne_of_lt OZ1.lt.2
        have OZ1 := OZ1.below BX (Nat.le_refl _)
        obtain ⟨w32, hw32⟩ : ∃ w32, w32 = w31.alloc (.cells #[.bool false, .slice none 0 0, .slice none 0 0] 25) := ⟨_, rfl⟩
        rw [← hw32] at X12 BB32 OZ1 ⊢
        clear hw32 BX
        generalize w31.heap.size = g12 at *
        refine hK.out _ _ (.inr ⟨(S10.nx BB32).cell 0, (S10.nx BB32).cell 1, (S10.nx BB32).cell 2⟩) (fun hHeld => ?_)
        have hHeld := hHeld.resolve_left (by decide)
        clear hK K
        try simp only [List.setIfInBounds_toArray, List.set_cons_zero, List.set_cons_succ]
        refine AnyU.one 3 (by kernel_rfl) rfl (fun K hK => ?_)
        go_simp
        have X13 := SB.new w32 [.bool false, .slice none 0 0, .slice none 0 0] 25
        have BX := bal w32 (.cells #[.bool false, .slice none 0 0, .slice none 0 0] 25)
        have BB33 := bt BB32 BX
        have hwg13 : W10.heap.size ≤ w32.heap.size := BB32.size
        have hnZ1g13 : ∀ b, Z1 = some ⟨b, 0, none⟩ → b ≠ w32.heap.size := fun b hb => by subst hb; exact Nat.ne_of_lt OZ1.lt.2
        have hltg13 := X12.2
        have X12 := X12.nx BX
        have OZ1 := OZ1.below BX (Nat.le_refl _)
        obtain ⟨w33, hw33⟩ : ∃ w33, w33 = w32.alloc (.cells #[.bool false, .slice none 0 0, .slice none 0 0] 25) := ⟨_, rfl⟩
        rw [← hw33] at X13 BB33 X12 OZ1 ⊢
        clear hw33 BX
        generalize w32.heap.size = g13 at *
        refine hK.out _ _ (.inr ⟨(S10.nx BB33).cell 0, (S10.nx BB33).cell 1, (S10.nx BB33).cell 2⟩) (fun hHeld => ?_)
        have hHeld := hHeld.resolve_left (by decide)
        clear hK K
        try simp only [List.setIfInBounds_toArray, List.set_cons_zero, List.set_cons_succ]
        have i0 := X12.cell 0
        have i1 := X12.cell 1
        have i2 := X12.cell 2
        have f0 := X12.frozen 0
        have f1 := X12.frozen 1
        have f2 := X12.frozen 2
        refine AnyU.one 4 (by kernel_rfl) rfl (fun K hK => ?_)
        go_simp
        have BBa := wr3_below (b := g12) BB33 hwg12 (.bool false) (.slice none 0 0) (.slice Z1 1 1)
        refine hK.out _ _ (.inr ⟨(S10.nx BBa).cell 0, (S10.nx BBa).cell 1, (S10.nx BBa).cell 2⟩) (fun hHeld => ?_)
        clear hK K hHeld
        try simp only [List.setIfInBounds_toArray, List.set_cons_zero, List.set_cons_succ]
        clear i0 i1 i2 f0 f1 f2
        have hne : g13 ≠ g12 := by omega
        have X13 := X13.wr3 (r := g12) hne (.bool false) (.slice none 0 0) (.slice Z1 1 1)
        have X12 := X12.put3 (.bool false) (.slice none 0 0) (.slice Z1 1 1)
        have OZ1 := OZ1.far3 hnZ1g12 (.bool false) (.slice none 0 0) (.slice Z1 1 1)
        obtain ⟨Wa, hWa⟩ : ∃ Wa, (((w33.setCell ⟨g12, 0, none⟩ (.bool false)).setCell ⟨g12, 1, none⟩ (.slice none 0 0)).setCell ⟨g12, 2, none⟩ (.slice Z1 1 1)) = Wa := ⟨_, rfl⟩
        rw [hWa]
        unfold wr3 at X12 X13 OZ1 BBa
        rw [hWa] at X12 X13 OZ1 BBa
        clear hWa
        have i0 := X13.cell 0
        have i1 := X13.cell 1
        have i2 := X13.cell 2
        have f0 := X13.frozen 0
        have f1 := X13.frozen 1
        have f2 := X13.frozen 2
        refine AnyU.one 5 (by kernel_rfl) rfl (fun K hK => ?_)
        go_simp
        refine hK.out _ _ (.inl rfl) (fun _ => ?_)
        clear hK K
        try simp only [List.setIfInBounds_toArray, List.set_cons_zero, List.set_cons_succ]
        clear i0 i1 i2 f0 f1 f2
        refine AnyU.done (by kernel_rfl) (hQK.out _ _ ?_)
        go_wp2_with fail
        go_meet
        have BBb := wr3_below (b := g13) BBa hwg13 (.bool false) (.slice A8 (digs PW).length c8) (.slice (some ⟨w8.heap.size, 0, none⟩) 1 1)
        have X12 := X12.wr3 (r := g13) (Ne.symm hne) (.bool false) (.slice A8 (digs PW).length c8) (.slice (some ⟨w8.heap.size, 0, none⟩) 1 1)
        have X13 := X13.put3 (.bool false) (.slice A8 (digs PW).length c8) (.slice (some ⟨w8.heap.size, 0, none⟩) 1 1)
        have OZ1 := OZ1.far3 hnZ1g13 (.bool false) (.slice A8 (digs PW).length c8) (.slice (some ⟨w8.heap.size, 0, none⟩) 1 1)
        exact ⟨g12, g13, Z1, rfl, rfl, X12, X13, OZ1, BBb, hwg12, hwg13, Ne.symm hne⟩
      · go_simp
        have X13 := SB.new w31 [.bool false, .slice none 0 0, .slice none 0 0] 25
        have BX := bal w31 (.cells #[.bool false, .slice none 0 0, .slice none 0 0] 25)
        have BB34 := bt BB31 BX
        have hwg13 : W10.heap.size ≤ w31.heap.size := BB31.size
        have hnZ1g13 : ∀ b, Z1 = some ⟨b, 0, none⟩ → b ≠ w31.heap.size := fun b hb => by subst hb; exact Nat.ne_of_lt OZ1.lt.2
        have OZ1 := OZ1.below BX (Nat.le_refl _)
        obtain ⟨w34, hw34⟩ : ∃ w34, w34 = w31.alloc (.cells #[.bool false, .slice none 0 0, .slice none 0 0] 25) := ⟨_, rfl⟩
        rw [← hw34] at X13 BB34 OZ1 ⊢
        clear hw34 BX
        generalize w31.heap.size = g13 at *
        refine hK.out _ _ (.inr ⟨(S10.nx BB34).cell 0, (S10.nx BB34).cell 1, (S10.nx BB34).cell 2⟩) (fun hHeld => ?_)
        have hHeld := hHeld.resolve_left (by decide)
        clear hK K
        try simp only [List.setIfInBounds_toArray, List.set_cons_zero, List.set_cons_succ]
        refine AnyU.one 2 (by kernel_rfl) rfl (fun K hK => ?_)
        go_simp
        have X12 := SB.new w34 [.bool false, .slice none 0 0, .slice none 0 0] 25
        have BX := bal w34 (.cells #[.bool false, .slice none 0 0, .slice none 0 0] 25)
        have BB35 := bt BB34 BX
        have hwg12 : W10.heap.size ≤ w34.heap.size := BB34.size
        have hnZ1g12 : ∀ b, Z1 = some ⟨b, 0, none⟩ → b ≠ w34.heap.size := fun b hb => by subst hb; exact Nat.ne_of_lt OZ1.lt.2
        have hltg12 := X13.2
        have X13 := X13.nx BX
        have OZ1 := OZ1.below BX (Nat.le_refl _)
        obtain ⟨w35, hw35⟩ : ∃ w35, w35 = w34.alloc (.cells #[.bool false, .slice none 0 0, .slice none 0 0] 25) := ⟨_, rfl⟩
        rw [← hw35] at X12 BB35 X13 OZ1 ⊢
        clear hw35 BX
        generalize w34.heap.size = g12 at *
        refine hK.out _ _ (.inr ⟨(S10.nx BB35).cell 0, (S10.nx BB35).cell 1, (S10.nx BB35).cell 2⟩) (fun hHeld => ?_)
        have hHeld := hHeld.resolve_left (by decide)
        clear hK K
        try simp only [List.setIfInBounds_toArray, List.set_cons_zero, List.set_cons_succ]
        have i0 := X12.cell 0
        have i1 := X12.cell 1
        have i2 := X12.cell 2
        have f0 := X12.frozen 0
        have f1 := X12.frozen 1
        have f2 := X12.frozen 2
        refine AnyU.one 4 (by kernel_rfl) rfl (fun K hK => ?_)
        go_simp
        have BBa := wr3_below (b := g12) BB35 hwg12 (.bool false) (.slice none 0 0) (.slice Z1 1 1)
        refine hK.out _ _ (.inr ⟨(S10.nx BBa).cell 0, (S10.nx BBa).cell 1, (S10.nx BBa).cell 2⟩) (fun hHeld => ?_)
        clear hK K hHeld
        try simp only [List.setIfInBounds_toArray, List.set_cons_zero, List.set_cons_succ]
        clear i0 i1 i2 f0 f1 f2
        have hne : g13 ≠ g12 := by omega
        have X13 := X13.wr3 (r := g12) hne (.bool false) (.slice none 0 0) (.slice Z1 1 1)
        have X12 := X12.put3 (.bool false) (.slice none 0 0) (.slice Z1 1 1)
        have OZ1 := OZ1.far3 hnZ1g12 (.bool false) (.slice none 0 0) (.slice Z1 1 1)
        obtain ⟨Wa, hWa⟩ : ∃ Wa, (((w35.setCell ⟨g12, 0, none⟩ (.bool false)).setCell ⟨g12, 1, none⟩ (.slice none 0 0)).setCell ⟨g12, 2, none⟩ (.slice Z1 1 1)) = Wa := ⟨_, rfl⟩
        rw [hWa]
        unfold wr3 at X12 X13 OZ1 BBa
        rw [hWa] at X12 X13 OZ1 BBa
        clear hWa
        have i0 := X13.cell 0
        have i1 := X13.cell 1
        have i2 := X13.cell 2
        have f0 := X13.frozen 0
        have f1 := X13.frozen 1
        have f2 := X13.frozen 2
        refine AnyU.one 5 (by kernel_rfl) rfl (fun K hK => ?_)
        go_simp
        refine hK.out _ _ (.inl rfl) (fun _ => ?_)
        clear hK K
        try simp only [List.setIfInBounds_toArray, List.set_cons_zero, List.set_cons_succ]
        clear i0 i1 i2 f0 f1 f2
        refine AnyU.done (by kernel_rfl) (hQK.out _ _ ?_)
        go_wp2_with fail
        go_meet
        have BBb := wr3_below (b := g13) BBa hwg13 (.bool false) (.slice A8 (digs PW).length c8) (.slice (some ⟨w8.heap.size, 0, none⟩) 1 1)
        have X12 := X12.wr3 (r := g13) (Ne.symm hne) (.bool false) (.slice A8 (digs PW).length c8) (.slice (some ⟨w8.heap.size, 0, none⟩) 1 1)
        have X13 := X13.put3 (.bool false) (.slice A8 (digs PW).length c8) (.slice (some ⟨w8.heap.size, 0, none⟩) 1 1)
        have OZ1 := OZ1.far3 hnZ1g13 (.bool false) (.slice A8 (digs PW).length c8) (.slice (some ⟨w8.heap.size, 0, none⟩) 1 1)
        exact ⟨g12, g13, Z1, rfl, rfl, X12, X13, OZ1, BBb, hwg12, hwg13, Ne.symm hne⟩
    · go_simp
      have X12 := SB.new w30 [.bool false, .slice none 0 0, .slice none 0 0] 25
      have BX := bal w30 (.cells #[.bool false, .slice none 0 0, .slice none 0 0] 25)
      have BB36 := bt BB0 BX
      have hwg12 : W10.heap.size ≤ w30.heap.size := BB0.size
      obtain ⟨w36, hw36⟩ : ∃ w36, w36 = w30.alloc (.cells #[.bool false, .slice none 0 0, .slice none 0 0] 25) := ⟨_, rfl⟩
      rw [← hw36] at X12 BB36 ⊢
      clear hw36 BX
      generalize w30.heap.size = g12 at *
      refine hK.out _ _ (.inr ⟨(S10.nx BB36).cell 0, (S10.nx BB36).cell 1, (S10.nx BB36).cell 2⟩) (fun hHeld => ?_)
      have hHeld := hHeld.resolve_left (by decide)
      clear hK K
      try simp only [List.setIfInBounds_toArray, List.set_cons_zero, List.set_cons_succ]
      refine AnyU.two (i := 0) (j := 3) (by kernel_rfl) (USome.mk rfl (fun K hK => ?_)) (USome.mk rfl (fun K hK => ?_))
      · go_simp
        refine (rzero0_any _).mono ?_; rintro e w37 ⟨Z1, rfl, OZ1, BX⟩
        go_wp2_with fail
        have hnZ1g12 : ∀ b, Z1 = some ⟨b, 0, none⟩ → b ≠ g12 := fun b hb => by subst hb; have h1 := OZ1.lt.1; have h2 := X12.2; omega
        have OZ1 := OZ1.base_le (Nat.le_trans (BB36.size) (Nat.le_succ _))
        have X12 := X12.nx BX
        have BB37 := bt BB36 BX
        clear BX
        refine hK.out _ _ (.inr ⟨(S10.nx BB37).cell 0, (S10.nx BB37).cell 1, (S10.nx BB37).cell 2⟩) (fun hHeld => ?_)
        have hHeld := hHeld.resolve_left (by decide)
        clear hK K
        try simp only [List.setIfInBounds_toArray, List.set_cons_zero, List.set_cons_succ]
        refine AnyU.one 3 (by kernel_rfl) rfl (fun K hK => ?_)
        go_simp
        have X13 := SB.new w37 [.bool false, .slice none 0 0, .slice none 0 0] 25
        have BX := bal w37 (.cells #[.bool false, .slice none 0 0, .slice none 0 0] 25)
        have BB38 := bt BB37 BX
        have hwg13 : W10.heap.size ≤ w37.heap.size := BB37.size
        have hnZ1g13 : ∀ b, Z1 = some ⟨b, 0, none⟩ → b ≠ w37.heap.size := fun b hb => by subst hb; exact Nat.ne_of_lt OZ1.lt.2
        have hltg13 := X12.2
        have X12 := X12.nx BX
        have OZ1 := OZ1.below BX (Nat.le_refl _)
        obtain ⟨w38, hw38⟩ : ∃ w38, w38 = w37.alloc (.cells #[.bool false, .slice none 0 0, .slice none 0 0] 25) := ⟨_, rfl⟩
        rw [← hw38] at X13 BB38 X12 OZ1 ⊢
        clear hw38 BX
        generalize w37.heap.size = g13 at *
        refine hK.out _ _ (.inr ⟨(S10.nx BB38).cell 0, (S10.nx BB38).cell 1, (S10.nx BB38).cell 2⟩) (fun hHeld => ?_)
        have hHeld := hHeld.resolve_left (by decide)
        clear hK K
        try simp only [List.setIfInBounds_toArray, List.set_cons_zero, List.set_cons_succ]
        have i0 := X12.cell 0
        have i1 := X12.cell 1
        have i2 := X12.cell 2
        have f0 := X12.frozen 0
        have f1 := X12.frozen 1
        have f2 := X12.frozen 2
        refine AnyU.one 4 (by kernel_rfl) rfl (fun K hK => ?_)
        go_simp
        have BBa := wr3_below (b := g12) BB38 hwg12 (.bool false) (.slice none 0 0) (.slice Z1 1 1)
        refine hK.out _ _ (.inr ⟨(S10.nx BBa).cell 0, (S10.nx BBa).cell 1, (S10.nx BBa).cell 2⟩) (fun hHeld => ?_)
        clear hK K hHeld
        try simp only [List.setIfInBounds_toArray, List.set_cons_zero, List.set_cons_succ]
        clear i0 i1 i2 f0 f1 f2
        have hne : g13 ≠ g12 := by omega
        have X13 := X13.wr3 (r := g12) hne (.bool false) (.slice none 0 0) (.slice Z1 1 1)
        have X12 := X12.put3 (.bool false) (.slice none 0 0) (.slice Z1 1 1)
        have OZ1 := OZ1.far3 hnZ1g12 (.bool false) (.slice none 0 0) (.slice Z1 1 1)
        obtain ⟨Wa, hWa⟩ : ∃ Wa, (((w38.setCell ⟨g12, 0, none⟩ (.bool false)).setCell ⟨g12, 1, none⟩ (.slice none 0 0)).setCell ⟨g12, 2, none⟩ (.slice Z1 1 1)) = Wa := ⟨_, rfl⟩
        rw [hWa]
        unfold wr3 at X12 X13 OZ1 BBa
        rw [hWa] at X12 X13 OZ1 BBa
        clear hWa
        have i0 := X13.cell 0
        have i1 := X13.cell 1
        have i2 := X13.cell 2
        have f0 := X13.frozen 0
        have f1 := X13.frozen 1
        have f2 := X13.frozen 2
        refine AnyU.one 5 (by kernel_rfl) rfl (fun K hK => ?_)
        go_simp
        refine hK.out _ _ (.inl rfl) (fun _ => ?_)
        clear hK K
        try simp only [List.setIfInBounds_toArray, List.set_cons_zero, List.set_cons_succ]
        clear i0 i1 i2 f0 f1 f2
        refine AnyU.done (by kernel_rfl) (hQK.out _ _ ?_)
        go_wp2_with fail
        go_meet
        have BBb := wr3_below (b := g13) BBa hwg13 (.bool false) (.slice A8 (digs PW).length c8) (.slice (some ⟨w8.heap.size, 0, none⟩) 1 1)
        have X12 := X12.wr3 (r := g13) (Ne.symm hne) (.bool false) (.slice A8 (digs PW).length c8) (.slice (some ⟨w8.heap.size, 0, none⟩) 1 1)
        have X13 := X13.put3 (.bool false) (.slice A8 (digs PW).length c8) (.slice (some ⟨w8.heap.size, 0, none⟩) 1 1)
        have OZ1 := OZ1.far3 hnZ1g13 (.bool false) (.slice A8 (digs PW).length c8) (.slice (some ⟨w8.heap.size, 0, none⟩) 1 1)
        exact ⟨g12, g13, Z1, rfl, rfl, X12, X13, OZ1, BBb, hwg12, hwg13, Ne.symm hne⟩
      · go_simp
        have X13 := SB.new w36 [.bool false, .slice none 0 0, .slice none 0 0] 25
        have BX := bal w36 (.cells #[.bool false, .slice none 0 0, .slice none 0 0] 25)
        have BB39 := bt BB36 BX
        have hwg13 : W10.heap.size ≤ w36.heap.size := BB36.size
        have hltg13 := X12.2
        have X12 := X12.nx BX
        obtain ⟨w39, hw39⟩ : ∃ w39, w39 = w36.alloc (.cells #[.bool false, .slice none 0 0, .slice none 0 0] 25) := ⟨_, rfl⟩
        rw [← hw39] at X13 BB39 X12 ⊢
        clear hw39 BX
        generalize w36.heap.size = g13 at *
        refine hK.out _ _ (.inr ⟨(S10.nx BB39).cell 0, (S10.nx BB39).cell 1, (S10.nx BB39).cell 2⟩) (fun hHeld => ?_)
        have hHeld := hHeld.resolve_left (by decide)
        clear hK K
        try simp only [List.setIfInBounds_toArray, List.set_cons_zero, List.set_cons_succ]
        refine AnyU.one 0 (by kernel_rfl) rfl (fun K hK => ?_)
        go_simp
        refine (rzero0_any _).mono ?_; rintro e w40 ⟨Z1, rfl, OZ1, BX⟩
        go_wp2_with fail
        have hnZ1g12 : ∀ b, Z1 = some ⟨b, 0, none⟩ → b ≠ g12 := fun b hb => by subst hb; have h1 := OZ1.lt.1; have h2 := X12.2; omega
        have hnZ1g13 : ∀ b, Z1 = some ⟨b, 0, none⟩ → b ≠ g13 := fun b hb => by subst hb; have h1 := OZ1.lt.1; have h2 := X13.2; omega
        have OZ1 := OZ1.base_le (Nat.le_trans (BB39.size) (Nat.le_succ _))
        have X12 := X12.nx BX
        have X13 := X13.nx BX
        have BB40 := bt BB39 BX
        clear BX
        refine hK.out _ _ (.inr ⟨(S10.nx BB40).cell 0, (S10.nx BB40).cell 1, (S10.nx BB40).cell 2⟩) (fun hHeld => ?_)
        have hHeld := hHeld.resolve_left (by decide)
        clear hK K
        try simp only [List.setIfInBounds_toArray, List.set_cons_zero, List.set_cons_succ]
        have i0 := X12.cell 0
        have i1 := X12.cell 1
        have i2 := X12.cell 2
        have f0 := X12.frozen 0
        have f1 := X12.frozen 1
        have f2 := X12.frozen 2
        refine AnyU.one 4 (by kernel_rfl) rfl (fun K hK => ?_)
        go_simp
        have BBa := wr3_below (b := g12) BB40 hwg12 (.bool false) (.slice none 0 0) (.slice Z1 1 1)
        refine hK.out _ _ (.inr ⟨(S10.nx BBa).cell 0, (S10.nx BBa).cell 1, (S10.nx BBa).cell 2⟩) (fun hHeld => ?_)
        clear hK K hHeld
        try simp only [List.setIfInBounds_toArray, List.set_cons_zero, List.set_cons_succ]
        clear i0 i1 i2 f0 f1 f2
        have hne : g13 ≠ g12 := by omega
        have X13 := X13.wr3 (r := g12) hne (.bool false) (.slice none 0 0) (.slice Z1 1 1)
        have X12 := X12.put3 (.bool false) (.slice none 0 0) (.slice Z1 1 1)
        have OZ1 := OZ1.far3 hnZ1g12 (.bool false) (.slice none 0 0) (.slice Z1 1 1)
        obtain ⟨Wa, hWa⟩ : ∃ Wa, (((w40.setCell ⟨g12, 0, none⟩ (.bool false)).setCell ⟨g12, 1, none⟩ (.slice none 0 0)).setCell ⟨g12, 2, none⟩ (.slice Z1 1 1)) = Wa := ⟨_, rfl⟩
        rw [hWa]
        unfold wr3 at X12 X13 OZ1 BBa
        rw [hWa] at X12 X13 OZ1 BBa
        clear hWa
        have i0 := X13.cell 0
        have i1 := X13.cell 1
        have i2 := X13.cell 2
        have f0 := X13.frozen 0
        have f1 := X13.frozen 1
        have f2 := X13.frozen 2
        refine AnyU.one 5 (by kernel_rfl) rfl (fun K hK => ?_)
        go_simp
        refine hK.out _ _ (.inl rfl) (fun _ => ?_)
        clear hK K
        try simp only [List.setIfInBounds_toArray, List.set_cons_zero, List.set_cons_succ]
        clear i0 i1 i2 f0 f1 f2
        refine AnyU.done (by kernel_rfl) (hQK.out _ _ ?_)
        go_wp2_with fail
        go_meet
        have BBb := wr3_below (b := g13) BBa hwg13 (.bool false) (.slice A8 (digs PW).length c8) (.slice (some ⟨w8.heap.size, 0, none⟩) 1 1)
        have X12 := X12.wr3 (r := g13) (Ne.symm hne) (.bool false) (.slice A8 (digs PW).length c8) (.slice (some ⟨w8.heap.size, 0, none⟩) 1 1)
        have X13 := X13.put3 (.bool false) (.slice A8 (digs PW).length c8) (.slice (some ⟨w8.heap.size, 0, none⟩) 1 1)
        have OZ1 := OZ1.far3 hnZ1g13 (.bool false) (.slice A8 (digs PW).length c8) (.slice (some ⟨w8.heap.size, 0, none⟩) 1 1)
        exact ⟨g12, g13, Z1, rfl, rfl, X12, X13, OZ1, BBb, hwg12, hwg13, Ne.symm hne⟩
    · go_simp
      have X13 := SB.new w30 [.bool false, .slice none 0 0, .slice none 0 0] 25
      have BX := bal w30 (.cells #[.bool false, .slice none 0 0, .slice none 0 0] 25)
      have BB41 := bt BB0 BX
      have hwg13 : W10.heap.size ≤ w30.heap.size := BB0.size
      obtain ⟨w41, hw41⟩ : ∃ w41, w41 = w30.alloc (.cells #[.bool false, .slice none 0 0, .slice none 0 0] 25) := ⟨_, rfl⟩
      rw [← hw41] at X13 BB41 ⊢
      clear hw41 BX
      generalize w30.heap.size = g13 at *
      refine hK.out _ _ (.inr ⟨(S10.nx BB41).cell 0, (S10.nx BB41).cell 1, (S10.nx BB41).cell 2⟩) (fun hHeld => ?_)
      have hHeld := hHeld.resolve_left (by decide)
      clear hK K
      try simp only [List.setIfInBounds_toArray, List.set_cons_zero, List.set_cons_succ]
      refine AnyU.two (i := 0) (j := 2) (by kernel_rfl) (USome.mk rfl (fun K hK => ?_)) (USome.mk rfl (fun K hK => ?_))
      · go_simp
        refine (rzero0_any _).mono ?_; rintro e w42 ⟨Z1, rfl, OZ1, BX⟩
        go_wp2_with fail
        have hnZ1g13 : ∀ b, Z1 = some ⟨b, 0, none⟩ → b ≠ g13 := fun b hb => by subst hb; have h1 := OZ1.lt.1; have h2 := X13.2; omega
        have OZ1 := OZ1.base_le (Nat.le_trans (BB41.size) (Nat.le_succ _))
        have X13 := X13.nx BX
        have BB42 := bt BB41 BX
        clear BX
        refine hK.out _ _ (.inr ⟨(S10.nx BB42).cell 0, (S10.nx BB42).cell 1, (S10.nx BB42).cell 2⟩) (fun hHeld => ?_)
        have hHeld := hHeld.resolve_left (by decide)
        clear hK K
        try simp only [List.setIfInBounds_toArray, List.set_cons_zero, List.set_cons_succ]
        refine AnyU.one 2 (by kernel_rfl) rfl (fun K hK => ?_)
        go_simp
        have X12 := SB.new w42 [.bool false, .slice none 0 0, .slice none 0 0] 25
        have BX := bal w42 (.cells #[.bool false, .slice none 0 0, .slice none 0 0] 25)
        have BB43 := bt BB42 BX
        have hwg12 : W10.heap.size ≤ w42.heap.size := BB42.size
        have hnZ1g12 : ∀ b, Z1 = some ⟨b, 0, none⟩ → b ≠ w42.heap.size := fun b hb => by subst hb; exact Nat.ne_of_lt OZ1.lt.2
        have hltg12 := X13.2
        have X13 := X13.nx BX
        have OZ1 := OZ1.below BX (Nat.le_refl _)
        obtain ⟨w43, hw43⟩ : ∃ w43, w43 = w42.alloc (.cells #[.bool false, .slice none 0 0, .slice none 0 0] 25) := ⟨_, rfl⟩
        rw [← hw43] at X12 BB43 X13 OZ1 ⊢
        clear hw43 BX
        generalize w42.heap.size = g12 at *
        refine hK.out _ _ (.inr ⟨(S10.nx BB43).cell 0, (S10.nx BB43).cell 1, (S10.nx BB43).cell 2⟩) (fun hHeld => ?_)
        have hHeld := hHeld.resolve_left (by decide)
        clear hK K
        try simp only [List.setIfInBounds_toArray, List.set_cons_zero, List.set_cons_succ]
        have i0 := X12.cell 0
        have i1 := X12.cell 1
        have i2 := X12.cell 2
        have f0 := X12.frozen 0
        have f1 := X12.frozen 1
        have f2 := X12.frozen 2
        refine AnyU.one 4 (by kernel_rfl) rfl (fun K hK => ?_)
        go_simp
        have BBa := wr3_below (b := g12) BB43 hwg12 (.bool false) (.slice none 0 0) (.slice Z1 1 1)
        refine hK.out _ _ (.inr ⟨(S10.nx BBa).cell 0, (S10.nx BBa).cell 1, (S10.nx BBa).cell 2⟩) (fun hHeld => ?_)
        clear hK K hHeld
        try simp only [List.setIfInBounds_toArray, List.set_cons_zero, List.set_cons_succ]
        clear i0 i1 i2 f0 f1 f2
        have hne : g13 ≠ g12 := by omega
        have X13 := X13.wr3 (r := g12) hne (.bool false) (.slice none 0 0) (.slice Z1 1 1)
        have X12 := X12.put3 (.bool false) (.slice none 0 0) (.slice Z1 1 1)
        have OZ1 := OZ1.far3 hnZ1g12 (.bool false) (.slice none 0 0) (.slice Z1 1 1)
        obtain ⟨Wa, hWa⟩ : ∃ Wa, (((w43.setCell ⟨g12, 0, none⟩ (.bool false)).setCell ⟨g12, 1, none⟩ (.slice none 0 0)).setCell ⟨g12, 2, none⟩ (.slice Z1 1 1)) = Wa := ⟨_, rfl⟩
        rw [hWa]
        unfold wr3 at X12 X13 OZ1 BBa
        rw [hWa] at X12 X13 OZ1 BBa
        clear hWa
        have i0 := X13.cell 0
        have i1 := X13.cell 1
        have i2 := X13.cell 2
        have f0 := X13.frozen 0
        have f1 := X13.frozen 1
        have f2 := X13.frozen 2
        refine AnyU.one 5 (by kernel_rfl) rfl (fun K hK => ?_)
        go_simp
        refine hK.out _ _ (.inl rfl) (fun _ => ?_)
        clear hK K
        try simp only [List.setIfInBounds_toArray, List.set_cons_zero, List.set_cons_succ]
        clear i0 i1 i2 f0 f1 f2
        refine AnyU.done (by kernel_rfl) (hQK.out _ _ ?_)
        go_wp2_with fail
        go_meet
        have BBb := wr3_below (b := g13) BBa hwg13 (.bool false) (.slice A8 (digs PW).length c8) (.slice (some ⟨w8.heap.size, 0, none⟩) 1 1)
        have X12 := X12.wr3 (r := g13) (Ne.symm hne) (.bool false) (.slice A8 (digs PW).length c8) (.slice (some ⟨w8.heap.size, 0, none⟩) 1 1)
        have X13 := X13.put3 (.bool false) (.slice A8 (digs PW).length c8) (.slice (some ⟨w8.heap.size, 0, none⟩) 1 1)
        have OZ1 := OZ1.far3 hnZ1g13 (.bool false) (.slice A8 (digs PW).length c8) (.slice (some ⟨w8.heap.size, 0, none⟩) 1 1)
        exact ⟨g12, g13, Z1, rfl, rfl, X12, X13, OZ1, BBb, hwg12, hwg13, Ne.symm hne⟩
      · go_simp
        have X12 := SB.new w41 [.bool false, .slice none 0 0, .slice none 0 0] 25
        have BX := bal w41 (.cells #[.bool false, .slice none 0 0, .slice none 0 0] 25)
        have BB44 := bt BB41 BX
        have hwg12 : W10.heap.size ≤ w41.heap.size := BB41.size
        have hltg12 := X13.2
        have X13 := X13.nx BX
        obtain ⟨w44, hw44⟩ : ∃ w44, w44 = w41.alloc (.cells #[.bool false, .slice none 0 0, .slice none 0 0] 25) := ⟨_, rfl⟩
        rw [← hw44] at X12 BB44 X13 ⊢
        clear hw44 BX
        generalize w41.heap.size = g12 at *
        refine hK.out _ _ (.inr ⟨(S10.nx BB44).cell 0, (S10.nx BB44).cell 1, (S10.nx BB44).cell 2⟩) (fun hHeld => ?_)
        have hHeld := hHeld.resolve_left (by decide)
        clear hK K
        try simp only [List.setIfInBounds_toArray, List.set_cons_zero, List.set_cons_succ]
        refine AnyU.one 0 (by kernel_rfl) rfl (fun K hK => ?_)
        go_simp
        refine (rzero0_any _).mono ?_; rintro e w45 ⟨Z1, rfl, OZ1, BX⟩
        go_wp2_with fail
        have hnZ1g13 : ∀ b, Z1 = some ⟨b, 0, none⟩ → b ≠ g13 := fun b hb => by subst hb; have h1 := OZ1.lt.1; have h2 := X13.2; omega
        have hnZ1g12 : ∀ b, Z1 = some ⟨b, 0, none⟩ → b ≠ g12 := fun b hb => by subst hb; have h1 := OZ1.lt.1; have h2 := X12.2; omega
        have OZ1 := OZ1.base_le (Nat.le_trans (BB44.size) (Nat.le_succ _))
        have X13 := X13.nx BX
        have X12 := X12.nx BX
        have BB45 := bt BB44 BX
        clear BX
        refine hK.out _ _ (.inr ⟨(S10.nx BB45).cell 0, (S10.nx BB45).cell 1, (S10.nx BB45).cell 2⟩) (fun hHeld => ?_)
        have hHeld := hHeld.resolve_left (by decide)
        clear hK K
        try simp only [List.setIfInBounds_toArray, List.set_cons_zero, List.set_cons_succ]
        have i0 := X12.cell 0
        have i1 := X12.cell 1
        have i2 := X12.cell 2
        have f0 := X12.frozen 0
        have f1 := X12.frozen 1
        have f2 := X12.frozen 2
        refine AnyU.one 4 (by kernel_rfl) rfl (fun K hK => ?_)
        go_simp
        have BBa := wr3_below (b := g12) BB45 hwg12 (.bool false) (.slice none 0 0) (.slice Z1 1 1)
        refine hK.out _ _ (.inr ⟨(S10.nx BBa).cell 0, (S10.nx BBa).cell 1, (S10.nx BBa).cell 2⟩) (fun hHeld => ?_)
        clear hK K hHeld
        try simp only [List.setIfInBounds_toArray, List.set_cons_zero, List.set_cons_succ]
        clear i0 i1 i2 f0 f1 f2
        have hne : g13 ≠ g12 := by omega
        have X13 := X13.wr3 (r := g12) hne (.bool false) (.slice none 0 0) (.slice Z1 1 1)
        have X12 := X12.put3 (.bool false) (.slice none 0 0) (.slice Z1 1 1)
        have OZ1 := OZ1.far3 hnZ1g12 (.bool false) (.slice none 0 0) (.slice Z1 1 1)
        obtain ⟨Wa, hWa⟩ : ∃ Wa, (((w45.setCell ⟨g12, 0, none⟩ (.bool false)).setCell ⟨g12, 1, none⟩ (.slice none 0 0)).setCell ⟨g12, 2, none⟩ (.slice Z1 1 1)) = Wa := ⟨_, rfl⟩
        rw [hWa]
        unfold wr3 at X12 X13 OZ1 BBa
        rw [hWa] at X12 X13 OZ1 BBa
        clear hWa
        have i0 := X13.cell 0
        have i1 := X13.cell 1
        have i2 := X13.cell 2
        have f0 := X13.frozen 0
        have f1 := X13.frozen 1
        have f2 := X13.frozen 2
        refine AnyU.one 5 (by kernel_rfl) rfl (fun K hK => ?_)
        go_simp
        refine hK.out _ _ (.inl rfl) (fun _ => ?_)
        clear hK K
        try simp only [List.setIfInBounds_toArray, List.set_cons_zero, List.set_cons_succ]
        clear i0 i1 i2 f0 f1 f2
        refine AnyU.done (by kernel_rfl) (hQK.out _ _ ?_)
        go_wp2_with fail
        go_meet
        have BBb := wr3_below (b := g13) BBa hwg13 (.bool false) (.slice A8 (digs PW).length c8) (.slice (some ⟨w8.heap.size, 0, none⟩) 1 1)
        have X12 := X12.wr3 (r := g13) (Ne.symm hne) (.bool false) (.slice A8 (digs PW).length c8) (.slice (some ⟨w8.heap.size, 0, none⟩) 1 1)
        have X13 := X13.put3 (.bool false) (.slice A8 (digs PW).length c8) (.slice (some ⟨w8.heap.size, 0, none⟩) 1 1)
        have OZ1 := OZ1.far3 hnZ1g13 (.bool false) (.slice A8 (digs PW).length c8) (.slice (some ⟨w8.heap.size, 0, none⟩) 1 1)
        exact ⟨g12, g13, Z1, rfl, rfl, X12, X13, OZ1, BBb, hwg12, hwg13, Ne.symm hne⟩
  case rest =>
    obtain ⟨g12, g13, Z1, rfl, rfl, s12, s13, OZ1, BB, hg12, hg13, hne⟩ := hcut
    have s11 := S11.nx BB
    have hg11 : g11 < W10.heap.size := S11.2
    have hH0 : 0 < HW := by rw [← hHW.out]; exact Nat.pow_pos (by omega)
    have hdH : decide (0 < (digs HW).length) = true := by rw [← digs_pos_iff]; exact decide_eq_true hH0
    go_upto_if 42 with fail
    go_cut [] (fun wx => ∃ (l0 l1 l2 u0 u1 u2 : Value), SB wx g12 [l0, l1, l2] ∧ SB wx g13 [u0, u1, u2] ∧ RQ wx wx.heap.size (.agg #[l0, l1, l2]) L_ ∧ RQ wx wx.heap.size (.agg #[u0, u1, u2]) U_ ∧ Below W10.heap.size W10 wx)
    case first =>
      cases signed with
      | false =>
        have hL' : L_ = 0 := by rw [hL]; rfl
        have hU' : U_ = ((PW : Int) : Rat) := by rw [hU]; rfl
        clear hL hU
        subst hL' hU'
        go_wp2_with fail
        go_meet
        exact ⟨_, _, _, _, _, _, s12, s13, rq_zero OZ1.rw, QF.st BB, BB⟩
      | true =>
        have hL' : L_ = ((-(HW : Int) : Int) : Rat) := by rw [hL]; rfl
        have hU' : U_ = ((HW : Int) : Rat) := by rw [hU]; rfl
        clear hL hU
        subst hL' hU'
        have hM := fun w' => rminus_raw false A9 (some ⟨w9.heap.size, 0, none⟩) c9 1 (digs HW).length 1 w'
        simp only [Bool.not_false, Bool.true_and, hdH] at hM
        clear hdH
        have BD : Below wc.heap.size wc wc.drew := Below.drew (Below.refl _ _)
        have s12 := s12.nx BD
        have s13 := s13.nx BD
        have s11 := s11.nx BD
        have BB := bt BB BD
        clear BD
        go_upto_region 9 with fail
        refine AnyU.regionQ 4 5 (fun w' => w'.cell? ⟨g11, 0, none⟩ = some (.bool false) ∧ w'.cell? ⟨g11, 1, none⟩ = some (.slice A9 (digs HW).length c9) ∧ w'.cell? ⟨g11, 2, none⟩ = some (.slice (some ⟨w9.heap.size, 0, none⟩) 1 1)) rfl (by kernel_rfl) (by kernel_rfl) (by repeat (first | refine quiet_then ?_ | refine quiet_block ?_ | exact quiet_body)) ⟨(s11).cell 0, (s11).cell 1, (s11).cell 2⟩ (fun Q hQK hq' hns hHeld => ?_)
        generalize wc.drew = w50 at *
        refine AnyU.next (i := 0) (v := ?_) hq' hns hHeld rfl rfl (by kernel_rfl) (Or.inl ⟨by rfl, ?_⟩) ?_
        rotate_left
        · intro w' hSw; (try dsimp only at hSw); go_simp <;> with_reducible rfl
        try simp only [List.setIfInBounds_toArray, List.set_cons_zero, List.set_cons_succ]
        refine AnyU.next (i := 2) (v := ?_) hq' hns hHeld rfl rfl (by kernel_rfl) (Or.inl ⟨by rfl, ?_⟩) ?_
        rotate_left
        · intro w' hSw; (try dsimp only at hSw); go_simp <;> with_reducible rfl
        try simp only [List.setIfInBounds_toArray, List.set_cons_zero, List.set_cons_succ]
        refine AnyU.one 1 (by kernel_rfl) rfl (fun K hK => ?_)
        go_simp
        refine (hM _).mono ?_; rintro e w51 ⟨rfl, BX⟩
        go_wp2_with fail
        have s11 := s11.nx BX
        have s12 := s12.nx BX
        have s13 := s13.nx BX
        have BB := bt BB BX
        clear BX hM
        refine hK.out _ _ (.inr ⟨(s11).cell 0, (s11).cell 1, (s11).cell 2⟩) (fun hHeld => ?_)
        have hHeld := hHeld.resolve_left (by decide)
        clear hK K
        try simp only [List.setIfInBounds_toArray, List.set_cons_zero, List.set_cons_succ]
        have i0 := s12.cell 0
        have i1 := s12.cell 1
        have i2 := s12.cell 2
        have f0 := s12.frozen 0
        have f1 := s12.frozen 1
        have f2 := s12.frozen 2
        refine AnyU.one 3 (by kernel_rfl) rfl (fun K hK => ?_)
        go_simp
        have s11 := s11.wr3 (r := g12) (by omega) (.bool true) (.slice A9 (digs HW).length c9) (.slice (some ⟨w9.heap.size, 0, none⟩) 1 1)
        refine hK.out _ _ (.inr ⟨(s11).cell 0, (s11).cell 1, (s11).cell 2⟩) (fun hHeld => ?_)
        clear hK K hHeld s11
        try simp only [List.setIfInBounds_toArray, List.set_cons_zero, List.set_cons_succ]
        clear i0 i1 i2 f0 f1 f2
        have s13 := s13.wr3 (r := g12) (Ne.symm hne) (.bool true) (.slice A9 (digs HW).length c9) (.slice (some ⟨w9.heap.size, 0, none⟩) 1 1)
        have s12 := s12.put3 (.bool true) (.slice A9 (digs HW).length c9) (.slice (some ⟨w9.heap.size, 0, none⟩) 1 1)
        have BB := wr3_below (b := g12) BB hg12 (.bool true) (.slice A9 (digs HW).length c9) (.slice (some ⟨w9.heap.size, 0, none⟩) 1 1)
        obtain ⟨Wa, hWa⟩ : ∃ Wa, (((w51.setCell ⟨g12, 0, none⟩ (.bool true)).setCell ⟨g12, 1, none⟩ (.slice A9 (digs HW).length c9)).setCell ⟨g12, 2, none⟩ (.slice (some ⟨w9.heap.size, 0, none⟩) 1 1)) = Wa := ⟨_, rfl⟩
        rw [hWa]
        unfold wr3 at s12 s13 BB
        rw [hWa] at s12 s13 BB
        clear hWa
        have i0 := s13.cell 0
        have i1 := s13.cell 1
        have i2 := s13.cell 2
        have f0 := s13.frozen 0
        have f1 := s13.frozen 1
        have f2 := s13.frozen 2
        refine AnyU.one 4 (by kernel_rfl) rfl (fun K hK => ?_)
        go_simp
        refine hK.out _ _ (.inl rfl) (fun _ => ?_)
        clear hK K
        try simp only [List.setIfInBounds_toArray, List.set_cons_zero, List.set_cons_succ]
        clear i0 i1 i2 f0 f1 f2
        refine AnyU.done (by kernel_rfl) (hQK.out _ _ ?_)
        go_wp2_with fail
        go_meet
        have s12 := s12.wr3 (r := g13) hne (.bool false) (.slice A9 (digs HW).length c9) (.slice (some ⟨w9.heap.size, 0, none⟩) 1 1)
        have s13 := s13.put3 (.bool false) (.slice A9 (digs HW).length c9) (.slice (some ⟨w9.heap.size, 0, none⟩) 1 1)
        have BB := wr3_below (b := g13) BB hg13 (.bool false) (.slice A9 (digs HW).length c9) (.slice (some ⟨w9.heap.size, 0, none⟩) 1 1)
        exact ⟨_, _, _, _, _, _, s12, s13, rq_neg hH0 (st RH1 BB) (st RH2 BB), rq_pos (st RH1 BB) (st RH2 BB), BB⟩
    case rest =>
      clear s11 s12 s13 OZ1 BB hH0 hdH hL hU
      obtain ⟨l0, l1, l2, u0, u1, u2, s12, s13, RL, RU, BB⟩ := hcut
      have S4 := S4.nx BB
      have S10 := S10.nx BB
      have QF := QF.st BB
      have C10 := bt C10 BB
      have hx : RQ w w.heap.size (.agg #[.bool (qn x), .slice A1 (digs (qt x)).length c1, .slice D1 (digs (qd x)).length d1]) x := ⟨A1, c1, D1, d1, rfl, p1, p2⟩
      have hO1 := fun V U w' h1 h2 => rratOrder_any V U x L_ w' h1 h2 b1
      have hO2 := fun V U w' h1 h2 => rratOrder_any V U x U_ w' h1 h2 b2
      have hSm := fun V U w' h1 h2 => rsum_any V U x ((PW : Int) : Rat) w' h1 h2 b3
      generalize cmpQ x L_ = z1 at *
      generalize cmpQ x U_ = z2 at *
      clear b1 b2 b3 BB S11 QH RH1 RH2
      have i0 := S4.cell 0
      have i1 := S4.cell 1
      have i2 := S4.cell 2
      have j0 := s12.cell 0
      have j1 := s12.cell 1
      have j2 := s12.cell 2
      go_wp2_with fail
      refine (hO1 _ _ _ (hx.st C10) RL).mono ?_; rintro e w40 ⟨rfl, B40⟩
      clear i0 i1 i2 j0 j1 j2 hO1 RL s12
      have S4 := S4.nx B40
      have S10 := S10.nx B40
      have QF := QF.st B40
      have C10 := bt C10 B40
      have s13 := s13.nx B40
      have RU := RU.st B40
      by_cases hz1 : z1 < 0
      · have hA := ha1 (.inl hz1)
        subst hA
        clear ha1 ha2 hu
        go_wp2_with fail
        go_ret2
        exact retBE_nil 4 C10
      have i0 := S4.cell 0
      have i1 := S4.cell 1
      have i2 := S4.cell 2
      have j0 := s13.cell 0
      have j1 := s13.cell 1
      have j2 := s13.cell 2
      go_wp2_with fail
      refine (hO2 _ _ _ (hx.st C10) RU).mono ?_; rintro e w41 ⟨rfl, B41⟩
      clear i0 i1 i2 j0 j1 j2 hO2 RU s13
      have S4 := S4.nx B41
      have S10 := S10.nx B41
      have QF := QF.st B41
      have C10 := bt C10 B41
      by_cases hz2 : 0 ≤ z2
      · have hA := ha1 (.inr hz2)
        subst hA
        clear ha1 ha2 hu
        go_wp2_with fail
        go_ret2
        exact retBE_nil 4 C10
      have hA := ha2 (by omega) (by omega)
      have hu := hu (by omega) (by omega)
      subst hA
      clear ha1 ha2
      have i0 := S4.cell 0
      have i1 := S4.cell 1
      have i2 := S4.cell 2
      have BL := bal w41 (.cells #[.bool (qn x), .slice A1 (digs (qt x)).length c1, .slice D1 (digs (qd x)).length d1] 25)
      have s14 := SB.new w41 [.bool (qn x), .slice A1 (digs (qt x)).length c1, .slice D1 (digs (qd x)).length d1] 25
      have hg14 := S10.2
      have S10 := S10.nx BL
      have QF := QF.st BL
      have C14 := bt C10 BL
      have m0 := s14.cell 0
      go_upto_if 61 with fail
      go_cut [] (fun wx => ∃ (sg : Bool) (Au : Option Addr) (cu : Nat) (Du : Option Addr) (nu du : Nat), SB wx w41.heap.size [.bool sg, .slice Au (digs u).length cu, .slice Du nu du] ∧ RW wx wx.heap.size Au cu (digs u) ∧ Below w41.heap.size w41 wx)
      case first =>
        clear m0
        generalize hq : qn x = bq at *
        cases bq with
        | false =>
          have hu' : qt x = u := by rw [if_neg (by simp)] at hu; exact hu
          clear hu hq
          subst hu'
          go_wp2_with fail
          go_meet
          exact ⟨_, _, _, _, _, _, s14, st (st p1 C10) BL, BL⟩
        | true =>
          have hu' : qt (x + ((PW : Int) : Rat)) = u := by rw [if_pos rfl] at hu; exact hu
          clear hu
          skip
          have m0 := s14.cell 0
          have m1 := s14.cell 1
          have m2 := s14.cell 2
          have n0 := S10.cell 0
          have n1 := S10.cell 1
          have n2 := S10.cell 2
          go_wp2_with fail
          refine (hSm _ _ _ ((hx.st C10).st BL) QF).mono ?_; rintro e w42 ⟨A17, c17, M17, m17, rfl, O17, P17, B42⟩
          clear m0 m1 m2 n0 n1 n2
          have hgl := s14.2
          have s14 := s14.nx B42
          have BZ := bt BL B42
          have m0 := s14.cell 0
          have m1 := s14.cell 1
          have m2 := s14.cell 2
          have f0 := s14.frozen 0
          have f1 := s14.frozen 1
          have f2 := s14.frozen 2
          go_wp2_with fail
          go_meet
          have s14 := s14.put3 (.bool (qn (x + ((PW : Int) : Rat)))) (.slice A17 (digs (qt (x + ((PW : Int) : Rat)))).length c17) (.slice M17 (digs (qd (x + ((PW : Int) : Rat)))).length m17)
          have O17 := (O17.put3 (b := w41.heap.size) hgl (.bool (qn (x + ((PW : Int) : Rat)))) (.slice A17 (digs (qt (x + ((PW : Int) : Rat)))).length c17) (.slice M17 (digs (qd (x + ((PW : Int) : Rat)))).length m17)).rw
          have BZ := wr3_below (b := w41.heap.size) BZ (Nat.le_refl _) (.bool (qn (x + ((PW : Int) : Rat)))) (.slice A17 (digs (qt (x + ((PW : Int) : Rat)))).length c17) (.slice M17 (digs (qd (x + ((PW : Int) : Rat)))).length m17)
          rw [hu'] at s14 O17 BZ
          exact ⟨_, _, _, _, _, _, s14, O17, BZ⟩
      case rest =>
        clear s14 C14 BL S10 QF m0 hg14 hu hSm
        obtain ⟨sg, Au, cu, Du, nu, du, s14, Ru, BR⟩ := hcut
        have CR := bt C10 BR
        cases big with
        | true =>
          go_wp2_with (at_make; refine wp_makeB _ rfl _ _ rfl .i64 .i64 _ _ s rfl rfl (by omega) (by omega) (by omega) ?_; intro wm hOm hbm hsm; have s14 := s14.nx hbm; have m0 := s14.cell 0; have m1 := s14.cell 1; have m2 := s14.cell 2)
          go_loopg [16, 17] s (fun gg lv iv wr => ∃ (k : Nat) (A5 : Option Addr) (c5 : Nat), k ≤ s ∧ s - k = gg ∧ iv = .int .i64 (k : Int) ∧ lv = .slice A5 (digs (dv u k)).length c5 ∧ RW wr wr.heap.size A5 c5 (digs (dv u k)) ∧ OB wr wc.heap.size (some ⟨wc.heap.size, 0, none⟩) s (outT s true u k) ∧ Below wc.heap.size wc wr)
          case atStart => exact ⟨0, Au, cu, Nat.zero_le _, rfl, rfl, by rw [dv_zero], by rw [dv_zero]; exact st Ru hbm, by rw [outT_zero]; exact hOm, hbm⟩
          case round =>
            clear hOm hbm hsm s14 Ru
            obtain ⟨k, A5, c5, hk, rfl, rfl, rfl, R5, hO, hbel⟩ := hrel
            by_cases hk0 : k < s
            · obtain ⟨j, hj⟩ : ∃ j, j = s - 1 - k := ⟨_, rfl⟩
              have hj1 : (s : Int) - 1 - (k : Int) = (j : Int) := by omega
              have hj2 : (j : Int) < (s : Int) := by omega
              have hk2 : (k : Int) < (s : Int) := by omega
              have hl5 : (digs (dv u k)).length ≤ 1000 := Nat.le_trans (digs_mono (dv_le u k)) hub
              have hV := rover_any A5 (some ⟨wr.heap.size, 0, none⟩) c5 1 _ 1 (digs (dv u k)) [256] (wr.alloc (.cells #[.int .u32 (256 : Nat)] 53)) rfl rfl (st R5 (bal _ _)) ((RW.one wr 53 (show 256 < 4294967296 by omega)).more (by simp)) Nrm_256 (by rw [val_one]; omega) (by omega) (by simp)
              rw [val_digs, val_one, dv_succ] at hV
              have hB := dv_byte u k
              have hset := outT_big (u := u) hk0 hj
              have hglt := (OM.lt hO).2
              have Bo := bal wr (.cells #[.int .u32 (256 : Nat)] 53)
              have hml : dv u k % 256 < 256 := Nat.mod_lt _ (by omega)
              obtain ⟨m, hm⟩ : ∃ m, dv u k % 256 = m := ⟨_, rfl⟩
              rw [hm] at hV hB hml
              have HS := Lib.hid hset
              have HB := Lib.hid hB
              clear hm hset hB hj hl5
              by_cases hm0 : m = 0
              · subst hm0
                go_wp2_with fail
                refine hV.mono ?_; rintro e w60 ⟨A6, c6, A7, c7, rfl, O6, O7, B60⟩
                rw [digs_zero] at O7 ⊢
                clear hV
                have hO2 := OM.below hO (bt Bo B60) (Nat.le_refl _)
                have hfz := OM.frozen hO2 j
                have hct := OM.cell hO2 (bg_get? (l := outT s true u k) (k := j) (by rw [outT_len]; omega))
                simp only [f8] at hct
                go_wp2_with fail
                go_roundg (s - (k + 1))
                case measure => omega
                case rel =>
                  have hst := OM.set hO2 j (byteN u k)
                  rw [HS.out] at hst
                  simp only [f8, HB.out] at hst
                  exact ⟨k + 1, A6, c6, by omega, rfl, by go_num, rfl, (O6.far (p := ⟨wc.heap.size, j, none⟩) (fun b hb => by subst hb; have h1 := O6.lt.1; have h2 := Bo.size; show b ≠ wc.heap.size; omega) (.int .u8 0)).rw, hst, (bt hbel (bt Bo B60)).setCell (p := ⟨wc.heap.size, j, none⟩) (Nat.le_refl _) (.int .u8 0)⟩
              · go_wp2_with fail
                refine hV.mono ?_; rintro e w60 ⟨A6, c6, A7, c7, rfl, O6, O7, B60⟩
                rw [digs_one (n := m) (by omega) (by omega)] at O7 ⊢
                clear hV
                obtain ⟨b9, o9, rfl, _, hx9⟩ := (O7.rw).at_ (by simp)
                have x9 := hx9 0 (by simp)
                rw [Nat.add_zero, show wd [m] 0 = m from rfl] at x9
                clear hx9
                have ew : ((m : Int)) % 256 = (m : Int) := by omega
                have hO2 := OM.below hO (bt Bo B60) (Nat.le_refl _)
                have hfz := OM.frozen hO2 j
                have hct := OM.cell hO2 (bg_get? (l := outT s true u k) (k := j) (by rw [outT_len]; omega))
                simp only [f8] at hct
                go_wp2_with fail
                go_roundg (s - (k + 1))
                case measure => omega
                case rel =>
                  have hst := OM.set hO2 j (byteN u k)
                  rw [HS.out] at hst
                  simp only [f8, HB.out] at hst
                  exact ⟨k + 1, A6, c6, by omega, rfl, by go_num, rfl, (O6.far (p := ⟨wc.heap.size, j, none⟩) (fun b hb => by subst hb; have h1 := O6.lt.1; have h2 := Bo.size; show b ≠ wc.heap.size; omega) (.int .u8 (m : Int))).rw, hst, (bt hbel (bt Bo B60)).setCell (p := ⟨wc.heap.size, j, none⟩) (Nat.le_refl _) (.int .u8 (m : Int))⟩
            · obtain rfl : k = s := by omega
              rw [outT_all] at hO
              clear hk0 R5
              go_wp2_with fail
              go_ret2
              exact ⟨_, _, by rw [outB_len]; rfl, OM.base_le hO CR.size, CR.trans (hbel.mono CR.size)⟩
        | false =>
          go_wp2_with (at_make; refine wp_makeB _ rfl _ _ rfl .i64 .i64 _ _ s rfl rfl (by omega) (by omega) (by omega) ?_; intro wm hOm hbm hsm; have s14 := s14.nx hbm; have m0 := s14.cell 0; have m1 := s14.cell 1; have m2 := s14.cell 2)
          go_loopg [16, 17] s (fun gg lv iv wr => ∃ (k : Nat) (A5 : Option Addr) (c5 : Nat), k ≤ s ∧ s - k = gg ∧ iv = .int .i64 (k : Int) ∧ lv = .slice A5 (digs (dv u k)).length c5 ∧ RW wr wr.heap.size A5 c5 (digs (dv u k)) ∧ OB wr wc.heap.size (some ⟨wc.heap.size, 0, none⟩) s (outT s false u k) ∧ Below wc.heap.size wc wr)
          case atStart => exact ⟨0, Au, cu, Nat.zero_le _, rfl, rfl, by rw [dv_zero], by rw [dv_zero]; exact st Ru hbm, by rw [outT_zero]; exact hOm, hbm⟩
          case round =>
            clear hOm hbm hsm s14 Ru
            obtain ⟨k, A5, c5, hk, rfl, rfl, rfl, R5, hO, hbel⟩ := hrel
            by_cases hk0 : k < s
            · obtain ⟨j, hj⟩ : ∃ j, j = s - 1 - k := ⟨_, rfl⟩
              have hj1 : (s : Int) - 1 - (k : Int) = (j : Int) := by omega
              have hj2 : (j : Int) < (s : Int) := by omega
              have hk2 : (k : Int) < (s : Int) := by omega
              have hl5 : (digs (dv u k)).length ≤ 1000 := Nat.le_trans (digs_mono (dv_le u k)) hub
              have hV := rover_any A5 (some ⟨wr.heap.size, 0, none⟩) c5 1 _ 1 (digs (dv u k)) [256] (wr.alloc (.cells #[.int .u32 (256 : Nat)] 53)) rfl rfl (st R5 (bal _ _)) ((RW.one wr 53 (show 256 < 4294967296 by omega)).more (by simp)) Nrm_256 (by rw [val_one]; omega) (by omega) (by simp)
              rw [val_digs, val_one, dv_succ] at hV
              have hB := dv_byte u k
              have hset := outT_little (u := u) hk0
              have hglt := (OM.lt hO).2
              have Bo := bal wr (.cells #[.int .u32 (256 : Nat)] 53)
              have hml : dv u k % 256 < 256 := Nat.mod_lt _ (by omega)
              obtain ⟨m, hm⟩ : ∃ m, dv u k % 256 = m := ⟨_, rfl⟩
              rw [hm] at hV hB hml
              have HS := Lib.hid hset
              have HB := Lib.hid hB
              clear hm hset hB hj hl5
              by_cases hm0 : m = 0
              · subst hm0
                go_wp2_with fail
                refine hV.mono ?_; rintro e w60 ⟨A6, c6, A7, c7, rfl, O6, O7, B60⟩
                rw [digs_zero] at O7 ⊢
                clear hV
                have hO2 := OM.below hO (bt Bo B60) (Nat.le_refl _)
                have hfz := OM.frozen hO2 k
                have hct := OM.cell hO2 (bg_get? (l := outT s false u k) (k := k) (by rw [outT_len]; omega))
                simp only [f8] at hct
                go_wp2_with fail
                go_roundg (s - (k + 1))
                case measure => omega
                case rel =>
                  have hst := OM.set hO2 k (byteN u k)
                  rw [HS.out] at hst
                  simp only [f8, HB.out] at hst
                  exact ⟨k + 1, A6, c6, by omega, rfl, by go_num, rfl, (O6.far (p := ⟨wc.heap.size, k, none⟩) (fun b hb => by subst hb; have h1 := O6.lt.1; have h2 := Bo.size; show b ≠ wc.heap.size; omega) (.int .u8 0)).rw, hst, (bt hbel (bt Bo B60)).setCell (p := ⟨wc.heap.size, k, none⟩) (Nat.le_refl _) (.int .u8 0)⟩
              · go_wp2_with fail
                refine hV.mono ?_; rintro e w60 ⟨A6, c6, A7, c7, rfl, O6, O7, B60⟩
                rw [digs_one (n := m) (by omega) (by omega)] at O7 ⊢
                clear hV
                obtain ⟨b9, o9, rfl, _, hx9⟩ := (O7.rw).at_ (by simp)
                have x9 := hx9 0 (by simp)
                rw [Nat.add_zero, show wd [m] 0 = m from rfl] at x9
                clear hx9
                have ew : ((m : Int)) % 256 = (m : Int) := by omega
                have hO2 := OM.below hO (bt Bo B60) (Nat.le_refl _)
                have hfz := OM.frozen hO2 k
                have hct := OM.cell hO2 (bg_get? (l := outT s false u k) (k := k) (by rw [outT_len]; omega))
                simp only [f8] at hct
                go_wp2_with fail
                go_roundg (s - (k + 1))
                case measure => omega
                case rel =>
                  have hst := OM.set hO2 k (byteN u k)
                  rw [HS.out] at hst
                  simp only [f8, HB.out] at hst
                  exact ⟨k + 1, A6, c6, by omega, rfl, by go_num, rfl, (O6.far (p := ⟨wc.heap.size, k, none⟩) (fun b hb => by subst hb; have h1 := O6.lt.1; have h2 := Bo.size; show b ≠ wc.heap.size; omega) (.int .u8 (m : Int))).rw, hst, (bt hbel (bt Bo B60)).setCell (p := ⟨wc.heap.size, k, none⟩) (Nat.le_refl _) (.int .u8 (m : Int))⟩
            · obtain rfl : k = s := by omega
              rw [outT_all] at hO
              clear hk0 R5
              go_wp2_with fail
              go_ret2
              exact ⟨_, _, by rw [outB_len]; rfl, OM.base_le hO CR.size, CR.trans (hbel.mono CR.size)⟩

end Go.Proofs.Ytabcnpcfknlmlaa
