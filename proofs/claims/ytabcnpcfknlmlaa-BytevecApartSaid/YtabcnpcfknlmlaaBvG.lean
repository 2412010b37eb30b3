/- Walks: awake of bytevec's laws; the law BytevecGets. -/
import Derived.Test.YtabcnpcfknlmlaaBvR
namespace Go.Proofs.Ytabcnpcfknlmlaa
open Go.RowKit

theorem RB.two (w : World) (t : TypeId) (x y : UInt8) : RB (w.alloc (.cells #[.int .u8 (x.toNat : Int), .int .u8 (y.toNat : Int)] t)) (w.heap.size + 1) (some ⟨w.heap.size, 0, none⟩) 2 [x, y] := by
  refine ⟨by simp, by simp, fun _ => ⟨_, _, rfl, by omega, fun k z hk => ?_⟩⟩
  have h0 := heap_alloc_new w (.cells #[.int .u8 (x.toNat : Int), .int .u8 (y.toNat : Int)] t)
  rw [cell_of_row _ _ _ _ _ _ h0, Nat.zero_add]
  match k, hk with
  | 0, hk => simp at hk; subst hk; rfl
  | 1, hk => simp at hk; subst hk; rfl
theorem get258 : getQ [1, 2] 0 2 true false = (rwq ((258 : Int) : Rat), rwq 0, 0) := by
  unfold getQ
  rw [show inB [(1 : UInt8), 2].length 0 2 = true by decide, if_pos rfl]
  rfl
theorem nB_q {p q : Rat} (h1 : qw p ≤ 512) (h2 : qw q ≤ 512) : nB (rwq p) (rwq q) = true := by
  unfold nB rwq
  dsimp only
  rw [rsB_of p h1, rsB_of q h2]; rfl
theorem sameB_self {r i : Rw} (h : nB r i = true) : sameB r i r i = true := by
  unfold sameB
  rw [h]
  simp [fsB]
theorem alikeB_self (r i : Rw) : alikeB r i r i = true := by unfold alikeB; simp [fsB]
theorem qw_small (i : Int) (h : i.natAbs < 4294967296) : qw ((i : Int) : Rat) ≤ 512 :=
  Nat.le_trans (qw_int i 1 (by omega) (by rw [Wp_succ, Wp_zero]; omega)) (by omega)


set_option maxRecDepth 100000 in
set_option maxHeartbeats 4000000 in
theorem awake5_any (w : World) : Calls Try.prog 10 #[] w fun e w' => e = .returned (.bool true) ∧ Below w.heap.size w w' := by
  have B1 := bal w (.cells #[.int .u8 ((1 : UInt8).toNat : Int), .int .u8 ((2 : UInt8).toNat : Int)] 5)
  have R2 : RB (w.alloc (.cells #[.int .u8 ((1 : UInt8).toNat : Int), .int .u8 ((2 : UInt8).toNat : Int)] 5)) (w.alloc (.cells #[.int .u8 ((1 : UInt8).toNat : Int), .int .u8 ((2 : UInt8).toNat : Int)] 5)).heap.size (some ⟨w.heap.size, 0, none⟩) 2 [1, 2] := RM.more (RB.two w 5 1 2) (by simp)
  have hg := get_any (some ⟨w.heap.size, 0, none⟩) 2 2 [1, 2] 0 2 true false (w.alloc (.cells #[.int .u8 ((1 : UInt8).toNat : Int), .int .u8 ((2 : UInt8).toNat : Int)] 5)) rfl R2 (by omega) (by omega) (by omega) (by omega)
  rw [get258] at hg
  have hI := fun w' => int_any 258 w' (by omega) (by omega)
  have hnb : nB (rwq ((258 : Int) : Rat)) (rwq 0) = true := nB_q (qw_small 258 (by decide)) (qw_small 0 (by decide))
  generalize rwq ((258 : Int) : Rat) = r at *
  generalize rwq 0 = i at *
  have hS := fun v u w' x y => esame_any v u r i r i w' x y
  simp only [sameB_self hnb] at hS
  clear hnb
  go_enter Try.func10, Try.ntmps10
  go_wp2_with fail
  refine hg.mono ?_; rintro e w2 ⟨A1, c1, D1, d1, A2, c2, D2, d2, rfl, O1, O2, O3, O4, B2⟩
  dsimp only at O1 O2 O3 O4
  have B3 := bal w2 (.cells #[.bool r.s, .slice A1 r.a.length c1, .slice D1 r.b.length d1, .bool i.s, .slice A2 i.a.length c2, .slice D2 i.b.length d2] 27)
  have S3 := SB.new w2 [.bool r.s, .slice A1 r.a.length c1, .slice D1 r.b.length d1, .bool i.s, .slice A2 i.a.length c2, .slice D2 i.b.length d2] 27
  obtain ⟨W3, hW3⟩ : ∃ W3, W3 = w2.alloc (.cells #[.bool r.s, .slice A1 r.a.length c1, .slice D1 r.b.length d1, .bool i.s, .slice A2 i.a.length c2, .slice D2 i.b.length d2] 27) := ⟨_, rfl⟩
  have R1 := st O1.rw B3
  have R2' := st O2.rw B3
  have R3 := st O3.rw B3
  have R4 := st O4.rw B3
  go_wp2_with fail
  rw [← hW3] at S3 B3 R1 R2' R3 R4 ⊢
  clear hW3
  have m0 := S3.cell 0
  have m1 := S3.cell 1
  have m2 := S3.cell 2
  have m3 := S3.cell 3
  have m4 := S3.cell 4
  have m5 := S3.cell 5
  have Bd : Below W3.heap.size W3 W3.drew := Below.drew (Below.refl _ _)
  have S3d := S3.nx Bd
  go_region_with (first
    | (go_at_call 21; refine (hI _).mono ?_; rintro e w5 ⟨E1, e1, F1, f1, E2, e2, F2, f2, rfl, P1, P2, P3, P4, B5⟩; have Sa := S3d.nx B5; have x0 := Sa.cell 0; have x1 := Sa.cell 1; have x2 := Sa.cell 2; have x3 := Sa.cell 3; have x4 := Sa.cell 4; have x5 := Sa.cell 5)
    | (go_at_call 15; refine (hS _ _ w5 ⟨A1, c1, D1, d1, A2, c2, D2, d2, rfl, st (st R1 Bd) B5, st (st R2' Bd) B5, st (st R3 Bd) B5, st (st R4 Bd) B5⟩ ⟨E1, e1, F1, f1, E2, e2, F2, f2, rfl, P1.rw, P2.rw, P3.rw, P4.rw⟩).mono ?_; rintro e w6 ⟨rfl, B6⟩))
  all_goals
    go_wp2_with fail
    go_ret
    exact ⟨rfl, bt (bt (bt (bt (bt B1 B2) B3) Bd) B5) B6⟩


set_option maxRecDepth 100000 in
set_option maxHeartbeats 4000000 in
theorem bytevecGets_walk (A : Option Addr) (c : Nat) (l : List UInt8) (at_ size : Int) (big signed : Bool) (w : World) (h : RB w w.heap.size A c l)
    (ha : -9223372036854775808 ≤ at_ ∧ at_ ≤ 9223372036854775807) (hs : -9223372036854775808 ≤ size ∧ size ≤ 9223372036854775807) :
    Calls Try.prog 3 #[.slice A l.length c, .int .i64 at_, .int .i64 size, .bool big, .bool signed] w fun e w' => e = .returned (.bool true) ∧ Below w.heap.size w w' := by
  have hg1 := get_any A c l.length l at_ size big signed w rfl h ha.1 ha.2 hs.1 hs.2
  have hg2 := fun w' x => rget_any A c l.length l at_ size big signed w' rfl x ha.1 ha.2 hs.1 hs.2
  generalize getQ l at_ size big signed = x at *
  obtain ⟨r, i, k⟩ := x
  have hS := fun v u w' x y => alike_any v u r i r i w' x y
  simp only [alikeB_self] at hS
  clear ha hs
  go_enter Try.func3, Try.ntmps3
  go_wp2_with fail
  refine hg1.mono ?_; rintro e w2 ⟨A1, c1, D1, d1, A2, c2, D2, d2, rfl, O1, O2, O3, O4, B2⟩
  dsimp only at O1 O2 O3 O4
  have B3 := bal w2 (.cells #[.bool r.s, .slice A1 r.a.length c1, .slice D1 r.b.length d1, .bool i.s, .slice A2 i.a.length c2, .slice D2 i.b.length d2] 27)
  have S3 := SB.new w2 [.bool r.s, .slice A1 r.a.length c1, .slice D1 r.b.length d1, .bool i.s, .slice A2 i.a.length c2, .slice D2 i.b.length d2] 27
  go_wp2_with fail
  refine (hg2 _ (RM.step h (bt B2 B3) (bt B2 B3).size)).mono ?_; rintro e w4 ⟨E1, e1, F1, f1, E2, e2, F2, f2, rfl, P1, P2, P3, P4, B4⟩
  dsimp only at P1 P2 P3 P4
  have B5 := bal w4 (.cells #[.bool r.s, .slice E1 r.a.length e1, .slice F1 r.b.length f1, .bool i.s, .slice E2 i.a.length e2, .slice F2 i.b.length f2] 27)
  have S5 := SB.new w4 [.bool r.s, .slice E1 r.a.length e1, .slice F1 r.b.length f1, .bool i.s, .slice E2 i.a.length e2, .slice F2 i.b.length f2] 27
  go_wp2_with fail
  refine (awake5_any _).mono ?_; rintro e w6 ⟨rfl, B6⟩
  have S6 := S5.nx B6
  have S3' := ((S3.nx B4).nx B5).nx B6
  have m0 := S3'.cell 0
  have m1 := S3'.cell 1
  have m2 := S3'.cell 2
  have m3 := S3'.cell 3
  have m4 := S3'.cell 4
  have m5 := S3'.cell 5
  have n0 := S6.cell 0
  have n1 := S6.cell 1
  have n2 := S6.cell 2
  have n3 := S6.cell 3
  have n4 := S6.cell 4
  have n5 := S6.cell 5
  have BX := bt (bt (bt B3 B4) B5) B6
  have BY := bt B5 B6
  go_wp2_with fail
  refine (hS _ _ _ ⟨A1, c1, D1, d1, A2, c2, D2, d2, rfl, st O1.rw BX, st O2.rw BX, st O3.rw BX, st O4.rw BX⟩ ⟨E1, e1, F1, f1, E2, e2, F2, f2, rfl, st P1.rw BY, st P2.rw BY, st P3.rw BY, st P4.rw BY⟩).mono ?_; rintro e w7 ⟨rfl, B7⟩
  go_wp2_with fail
  go_ret
  exact ⟨by simp [go_sem], bt (bt B2 BX) B7⟩

end Go.Proofs.Ytabcnpcfknlmlaa
