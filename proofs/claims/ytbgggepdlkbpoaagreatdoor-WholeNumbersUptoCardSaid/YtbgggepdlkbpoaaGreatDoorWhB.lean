/- Walks: a number as a datum: datum.Sound, and what the writer tells of it. -/
import Derived.Test.YtbgggepdlkbpoaaGreatDoorWhA
import Derived.Test.YtbgggepdlkbpoaaGreatDoorTxA
namespace Go.Proofs.YtbgggepdlkbpoaaGreatDoor
open Go.RowKit

set_option maxRecDepth 100000 in
theorem valid_empty (w : World) : Calls Tryz.prog 99 #[.string ⟨#[]⟩] w fun e w' => e = .returned (.bool true) ∧ w = w' := by
  go_enter Tryz.func99, Tryz.ntmps99
  go_wp2_with fail
  refine wp_loop_rounds 1 ?_
  rw [rounds_succ]
  go_wp2_with fail
  go_ret
  exact ⟨rfl, rfl⟩
set_option maxRecDepth 100000 in
set_option maxHeartbeats 4000000 in
theorem shape_num (r i : Rw) (A1 D1 A2 D2 : Option Addr) (c1 d1 c2 d2 : Nat) (w : World) (hV : VN w w.heap.size (.agg #[.bool r.s, .slice A1 r.a.length c1, .slice D1 r.b.length d1, .bool i.s, .slice A2 i.a.length c2, .slice D2 i.b.length d2]) r i) (hb : nB r i = true) : Calls Tryz.prog 86 #[(.agg #[.int .i64 3, .int .i64 0, .bool r.s, .slice A1 r.a.length c1, .slice D1 r.b.length d1, .bool i.s, .slice A2 i.a.length c2, .slice D2 i.b.length d2, .string ⟨#[]⟩, .slice none 0 0, .slice none 0 0])] w fun e w' => e = .returned (.bool true) ∧ Below w.heap.size w w' := by
  have X := SB.new w [.int .i64 3, .int .i64 0, .bool r.s, .slice A1 r.a.length c1, .slice D1 r.b.length d1, .bool i.s, .slice A2 i.a.length c2, .slice D2 i.b.length d2, .string ⟨#[]⟩, .slice none 0 0, .slice none 0 0] 50
  have B := bal w (.cells #[.int .i64 3, .int .i64 0, .bool r.s, .slice A1 r.a.length c1, .slice D1 r.b.length d1, .bool i.s, .slice A2 i.a.length c2, .slice D2 i.b.length d2, .string ⟨#[]⟩, .slice none 0 0, .slice none 0 0] 50)
  replace hV := hV.st B
  have hs := fun w' h => esound_any (.agg #[.bool r.s, .slice A1 r.a.length c1, .slice D1 r.b.length d1, .bool i.s, .slice A2 i.a.length c2, .slice D2 i.b.length d2]) r i w' h
  rw [hb] at hs
  have i0 := X.cell 0
  have i1 := X.cell 1
  have i2 := X.cell 2
  have i3 := X.cell 3
  have i4 := X.cell 4
  have i5 := X.cell 5
  have i6 := X.cell 6
  have i7 := X.cell 7
  have i8 := X.cell 8
  have i9 := X.cell 9
  have i10 := X.cell 10
  go_enter Tryz.func86, Tryz.ntmps86
  go_wp2_with fail
  refine (hs _ hV).mono ?_; rintro e w3 ⟨rfl, B3⟩
  clear i0 i1 i2 i3 i4 i5 i6 i7 i8 i9 i10
  replace X := X.nx B3
  replace B := bt B B3
  have i0 := X.cell 0
  have i1 := X.cell 1
  have i2 := X.cell 2
  have i3 := X.cell 3
  have i4 := X.cell 4
  have i5 := X.cell 5
  have i6 := X.cell 6
  have i7 := X.cell 7
  have i8 := X.cell 8
  have i9 := X.cell 9
  have i10 := X.cell 10
  go_wp2_with fail
  refine (valid_empty _).mono ?_; rintro e w4 ⟨rfl, rfl⟩
  go_wp2_with fail
  go_ret
  exact ⟨rfl, B⟩

set_option maxRecDepth 100000 in
set_option maxHeartbeats 4000000 in
theorem sound_num (r i : Rw) (A1 D1 A2 D2 : Option Addr) (c1 d1 c2 d2 : Nat) (g : Nat) (w : World) (hV : VN w g (.agg #[.bool r.s, .slice A1 r.a.length c1, .slice D1 r.b.length d1, .bool i.s, .slice A2 i.a.length c2, .slice D2 i.b.length d2]) r i) (hb : nB r i = true) (S : SB w g [.int .i64 20000]) : Calls Tryz.prog 75 #[(.agg #[.int .i64 3, .int .i64 0, .bool r.s, .slice A1 r.a.length c1, .slice D1 r.b.length d1, .bool i.s, .slice A2 i.a.length c2, .slice D2 i.b.length d2, .string ⟨#[]⟩, .slice none 0 0, .slice none 0 0]), .int .i64 1, .pointer (some ⟨g, 0, none⟩)] w fun e w' => e = .returned (.bool true) ∧ FarW g w w' := by
  have hgw := S.lt
  have SC := S.set 0 (.int .i64 19999)
  have B := bal (w.setCell ⟨g, 0, none⟩ (.int .i64 19999)) (.cells #[.int .i64 3, .int .i64 0, .bool r.s, .slice A1 r.a.length c1, .slice D1 r.b.length d1, .bool i.s, .slice A2 i.a.length c2, .slice D2 i.b.length d2, .string ⟨#[]⟩, .slice none 0 0, .slice none 0 0] 50)
  have zs : (w.setCell ⟨g, 0, none⟩ (.int .i64 19999)).heap.size = w.heap.size := by simp [World.setCell]
  have X1 := SB.new (w.setCell ⟨g, 0, none⟩ (.int .i64 19999)) [.int .i64 3, .int .i64 0, .bool r.s, .slice A1 r.a.length c1, .slice D1 r.b.length d1, .bool i.s, .slice A2 i.a.length c2, .slice D2 i.b.length d2, .string ⟨#[]⟩, .slice none 0 0, .slice none 0 0] 50
  rw [zs] at X1
  have F := ((FarW.refl g w).set 0 (.int .i64 19999)).nx B (by rw [zs]; omega)
  have S2 := SC.nx B
  have S1 := S.nx (bal w (.cells #[.int .i64 3, .int .i64 0, .bool r.s, .slice A1 r.a.length c1, .slice D1 r.b.length d1, .bool i.s, .slice A2 i.a.length c2, .slice D2 i.b.length d2, .string ⟨#[]⟩, .slice none 0 0, .slice none 0 0] 50))
  have i0 := X1.cell 0
  have i1 := X1.cell 1
  have i2 := X1.cell 2
  have i3 := X1.cell 3
  have i4 := X1.cell 4
  have i5 := X1.cell 5
  have i6 := X1.cell 6
  have i7 := X1.cell 7
  have i8 := X1.cell 8
  have i9 := X1.cell 9
  have i10 := X1.cell 10
  have s0 := S1.cell 0
  have sf := S1.frozen 0
  have s2 := S2.cell 0
  obtain ⟨w1, hw1⟩ : ∃ w1, w1 = (w.setCell ⟨g, 0, none⟩ (.int .i64 19999)).alloc (.cells #[.int .i64 3, .int .i64 0, .bool r.s, .slice A1 r.a.length c1, .slice D1 r.b.length d1, .bool i.s, .slice A2 i.a.length c2, .slice D2 i.b.length d2, .string ⟨#[]⟩, .slice none 0 0, .slice none 0 0] 50) := ⟨_, rfl⟩
  rw [← hw1] at F X1 S2
  have hVs : VN w1 w1.heap.size (.agg #[.bool r.s, .slice A1 r.a.length c1, .slice D1 r.b.length d1, .bool i.s, .slice A2 i.a.length c2, .slice D2 i.b.length d2]) r i := (hV.step F.below (Nat.le_refl g)).step (Below.refl _ _) (by have := S2.lt; omega)
  have hs := shape_num r i A1 D1 A2 D2 c1 d1 c2 d2 w1 hVs hb
  go_enter Tryz.func75, Tryz.ntmps75
  go_wp2_with fail
  refine wp_loop_rounds 1 ?_
  rw [rounds_succ]
  go_wp2_with fail
  rw [← hw1]
  clear hw1
  refine hs.mono ?_; rintro e w3 ⟨rfl, B3⟩
  clear i0 i1 i2 i3 i4 i5 i6 i7 i8 i9 i10
  clear s0 sf s2 hs
  replace X1 := X1.nx B3
  have i0 := X1.cell 0
  have i1 := X1.cell 1
  have i2 := X1.cell 2
  have i3 := X1.cell 3
  have i4 := X1.cell 4
  have i5 := X1.cell 5
  have i6 := X1.cell 6
  have i7 := X1.cell 7
  have i8 := X1.cell 8
  have i9 := X1.cell 9
  have i10 := X1.cell 10
  go_wp2_with fail
  refine wp_loop_rounds 1 ?_
  rw [rounds_succ]
  go_wp2_with fail
  go_ret
  exact ⟨rfl, F.nx B3 (by have := S2.lt; omega)⟩
set_option maxRecDepth 100000 in
set_option maxHeartbeats 4000000 in
theorem dsound_num (r i : Rw) (A1 D1 A2 D2 : Option Addr) (c1 d1 c2 d2 : Nat) (w : World) (hV : VN w w.heap.size (.agg #[.bool r.s, .slice A1 r.a.length c1, .slice D1 r.b.length d1, .bool i.s, .slice A2 i.a.length c2, .slice D2 i.b.length d2]) r i) (hb : nB r i = true) : Calls Tryz.prog 62 #[(.agg #[.int .i64 3, .int .i64 0, .bool r.s, .slice A1 r.a.length c1, .slice D1 r.b.length d1, .bool i.s, .slice A2 i.a.length c2, .slice D2 i.b.length d2, .string ⟨#[]⟩, .slice none 0 0, .slice none 0 0])] w fun e w' => e = .returned (.bool true) ∧ Below w.heap.size w w' := by
  have B := bal w (.cells #[.int .i64 3, .int .i64 0, .bool r.s, .slice A1 r.a.length c1, .slice D1 r.b.length d1, .bool i.s, .slice A2 i.a.length c2, .slice D2 i.b.length d2, .string ⟨#[]⟩, .slice none 0 0, .slice none 0 0] 50)
  have B2 := bal (w.alloc (.cells #[.int .i64 3, .int .i64 0, .bool r.s, .slice A1 r.a.length c1, .slice D1 r.b.length d1, .bool i.s, .slice A2 i.a.length c2, .slice D2 i.b.length d2, .string ⟨#[]⟩, .slice none 0 0, .slice none 0 0] 50)) (.cells #[.int .i64 20000] 3)
  have X := (SB.new w [.int .i64 3, .int .i64 0, .bool r.s, .slice A1 r.a.length c1, .slice D1 r.b.length d1, .bool i.s, .slice A2 i.a.length c2, .slice D2 i.b.length d2, .string ⟨#[]⟩, .slice none 0 0, .slice none 0 0] 50).nx B2
  have S := SB.new (w.alloc (.cells #[.int .i64 3, .int .i64 0, .bool r.s, .slice A1 r.a.length c1, .slice D1 r.b.length d1, .bool i.s, .slice A2 i.a.length c2, .slice D2 i.b.length d2, .string ⟨#[]⟩, .slice none 0 0, .slice none 0 0] 50)) [.int .i64 20000] 3
  have z1 : (w.alloc (.cells #[.int .i64 3, .int .i64 0, .bool r.s, .slice A1 r.a.length c1, .slice D1 r.b.length d1, .bool i.s, .slice A2 i.a.length c2, .slice D2 i.b.length d2, .string ⟨#[]⟩, .slice none 0 0, .slice none 0 0] 50)).heap.size = w.heap.size + 1 := by simp
  rw [z1] at S
  have hV2 : VN ((w.alloc (.cells #[.int .i64 3, .int .i64 0, .bool r.s, .slice A1 r.a.length c1, .slice D1 r.b.length d1, .bool i.s, .slice A2 i.a.length c2, .slice D2 i.b.length d2, .string ⟨#[]⟩, .slice none 0 0, .slice none 0 0] 50)).alloc (.cells #[.int .i64 20000] 3)) (w.heap.size + 1) (.agg #[.bool r.s, .slice A1 r.a.length c1, .slice D1 r.b.length d1, .bool i.s, .slice A2 i.a.length c2, .slice D2 i.b.length d2]) r i := hV.step (bt B B2) (by omega)
  have hs := sound_num r i A1 D1 A2 D2 c1 d1 c2 d2 (w.heap.size + 1) _ hV2 hb S
  have i0 := X.cell 0
  have i1 := X.cell 1
  have i2 := X.cell 2
  have i3 := X.cell 3
  have i4 := X.cell 4
  have i5 := X.cell 5
  have i6 := X.cell 6
  have i7 := X.cell 7
  have i8 := X.cell 8
  have i9 := X.cell 9
  have i10 := X.cell 10
  go_enter Tryz.func62, Tryz.ntmps62
  go_wp2_with fail
  refine hs.mono ?_; rintro e w3 ⟨rfl, F⟩
  go_wp2_with fail
  go_ret
  exact ⟨rfl, (bt B B2).trans (F.below.mono (by omega))⟩
set_option maxRecDepth 100000 in
set_option maxHeartbeats 4000000 in
/-- what the writer tells of a number -/
theorem wdatum_num (r i : Rw) (A1 D1 A2 D2 : Option Addr) (c1 d1 c2 d2 : Nat) (g : Nat) (b : Value) (T : List UInt8) (w : World) (hV : VN w w.heap.size (.agg #[.bool r.s, .slice A1 r.a.length c1, .slice D1 r.b.length d1, .bool i.s, .slice A2 i.a.length c2, .slice D2 i.b.length d2]) r i) (ht : textZ r i 10 = (T, 0)) (h0 : T ≠ []) (hl : T.length ≤ 100000) (S : w.heap[g]? = some (.cells #[.pointer none, .slice none 0 0, b] 104 (0, 0))) :
    Calls Tryz.prog 63 #[.pointer (some ⟨g, 0, none⟩), (.agg #[.int .i64 3, .int .i64 0, .bool r.s, .slice A1 r.a.length c1, .slice D1 r.b.length d1, .bool i.s, .slice A2 i.a.length c2, .slice D2 i.b.length d2, .string ⟨#[]⟩, .slice none 0 0, .slice none 0 0])] w fun e w' => e = .returned (.tuple #[]) ∧ (∃ h c, SB w' g [.pointer (some ⟨g, 0, none⟩), .slice (some ⟨h, 0, none⟩) T.length c, b] ∧ OB w' w.heap.size (some ⟨h, 0, none⟩) c T ∧ w.heap.size ≤ h) ∧ FarW g w w' := by
  have hgw : g < w.heap.size := (cells_of (cs := [.pointer none, .slice none 0 0, b]) S).lt
  have X := SB.new w [.int .i64 3, .int .i64 0, .bool r.s, .slice A1 r.a.length c1, .slice D1 r.b.length d1, .bool i.s, .slice A2 i.a.length c2, .slice D2 i.b.length d2, .string ⟨#[]⟩, .slice none 0 0, .slice none 0 0] 50
  have B := bal w (.cells #[.int .i64 3, .int .i64 0, .bool r.s, .slice A1 r.a.length c1, .slice D1 r.b.length d1, .bool i.s, .slice A2 i.a.length c2, .slice D2 i.b.length d2, .string ⟨#[]⟩, .slice none 0 0, .slice none 0 0] 50)
  have hx := etext_any (.agg #[.bool r.s, .slice A1 r.a.length c1, .slice D1 r.b.length d1, .bool i.s, .slice A2 i.a.length c2, .slice D2 i.b.length d2]) r i 10 _ (hV.st B)
  rw [ht] at hx
  obtain ⟨xs, hxs⟩ : ∃ x : ByteArray, x = ⟨T.toArray⟩ := ⟨_, rfl⟩
  have hT : xs.data.toList = T := by rw [hxs]
  have hTl : xs.size = T.length := by rw [← s_len, hT]
  have g1 : RetT = fun w t e w' => e = .returned (.tuple #[.string ⟨t.1.toArray⟩, .int .i64 t.2]) ∧ Below w.heap.size w w' := rfl
  rw [g1] at hx
  clear g1
  dsimp only at hx
  rw [← hxs] at hx
  have i0 := X.cell 0
  have i1 := X.cell 1
  have i2 := X.cell 2
  have i3 := X.cell 3
  have i4 := X.cell 4
  have i5 := X.cell 5
  have i6 := X.cell 6
  have i7 := X.cell 7
  have i8 := X.cell 8
  have i9 := X.cell 9
  have i10 := X.cell 10
  have hws := fun w3 (B3 : Below (w.alloc (.cells #[.int .i64 3, .int .i64 0, .bool r.s, .slice A1 r.a.length c1, .slice D1 r.b.length d1, .bool i.s, .slice A2 i.a.length c2, .slice D2 i.b.length d2, .string ⟨#[]⟩, .slice none 0 0, .slice none 0 0] 50)).heap.size (w.alloc (.cells #[.int .i64 3, .int .i64 0, .bool r.s, .slice A1 r.a.length c1, .slice D1 r.b.length d1, .bool i.s, .slice A2 i.a.length c2, .slice D2 i.b.length d2, .string ⟨#[]⟩, .slice none 0 0, .slice none 0 0] 50)) w3) => writestring_new g b xs w3 (((B3.block g (by have := B.size; omega)).trans (B.block g hgw)).trans S) (by rw [hTl]; intro h; exact h0 (List.eq_nil_of_length_eq_zero h)) (by omega)
  rw [hT, hTl] at hws
  clear hxs
  go_enter Tryz.func63, Tryz.ntmps63
  go_wp2_with fail
  refine hx.mono ?_; rintro e w3 ⟨rfl, B3⟩
  clear i0 i1 i2 i3 i4 i5 i6 i7 i8 i9 i10
  replace X := X.nx B3
  have i0 := X.cell 0
  have i1 := X.cell 1
  have i2 := X.cell 2
  have i3 := X.cell 3
  have i4 := X.cell 4
  have i5 := X.cell 5
  have i6 := X.cell 6
  have i7 := X.cell 7
  have i8 := X.cell 8
  have i9 := X.cell 9
  have i10 := X.cell 10
  go_wp2_with fail
  refine (hws _ B3).mono ?_; rintro e w4 ⟨rfl, ⟨h, c, S4, O4, hh⟩, F4⟩
  go_wp2_with fail
  go_end0
  have hz := (bt B B3).size
  exact ⟨rfl, ⟨h, c, S4, OL.base_le O4 hz, Nat.le_trans hz hh⟩, (FarW.of (bt B B3) (Nat.le_of_lt hgw)).trans F4⟩
end Go.Proofs.YtbgggepdlkbpoaaGreatDoor
