/- Walks: write.Write of a number; numbersWake. -/
import Derived.Test.YtbgggepdlkbpoaaGreatDoorWhB
namespace Go.Proofs.YtbgggepdlkbpoaaGreatDoor
open Go.RowKit

set_option maxRecDepth 100000 in
set_option maxHeartbeats 4000000 in
theorem tell_num (r i : Rw) (A1 D1 A2 D2 : Option Addr) (c1 d1 c2 d2 : Nat) (T : List UInt8) (w : World) (hV : VN w w.heap.size (.agg #[.bool r.s, .slice A1 r.a.length c1, .slice D1 r.b.length d1, .bool i.s, .slice A2 i.a.length c2, .slice D2 i.b.length d2]) r i) (hb : nB r i = true) (ht : textZ r i 10 = (T, 0)) (h0 : T ≠ []) (hl : T.length ≤ 100000) : Calls Tryz.prog 44 #[(.agg #[.int .i64 3, .int .i64 0, .bool r.s, .slice A1 r.a.length c1, .slice D1 r.b.length d1, .bool i.s, .slice A2 i.a.length c2, .slice D2 i.b.length d2, .string ⟨#[]⟩, .slice none 0 0, .slice none 0 0]), .bool true] w (RetT w (T, 0)) := by
  have X := SB.new w [.int .i64 3, .int .i64 0, .bool r.s, .slice A1 r.a.length c1, .slice D1 r.b.length d1, .bool i.s, .slice A2 i.a.length c2, .slice D2 i.b.length d2, .string ⟨#[]⟩, .slice none 0 0, .slice none 0 0] 50
  have B := bal w (.cells #[.int .i64 3, .int .i64 0, .bool r.s, .slice A1 r.a.length c1, .slice D1 r.b.length d1, .bool i.s, .slice A2 i.a.length c2, .slice D2 i.b.length d2, .string ⟨#[]⟩, .slice none 0 0, .slice none 0 0] 50)
  have hs := dsound_num r i A1 D1 A2 D2 c1 d1 c2 d2 _ (hV.st B) hb
  have i0 := X.cell 0
  have i1 := X.cell 1
  have i2 := X.cell 2
  have i3 := X.cell 3
  have i4 := X.cell 4
  have i5 := X.cell 5
  have i6 := X.cell 6
  have i7 := X.cell 7
  have i8 := X.cell 8
  have i9 := X.cell 9
  have i10 := X.cell 10
  go_enter Tryz.func44, Tryz.ntmps44
  go_wp2_with fail
  refine hs.mono ?_; rintro e w3 ⟨rfl, B3⟩
  clear i0 i1 i2 i3 i4 i5 i6 i7 i8 i9 i10
  clear hs
  replace X := X.nx B3
  replace B := bt B B3
  clear B3
  have Ba := bal w3 (.cells #[.pointer none, .slice none 0 0, .bool true] 104)
  have hg : (w3.alloc (.cells #[.pointer none, .slice none 0 0, .bool true] 104)).heap[w3.heap.size]? = some (.cells #[.pointer none, .slice none 0 0, .bool true] 104 (0, 0)) := heap_alloc_new w3 _
  have X2 := X.nx Ba
  have B2 := bt B Ba
  have hd := wdatum_num r i A1 D1 A2 D2 c1 d1 c2 d2 w3.heap.size (.bool true) T _ (hV.st B2) ht h0 hl hg
  have i0 := X2.cell 0
  have i1 := X2.cell 1
  have i2 := X2.cell 2
  have i3 := X2.cell 3
  have i4 := X2.cell 4
  have i5 := X2.cell 5
  have i6 := X2.cell 6
  have i7 := X2.cell 7
  have i8 := X2.cell 8
  have i9 := X2.cell 9
  have i10 := X2.cell 10
  go_wp2_with fail
  refine hd.mono ?_; rintro e w4 ⟨rfl, ⟨h, c, S4, O4, hh⟩, F4⟩
  clear i0 i1 i2 i3 i4 i5 i6 i7 i8 i9 i10
  have hz := B2.size
  have B4 := B2.trans (F4.below.mono (show w.heap.size ≤ w3.heap.size from B.size))
  have hst := string_told w3.heap.size h c T.length (.bool true) T _ w4 S4 rfl O4 h0 hh
  clear hd hg X X2 S4 O4
  go_wp2_with fail
  refine hst.mono ?_; rintro e w5 ⟨rfl, B5⟩
  go_wp2_with fail
  go_ret2
  exact ⟨rfl, B4.trans (B5.mono hz)⟩

set_option maxRecDepth 100000 in
set_option maxHeartbeats 4000000 in
theorem write_num (r i : Rw) (A1 D1 A2 D2 : Option Addr) (c1 d1 c2 d2 : Nat) (T : List UInt8) (w : World) (hV : VN w w.heap.size (.agg #[.bool r.s, .slice A1 r.a.length c1, .slice D1 r.b.length d1, .bool i.s, .slice A2 i.a.length c2, .slice D2 i.b.length d2]) r i) (hb : nB r i = true) (ht : textZ r i 10 = (T, 0)) (h0 : T ≠ []) (hl : T.length ≤ 100000) : Calls Tryz.prog 18 #[(.agg #[.int .i64 3, .int .i64 0, .bool r.s, .slice A1 r.a.length c1, .slice D1 r.b.length d1, .bool i.s, .slice A2 i.a.length c2, .slice D2 i.b.length d2, .string ⟨#[]⟩, .slice none 0 0, .slice none 0 0])] w (RetT w (T, 0)) := by
  have X := SB.new w [.int .i64 3, .int .i64 0, .bool r.s, .slice A1 r.a.length c1, .slice D1 r.b.length d1, .bool i.s, .slice A2 i.a.length c2, .slice D2 i.b.length d2, .string ⟨#[]⟩, .slice none 0 0, .slice none 0 0] 50
  have B := bal w (.cells #[.int .i64 3, .int .i64 0, .bool r.s, .slice A1 r.a.length c1, .slice D1 r.b.length d1, .bool i.s, .slice A2 i.a.length c2, .slice D2 i.b.length d2, .string ⟨#[]⟩, .slice none 0 0, .slice none 0 0] 50)
  have hs := tell_num r i A1 D1 A2 D2 c1 d1 c2 d2 T _ (hV.st B) hb ht h0 hl
  have i0 := X.cell 0
  have i1 := X.cell 1
  have i2 := X.cell 2
  have i3 := X.cell 3
  have i4 := X.cell 4
  have i5 := X.cell 5
  have i6 := X.cell 6
  have i7 := X.cell 7
  have i8 := X.cell 8
  have i9 := X.cell 9
  have i10 := X.cell 10
  go_enter Tryz.func18, Tryz.ntmps18
  go_wp2_with fail
  refine hs.mono ?_; rintro e w3 ⟨rfl, B3⟩
  go_wp2_with fail
  go_ret2
  exact ⟨rfl, bt B B3⟩
instance decRw : DecidableEq Rw := fun a b => match a, b with
  | ⟨s, x, y⟩, ⟨t, u, v⟩ => if h : s = t ∧ x = u ∧ y = v then .isTrue (by obtain ⟨rfl, rfl, rfl⟩ := h; rfl) else .isFalse (fun e => h (by cases e; exact ⟨rfl, rfl, rfl⟩))
theorem wake_facts : ∃ (r i : Rw), readZ [49, 50, 47, 56] 10 = (r, i, 0) ∧ nB r i = true ∧ textZ r i 10 = ([51, 47, 50], 0) := by
  have hr : qw (mkRat 3 2) ≤ 512 := by decide_cbv
  have h0 : qw (0 : Rat) ≤ 512 := by decide_cbv
  refine ⟨rwq (mkRat 3 2), rwq 0, ?_, nB_rwq hr h0, ?_⟩
  · unfold readZ
    rw [if_pos (by omega), show (10 : Int).toNat = 10 from rfl]
    unfold readQ
    rw [show preF 10 false false [49, 50, 47, 56] = some (10, [49, 50, 47, 56]) from rfl]
    dsimp only
    have hn : numP (isDr 10) (rdr 10) mkr (rwq 0) [49, 50, 47, 56] 0 = (rwq (mkRat 3 2), rwq 0, true, 0) := by
      decide_cbv
    rw [hn]
    dsimp only
    rw [if_neg (by simp), if_neg (by simp), if_neg (by simp), qv_rwq, qv_rwq, fitQ_ok hr h0]
  · have := textZ_ok (r := rwq (mkRat 3 2)) (i := rwq 0) (k := 10) (nB_rwq hr h0) (by unfold rdOk; omega)
    rw [show ((10 : Nat) : Int) = 10 from rfl] at this
    rw [this, qv_rwq, qv_rwq]
    have e : numT (txt 10) (mkRat 3 2) 0 = [51, 47, 50] := by decide_cbv
    rw [e]
set_option maxRecDepth 100000 in
set_option maxHeartbeats 4000000 in
theorem wake9_any (w : World) : Calls Tryz.prog 5 #[] w fun e w' => e = .returned (.bool true) ∧ Below w.heap.size w w' := by
  obtain ⟨r, i, hr, hb, ht⟩ := wake_facts
  have h1 := fun w => eread_any ⟨#[49, 50, 47, 56]⟩ 10 w (by decide)
  rw [show (⟨#[49, 50, 47, 56]⟩ : ByteArray).data.toList = [49, 50, 47, 56] from rfl, hr] at h1
  clear hr
  go_enter Tryz.func5, Tryz.ntmps5
  go_wp2_with fail
  refine (h1 _).mono ?_; rintro e w3 ⟨A1, c1, D1, d1, A2, c2, D2, d2, rfl, O1, O2, O3, O4, B3⟩
  dsimp only at O1 O2 O3 O4
  have L := bal w3 (.cells #[.bool r.s, .slice A1 r.a.length c1, .slice D1 r.b.length d1, .bool i.s, .slice A2 i.a.length c2, .slice D2 i.b.length d2] 26)
  have X := SB.new w3 [.bool r.s, .slice A1 r.a.length c1, .slice D1 r.b.length d1, .bool i.s, .slice A2 i.a.length c2, .slice D2 i.b.length d2] 26
  have hw := write_num r i A1 D1 A2 D2 c1 d1 c2 d2 [51, 47, 50] _ ⟨A1, c1, D1, d1, A2, c2, D2, d2, rfl, st O1.rw L, st O2.rw L, st O3.rw L, st O4.rw L⟩ hb ht (by simp) (by simp)
  have B := bt B3 L
  clear h1 hb ht O1 O2 O3 O4 L B3
  have i_0 := X.cell 0
  have i_1 := X.cell 1
  have i_2 := X.cell 2
  have i_3 := X.cell 3
  have i_4 := X.cell 4
  have i_5 := X.cell 5
  go_wp2_with fail
  refine hw.mono ?_; rintro e w4 ⟨rfl, B4⟩
  go_wp2_with fail
  go_ret
  exact ⟨rfl, bt B B4⟩
end Go.Proofs.YtbgggepdlkbpoaaGreatDoor
