/- Walks: Text of the reference, of any number. -/
import Derived.Test.YtkjfpaommbjgbaaTxB
namespace Go.Proofs.Ytkjfpaommbjgbaa
open Go.RowKit

set_option maxHeartbeats 4000000 in
theorem rrealT_any (V : Value) (r i : Rw) (w : World) (hV : VN w w.heap.size V r i) :
    Calls Try.prog 25 #[V] w fun e w' => e = .returned (.bool (decide (i.a.length = 0))) ∧ Below w.heap.size w w' := by
  obtain ⟨s1, a1, b1⟩ := r
  obtain ⟨s2, a2, b2⟩ := i
  obtain ⟨A1, c1, D1, d1, A2, c2, D2, d2, rfl, p1, p2, p3, p4⟩ := hV
  dsimp only at p1 p2 p3 p4 ⊢
  have sg := SB.new w [.bool s1, .slice A1 a1.length c1, .slice D1 b1.length d1, .bool s2, .slice A2 a2.length c2, .slice D2 b2.length d2] 26
  have B1 := bal w (.cells #[.bool s1, .slice A1 a1.length c1, .slice D1 b1.length d1, .bool s2, .slice A2 a2.length c2, .slice D2 b2.length d2] 26)
  have m1 := sg.cell 4
  generalize hm : a2.length = m at *
  clear hm p1 p2 p3 p4 sg
  go_enter Try.func25, Try.ntmps25
  by_cases h2 : m = 0
  · subst h2
    go_wp2_with fail
    go_ret
    exact ⟨by simp, B1⟩
  · have h3 : ((m : Int) == 0) = false := by simpa using h2
    go_wp2_with fail
    go_ret
    exact ⟨by simp [h2], B1⟩


set_option maxRecDepth 100000 in
set_option maxHeartbeats 4000000 in
theorem rtext3_bad (V : Value) (r i : Rw) (b : Int) (w : World) (hV : VN w w.heap.size V r i) (hb : nB r i = false) : Calls Try.prog 11 #[V, .int .i64 b] w (RetT w ([], 2)) := by
  obtain ⟨A1, c1, D1, d1, A2, c2, D2, d2, rfl, p1, p2, p3, p4⟩ := hV
  have HV : VN w w.heap.size (.agg #[.bool r.s, .slice A1 r.a.length c1, .slice D1 r.b.length d1, .bool i.s, .slice A2 i.a.length c2, .slice D2 i.b.length d2]) r i := ⟨A1, c1, D1, d1, A2, c2, D2, d2, rfl, p1, p2, p3, p4⟩
  have B := bal w (.cells #[.bool r.s, .slice A1 r.a.length c1, .slice D1 r.b.length d1, .bool i.s, .slice A2 i.a.length c2, .slice D2 i.b.length d2] 26)
  have X := SB.new w [.bool r.s, .slice A1 r.a.length c1, .slice D1 r.b.length d1, .bool i.s, .slice A2 i.a.length c2, .slice D2 i.b.length d2] 26
  replace HV := HV.st B
  have hs := fun V w' h => resound_any V r i w' h
  rw [hb] at hs
  clear hb p1 p2 p3 p4
  have m0 := X.cell 0
  have m1 := X.cell 1
  have m2 := X.cell 2
  have m3 := X.cell 3
  have m4 := X.cell 4
  have m5 := X.cell 5
  go_enter Try.func11, Try.ntmps11
  go_wp2_with fail
  refine (hs _ _ HV).mono ?_; rintro e w3 ⟨rfl, B3⟩
  go_wp2_with fail
  go_ret2
  exact ⟨rfl, bt B B3⟩

set_option maxRecDepth 100000 in
set_option maxHeartbeats 4000000 in
theorem rtext3_arg (V : Value) (r i : Rw) (b : Int) (w : World) (hV : VN w w.heap.size V r i) (hb : nB r i = true) (h : ¬ (b = 2 ∨ b = 8 ∨ b = 10 ∨ b = 16)) : Calls Try.prog 11 #[V, .int .i64 b] w (RetT w ([], 1)) := by
  obtain ⟨A1, c1, D1, d1, A2, c2, D2, d2, rfl, p1, p2, p3, p4⟩ := hV
  have hr := fun w => rradix_any b w
  rw [decide_eq_false h] at hr
  have HV : VN w w.heap.size (.agg #[.bool r.s, .slice A1 r.a.length c1, .slice D1 r.b.length d1, .bool i.s, .slice A2 i.a.length c2, .slice D2 i.b.length d2]) r i := ⟨A1, c1, D1, d1, A2, c2, D2, d2, rfl, p1, p2, p3, p4⟩
  have B := bal w (.cells #[.bool r.s, .slice A1 r.a.length c1, .slice D1 r.b.length d1, .bool i.s, .slice A2 i.a.length c2, .slice D2 i.b.length d2] 26)
  have X := SB.new w [.bool r.s, .slice A1 r.a.length c1, .slice D1 r.b.length d1, .bool i.s, .slice A2 i.a.length c2, .slice D2 i.b.length d2] 26
  replace HV := HV.st B
  have hs := fun V w' h => resound_any V r i w' h
  rw [hb] at hs
  clear hb p1 p2 p3 p4 h
  have m0 := X.cell 0
  have m1 := X.cell 1
  have m2 := X.cell 2
  have m3 := X.cell 3
  have m4 := X.cell 4
  have m5 := X.cell 5
  go_enter Try.func11, Try.ntmps11
  go_wp2_with fail
  refine (hs _ _ HV).mono ?_; rintro e w3 ⟨rfl, B3⟩
  go_wp2_with fail
  refine (hr _).mono ?_; rintro e w4 ⟨rfl, rfl⟩
  go_wp2_with fail
  go_ret2
  exact ⟨rfl, bt B B3⟩


set_option maxRecDepth 100000 in
set_option maxHeartbeats 8000000 in
theorem rtext3_real (V : Value) (p q : Rat) (r : Nat) (w : World) (hV : VN w w.heap.size V (rwq p) (rwq q)) (hp : qw p ≤ 512) (hq : qw q ≤ 512) (hr : rdOk r) (h0 : qt q = 0) :
    Calls Try.prog 11 #[V, .int .i64 (r : Int)] w (RetT w (ratT (txt r) p, 0)) := by
  obtain ⟨A1, c1, D1, d1, A2, c2, D2, d2, rfl, p1, p2, p3, p4⟩ := hV
  simp only [rwq] at p1 p2 p3 p4 ⊢
  have hr2 := fun w => rradix_any (r : Int) w
  rw [decide_eq_true (show (r : Int) = 2 ∨ (r : Int) = 8 ∨ (r : Int) = 10 ∨ (r : Int) = 16 by unfold rdOk at hr; omega)] at hr2
  have hb : nB (rwq p) (rwq q) = true := nB_rwq hp hq
  obtain ⟨sq, hsq⟩ : ∃ sq, qn q = sq := ⟨_, rfl⟩
  have hrw : rwq q = ⟨sq, digs (qt q), digs (qd q)⟩ := by unfold rwq; rw [hsq]
  rw [hrw] at hb
  skip
  rw [hsq]
  have hx : RQ w w.heap.size (.agg #[.bool (qn p), .slice A1 (digs (qt p)).length c1, .slice D1 (digs (qd p)).length d1]) p := ⟨A1, c1, D1, d1, rfl, p1, p2⟩
  have hR := fun w' (B : Below w.heap.size w w') => rratText_any _ p r w' (hx.st B) hp hr
  have HV : VN w w.heap.size (.agg #[.bool (qn p), .slice A1 (digs (qt p)).length c1, .slice D1 (digs (qd p)).length d1, .bool sq, .slice A2 (digs (qt q)).length c2, .slice D2 (digs (qd q)).length d2]) (rwq p) ⟨sq, digs (qt q), digs (qd q)⟩ := ⟨A1, c1, D1, d1, A2, c2, D2, d2, rfl, p1, p2, p3, p4⟩
  have B := bal w (.cells #[.bool (qn p), .slice A1 (digs (qt p)).length c1, .slice D1 (digs (qd p)).length d1, .bool sq, .slice A2 (digs (qt q)).length c2, .slice D2 (digs (qd q)).length d2] 26)
  have X := SB.new w [.bool (qn p), .slice A1 (digs (qt p)).length c1, .slice D1 (digs (qd p)).length d1, .bool sq, .slice A2 (digs (qt q)).length c2, .slice D2 (digs (qd q)).length d2] 26
  replace HV := HV.st B
  have hs := fun V w' h => resound_any V (rwq p) ⟨sq, digs (qt q), digs (qd q)⟩ w' h
  rw [hb] at hs
  have hl := fun V w' h => rrealT_any V (rwq p) ⟨sq, digs (qt q), digs (qd q)⟩ w' h
  dsimp only at hl
  rw [decide_eq_true (show (digs (qt q)).length = 0 by rw [h0, digs_zero]; rfl)] at hl
  generalize ratT (txt r) p = t at *
  clear hx hb hrw hsq h0 p1 p2 p3 p4 hp hq hr
  have m0 := X.cell 0
  have m1 := X.cell 1
  have m2 := X.cell 2
  have m3 := X.cell 3
  have m4 := X.cell 4
  have m5 := X.cell 5
  go_enter Try.func11, Try.ntmps11
  go_wp2_with fail
  refine (hs _ _ HV).mono ?_; rintro e w3 ⟨rfl, B3⟩
  clear m0 m1 m2 m3 m4 m5
  replace X := X.nx B3
  replace HV := HV.st B3
  replace B := bt B B3
  clear B3 hs
  go_wp2_with fail
  refine (hr2 _).mono ?_; rintro e w4 ⟨rfl, rfl⟩
  clear hr2
  have m0 := X.cell 0
  have m1 := X.cell 1
  have m2 := X.cell 2
  have m3 := X.cell 3
  have m4 := X.cell 4
  have m5 := X.cell 5
  go_wp2_with fail
  refine (hl _ _ HV).mono ?_; rintro e w5 ⟨rfl, B5⟩
  clear m0 m1 m2 m3 m4 m5
  replace X := X.nx B5
  replace HV := HV.st B5
  replace B := bt B B5
  clear B5 hl
  have m0 := X.cell 0
  have m1 := X.cell 1
  have m2 := X.cell 2
  have m3 := X.cell 3
  have m4 := X.cell 4
  have m5 := X.cell 5
  go_wp2_with fail
  refine (hR _ B).mono ?_; rintro e w6 ⟨rfl, B6⟩
  go_wp2_with fail
  go_ret2
  exact ⟨rfl, bt B B6⟩


set_option maxRecDepth 100000 in
set_option maxHeartbeats 16000000 in
theorem rtext3_cx (V : Value) (p q : Rat) (r : Nat) (w : World) (hV : VN w w.heap.size V (rwq p) (rwq q)) (hp : qw p ≤ 512) (hq : qw q ≤ 512) (hr : rdOk r) (h0 : ¬ qt q = 0) :
    Calls Try.prog 11 #[V, .int .i64 (r : Int)] w (RetT w (numT (txt r) p q, 0)) := by
  obtain ⟨A1, c1, D1, d1, A2, c2, D2, d2, rfl, p1, p2, p3, p4⟩ := hV
  simp only [rwq] at p1 p2 p3 p4 ⊢
  have hr2 := fun w => rradix_any (r : Int) w
  rw [decide_eq_true (show (r : Int) = 2 ∨ (r : Int) = 8 ∨ (r : Int) = 10 ∨ (r : Int) = 16 by unfold rdOk at hr; omega)] at hr2
  have hb : nB (rwq p) (rwq q) = true := nB_rwq hp hq
  obtain ⟨sq, hsq⟩ : ∃ sq, qn q = sq := ⟨_, rfl⟩
  have hrw : rwq q = ⟨sq, digs (qt q), digs (qd q)⟩ := by unfold rwq; rw [hsq]
  rw [hrw] at hb
  skip
  rw [hsq]
  have hx : RQ w w.heap.size (.agg #[.bool (qn p), .slice A1 (digs (qt p)).length c1, .slice D1 (digs (qd p)).length d1]) p := ⟨A1, c1, D1, d1, rfl, p1, p2⟩
  have hR := fun w' (B : Below w.heap.size w w') => rratText_any _ p r w' (hx.st B) hp hr
  have hy : RQ w w.heap.size (.agg #[.bool sq, .slice A2 (digs (qt q)).length c2, .slice D2 (digs (qd q)).length d2]) q := by rw [← hsq]; exact ⟨A2, c2, D2, d2, rfl, p3, p4⟩
  have hI := fun w' (B : Below w.heap.size w w') => rratText_any _ q r w' (hy.st B) hq hr
  have HV : VN w w.heap.size (.agg #[.bool (qn p), .slice A1 (digs (qt p)).length c1, .slice D1 (digs (qd p)).length d1, .bool sq, .slice A2 (digs (qt q)).length c2, .slice D2 (digs (qd q)).length d2]) (rwq p) ⟨sq, digs (qt q), digs (qd q)⟩ := ⟨A1, c1, D1, d1, A2, c2, D2, d2, rfl, p1, p2, p3, p4⟩
  have B := bal w (.cells #[.bool (qn p), .slice A1 (digs (qt p)).length c1, .slice D1 (digs (qd p)).length d1, .bool sq, .slice A2 (digs (qt q)).length c2, .slice D2 (digs (qd q)).length d2] 26)
  have X := SB.new w [.bool (qn p), .slice A1 (digs (qt p)).length c1, .slice D1 (digs (qd p)).length d1, .bool sq, .slice A2 (digs (qt q)).length c2, .slice D2 (digs (qd q)).length d2] 26
  replace HV := HV.st B
  have hs := fun V w' h => resound_any V (rwq p) ⟨sq, digs (qt q), digs (qd q)⟩ w' h
  rw [hb] at hs
  have hl := fun V w' h => rrealT_any V (rwq p) ⟨sq, digs (qt q), digs (qd q)⟩ w' h
  dsimp only at hl
  rw [decide_eq_false (show ¬ (digs (qt q)).length = 0 by exact fun h => h0 (digs_len0.1 h))] at hl
  have lR := ratT_len hr hp
  have lI := ratT_len hr hq
  have hN : numT (txt r) p q = (if qt p = 0 then [] else ratT (txt r) p) ++ (imR (txt r) q ++ [105]) := by
    unfold numT
    rw [if_neg h0, ← imR_eq]
  obtain ⟨T, hT⟩ : ∃ T, numT (txt r) p q = T := ⟨_, rfl⟩
  rw [hT] at hN ⊢
  clear hT
  obtain ⟨xr, hxr⟩ : ∃ x : ByteArray, x = ⟨(ratT (txt r) p).toArray⟩ := ⟨_, rfl⟩
  obtain ⟨xi, hxi⟩ : ∃ x : ByteArray, x = ⟨(ratT (txt r) q).toArray⟩ := ⟨_, rfl⟩
  rw [← hxr] at hR
  rw [← hxi] at hI
  replace hxi := Lib.hid hxi
  have fs_one : fsB sq (digs (qt q)) (digs (qd q)) false [1] [1] = decide (q = 1) := by rw [← hsq]; have := fsB_q (p := q) (q := 1); rwa [show qn 1 = false from rfl, show qt 1 = 1 from rfl, show qd 1 = 1 from rfl, digs_one1] at this
  have fs_mone : fsB sq (digs (qt q)) (digs (qd q)) true [1] [1] = decide (q = -1) := by rw [← hsq]; have := fsB_q (p := q) (q := -1); rwa [show qn (-1) = true from rfl, show qt (-1) = 1 from rfl, show qd (-1) = 1 from rfl, digs_one1] at this
  replace fs_one := Lib.hid fs_one
  replace fs_mone := Lib.hid fs_mone
  replace hsq := Lib.hid hsq
  have hyv : VR w w.heap.size (.agg #[.bool sq, .slice A2 (digs (qt q)).length c2, .slice D2 (digs (qd q)).length d2]) sq (digs (qt q)) (digs (qd q)) := ⟨A2, c2, D2, d2, rfl, p3, p4⟩
  clear hx hb hrw p1 p2 p3 p4 hp hq h0
  by_cases h1 : qt p = 0
  · replace hN := Lib.hid (show T = [] ++ (imR (txt r) q ++ [105]) by rw [hN, if_pos h1])
    have tp : decide (0 < (digs (qt p)).length) = false := decide_eq_false (by have := digs_len0 (n := qt p); omega)
    have lS : ([] : List UInt8).length ≤ 40000 := by simp
    clear hR hxr lR h1
    have m0 := X.cell 0
    have m1 := X.cell 1
    have m2 := X.cell 2
    have m3 := X.cell 3
    have m4 := X.cell 4
    have m5 := X.cell 5
    go_enter Try.func11, Try.ntmps11
    go_wp2_with fail
    refine (hs _ _ HV).mono ?_; rintro e w3 ⟨rfl, B3⟩
    clear m0 m1 m2 m3 m4 m5
    replace X := X.nx B3
    replace HV := HV.st B3
    replace B := bt B B3
    clear B3 hs
    go_wp2_with fail
    refine (hr2 _).mono ?_; rintro e w4 ⟨rfl, rfl⟩
    clear hr2
    have m0 := X.cell 0
    have m1 := X.cell 1
    have m2 := X.cell 2
    have m3 := X.cell 3
    have m4 := X.cell 4
    have m5 := X.cell 5
    go_wp2_with fail
    refine (hl _ _ HV).mono ?_; rintro e w5 ⟨rfl, B5⟩
    clear m0 m1 m2 m3 m4 m5
    replace X := X.nx B5
    replace HV := HV.st B5
    replace B := bt B B5
    clear B5 hl
    have c0_ := X.cell 0
    have c1_ := X.cell 1
    have c2_ := X.cell 2
    have c3_ := X.cell 3
    have c4_ := X.cell 4
    have c5_ := X.cell 5
    have Ba := bal w5 (.cells #[.int .u32 (1 : Int)] 52)
    have Bb := bal (w5.alloc (.cells #[.int .u32 (1 : Int)] 52)) (.cells #[.int .u32 (1 : Int)] 52)
    have Bc := bal ((w5.alloc (.cells #[.int .u32 (1 : Int)] 52)).alloc (.cells #[.int .u32 (1 : Int)] 52)) (.cells #[.bool false, .slice (some ⟨w5.heap.size, 0, none⟩) 1 1, .slice (some ⟨w5.heap.size + 1, 0, none⟩) 1 1] 24)
    have za : (w5.alloc (.cells #[.int .u32 (1 : Int)] 52)).heap.size = w5.heap.size + 1 := by simp
    have zb : ((w5.alloc (.cells #[.int .u32 (1 : Int)] 52)).alloc (.cells #[.int .u32 (1 : Int)] 52)).heap.size = w5.heap.size + 2 := by simp
    have X7 := SB.new ((w5.alloc (.cells #[.int .u32 (1 : Int)] 52)).alloc (.cells #[.int .u32 (1 : Int)] 52)) [.bool false, .slice (some ⟨w5.heap.size, 0, none⟩) 1 1, .slice (some ⟨w5.heap.size + 1, 0, none⟩) 1 1] 24
    rw [zb] at X7
    have o1 := OW.lit w5 [1] (by simp) (by rw [← digs_one1]; exact B32_digs 1)
    have o2 := OW.lit (w5.alloc (.cells #[.int .u32 (1 : Int)] 52)) [1] (by simp) (by rw [← digs_one1]; exact B32_digs 1)
    rw [za] at o2
    have o1 : OW (w5.alloc (.cells #[.int .u32 (1 : Int)] 52)) w5.heap.size (some ⟨w5.heap.size, 0, none⟩) 1 [1] := o1
    have o2 : OW ((w5.alloc (.cells #[.int .u32 (1 : Int)] 52)).alloc (.cells #[.int .u32 (1 : Int)] 52)) (w5.heap.size + 1) (some ⟨w5.heap.size + 1, 0, none⟩) 1 [1] := o2
    replace o1 := (o1.below Bb (Nat.le_refl _)).below Bc (Nat.le_refl _)
    replace o2 := o2.below Bc (Nat.le_refl _)
    replace X := ((X.nx Ba).nx Bb).nx Bc
    have Bx := bt (bt Ba Bb) Bc
    replace B := bt B Bx
    clear Ba Bb Bc Bx za zb
    obtain ⟨g7, hg7⟩ : ∃ g7, w5.heap.size + 2 = g7 := ⟨_, rfl⟩
    rw [hg7] at X7
    have m0 := X.cell 0
    have m1 := X.cell 1
    have m2 := X.cell 2
    have m3 := X.cell 3
    have m4 := X.cell 4
    have m5 := X.cell 5
    have n0 := X7.cell 0
    have n1 := X7.cell 1
    have n2 := X7.cell 2
    obtain ⟨W, hW⟩ : ∃ W, W = (((w5.alloc (.cells #[.int .u32 (1 : Int)] 52)).alloc (.cells #[.int .u32 (1 : Int)] 52)).alloc (.cells #[.bool false, .slice (some ⟨w5.heap.size, 0, none⟩) 1 1, .slice (some ⟨w5.heap.size + 1, 0, none⟩) 1 1] 24)) := ⟨_, rfl⟩
    rw [← hW] at X7 o1 o2 X B
    go_wp2_with fail
    rw [← hW]
    have v1 : VR W W.heap.size (.agg #[.bool false, .slice (some ⟨w5.heap.size, 0, none⟩) 1 1, .slice (some ⟨w5.heap.size + 1, 0, none⟩) 1 1]) false [1] [1] := ⟨_, _, _, _, rfl, o1.rw, o2.rw⟩
    have hS1 := ratSame_any _ _ _ _ _ _ _ _ W (hyv.st B) v1
    rw [fs_one.out] at hS1
    refine hS1.mono ?_; rintro e w7 ⟨rfl, B7⟩
    clear m0 m1 m2 m3 m4 m5
    clear n0 n1 n2 hS1
    have hbo := B
    replace X := X.nx B7
    replace X7 := X7.nx B7
    replace B := bt B B7
    by_cases k1 : q = 1
    · rw [decide_eq_true k1]
      have hi : imR (txt r) q = [43] := by unfold imR; rw [if_pos k1]
      have HE := Lib.hid (show T = ([] ++ [43]) ++ [105] by rw [hN.out, hi]; simp)
      obtain ⟨zb, hzb⟩ : ∃ x : ByteArray, x = ⟨T.toArray⟩ := ⟨_, rfl⟩
      rw [HE.out] at hzb
      obtain ⟨ub, hub⟩ : ∃ x : ByteArray, x = ⟨([] ++ [43] : List UInt8).toArray⟩ := ⟨_, rfl⟩
      have a1 := fun w => str_add (a := ⟨#[]⟩) (x := []) rfl (b := ⟨#[43]⟩) (y := [43]) rfl hub (by have := lS; simp only [List.length_cons, List.length_nil]; omega) w
      have a2 := fun w => str_add (b := ⟨#[105]⟩) (y := [105]) hub rfl hzb (by have := lS; have := lI; simp only [List.length_append, List.length_cons, List.length_nil]; omega) w
      replace hzb := Lib.hid hzb
      clear hi hub hN  hxi lS lI k1 hsq
      go_wp2_with fail
      go_ret2
      rw [hzb.out, ← HE.out]
      exact ⟨rfl, B⟩
    · rw [decide_eq_false k1]
      go_wp2_with fail
      replace X := X.dr
      replace X7 := X7.dr
      replace B : Below w.heap.size w w7.drew := bdN B 1
      have v2 : RW w7.drew w7.drew.heap.size (some ⟨w5.heap.size, 0, none⟩) 1 [1] := st o1.rw (bdN B7 1)
      have v3 : RW w7.drew w7.drew.heap.size (some ⟨w5.heap.size + 1, 0, none⟩) 1 [1] := st o2.rw (bdN B7 1)
      clear B7
      refine AnyW.regionQ (fun _ => false) 6 (fun w' => w'.cell? ⟨w.heap.size, 3, none⟩ = some (.bool sq) ∧ w'.cell? ⟨w.heap.size, 4, none⟩ = some (.slice A2 (digs (qt q)).length c2) ∧ w'.cell? ⟨w.heap.size, 5, none⟩ = some (.slice D2 (digs (qd q)).length d2) ∧ w'.cell? ⟨g7, 0, none⟩ = some (.bool false) ∧ w'.cell? ⟨g7, 1, none⟩ = some (.slice (some ⟨w5.heap.size, 0, none⟩) 1 1) ∧ w'.cell? ⟨g7, 2, none⟩ = some (.slice (some ⟨w5.heap.size + 1, 0, none⟩) 1 1)) rfl (by kernel_rfl) (by kernel_rfl) (by (repeat (with_reducible (first | refine quiet_then ?_ | refine quiet_block ?_))); exact quiet_body) ⟨(X.cell 3), (X.cell 4), (X.cell 5), (X7.cell 0), (X7.cell 1), (X7.cell 2)⟩ (fun Q' hQK hq hns hHeld => ?_)
      generalize w7.drew = wd at *
      refine AnyW.nextT (i := 0) (v := ?_) hq hns (.inr hHeld) rfl rfl (by kernel_rfl) (Or.inl ⟨by rfl, ?_⟩) ?_
      rotate_left
      · intro w' _; go_simp <;> with_reducible rfl
      try simp only [List.setIfInBounds_toArray, List.set_cons_zero, List.set_cons_succ]
      refine AnyW.next (i := 1) (v := ?_) hq hns hHeld rfl rfl (by kernel_rfl) (Or.inl ⟨by rfl, ?_⟩) ?_
      rotate_left
      · intro w' hSw; (try dsimp only at hSw); go_simp <;> with_reducible rfl
      try simp only [List.setIfInBounds_toArray, List.set_cons_zero, List.set_cons_succ]
      refine AnyW.next (i := 2) (v := ?_) hq hns hHeld rfl rfl (by kernel_rfl) (Or.inl ⟨by rfl, ?_⟩) ?_
      rotate_left
      · intro w' hSw; (try dsimp only at hSw); go_simp <;> with_reducible rfl
      try simp only [List.setIfInBounds_toArray, List.set_cons_zero, List.set_cons_succ]
      refine AnyW.one 3 (by kernel_rfl) rfl (fun K' hK => ?_)
      go_simp
      have hm := rminus_raw false (some ⟨w5.heap.size, 0, none⟩) (some ⟨w5.heap.size + 1, 0, none⟩) 1 1 1 1 wd
      rw [show (!false && decide (0 < 1)) = true from rfl] at hm
      refine hm.mono ?_; rintro e' wm ⟨rfl, BX⟩
      clear hm
      go_wp2_with fail
      replace X := X.nx BX
      replace X7 := X7.nx BX
      replace B := bt B BX
      have v4 : VR wm wm.heap.size (.agg #[.bool true, .slice (some ⟨w5.heap.size, 0, none⟩) 1 1, .slice (some ⟨w5.heap.size + 1, 0, none⟩) 1 1]) true [1] [1] := ⟨_, _, _, _, rfl, st v2 BX, st v3 BX⟩
      clear BX v2 v3
      refine hK.out _ _ (.inr ⟨(X.cell 3), (X.cell 4), (X.cell 5), (X7.cell 0), (X7.cell 1), (X7.cell 2)⟩) (fun hG => ?_)
      have hHeld := hG.resolve_left (notGone.spec (by rfl))
      clear hK K' hG
      try simp only [List.setIfInBounds_toArray, List.set_cons_zero, List.set_cons_succ]
      refine AnyW.one 4 (by kernel_rfl) rfl (fun K' hK => ?_)
      go_simp
      have hS2 := ratSame_any _ _ _ _ _ _ _ _ wm (hyv.st B) v4
      rw [fs_mone.out] at hS2
      refine hS2.mono ?_; rintro e' wn ⟨rfl, BX⟩
      clear hS2 v4
      go_wp2_with fail
      replace X := X.nx BX
      replace X7 := X7.nx BX
      replace B := bt B BX
      clear BX
      refine hK.out _ _ (.inr ⟨(X.cell 3), (X.cell 4), (X.cell 5), (X7.cell 0), (X7.cell 1), (X7.cell 2)⟩) (fun hG => ?_)
      have hHeld := hG.resolve_left (notGone.spec (by rfl))
      clear hK K' hG
      try simp only [List.setIfInBounds_toArray, List.set_cons_zero, List.set_cons_succ]
      refine AnyW.nextT (i := 5) (v := ?_) hq hns (.inr hHeld) rfl rfl (by kernel_rfl) (Or.inl ⟨by rfl, ?_⟩) ?_
      rotate_left
      · intro w' _; go_simp <;> with_reducible rfl
      try simp only [List.setIfInBounds_toArray, List.set_cons_zero, List.set_cons_succ]
      refine AnyW.done (by kernel_rfl) (hQK.out _ _ ?_)
      clear hQK hq hns hHeld
      by_cases k2 : q = -1
      · rw [decide_eq_true k2]
        have hi : imR (txt r) q = [45] := by unfold imR; rw [if_neg k1, if_pos k2]
        have HE := Lib.hid (show T = ([] ++ [45]) ++ [105] by rw [hN.out, hi]; simp)
        obtain ⟨zb, hzb⟩ : ∃ x : ByteArray, x = ⟨T.toArray⟩ := ⟨_, rfl⟩
        rw [HE.out] at hzb
        obtain ⟨ub, hub⟩ : ∃ x : ByteArray, x = ⟨([] ++ [45] : List UInt8).toArray⟩ := ⟨_, rfl⟩
        have a1 := fun w => str_add (a := ⟨#[]⟩) (x := []) rfl (b := ⟨#[45]⟩) (y := [45]) rfl hub (by have := lS; simp only [List.length_cons, List.length_nil]; omega) w
        have a2 := fun w => str_add (b := ⟨#[105]⟩) (y := [105]) hub rfl hzb (by have := lS; have := lI; simp only [List.length_append, List.length_cons, List.length_nil]; omega) w
        replace hzb := Lib.hid hzb
        clear hi hub hN  hxi lS lI k1 hsq
        go_wp2_with fail
        go_ret2
        rw [hzb.out, ← HE.out]
        exact ⟨rfl, B⟩
      · rw [decide_eq_false k2]
        have m0 := X.cell 0
        have m1 := X.cell 1
        have m2 := X.cell 2
        have m3 := X.cell 3
        have m4 := X.cell 4
        have m5 := X.cell 5
        cases sq
        · have hi : imR (txt r) q = 43 :: ratT (txt r) q := by unfold imR; rw [if_neg k1, if_neg k2, if_neg (by rw [hsq.out]; simp)]
          have HE := Lib.hid (show T = ([] ++ (43 :: ratT (txt r) q)) ++ [105] by rw [hN.out, hi]; simp)
          obtain ⟨zb, hzb⟩ : ∃ x : ByteArray, x = ⟨T.toArray⟩ := ⟨_, rfl⟩
          rw [HE.out] at hzb
          obtain ⟨ub, hub⟩ : ∃ x : ByteArray, x = ⟨([] ++ (43 :: ratT (txt r) q) : List UInt8).toArray⟩ := ⟨_, rfl⟩
          obtain ⟨xp, hxp⟩ : ∃ x : ByteArray, x = ⟨(43 :: ratT (txt r) q).toArray⟩ := ⟨_, rfl⟩
          have a0 := fun w => str_add (a := ⟨#[43]⟩) (x := [43]) rfl hxi.out hxp (by have := lI; simp only [List.length_cons, List.length_nil]; omega) w
          have a1 := fun w => str_add (a := ⟨#[]⟩) (x := []) rfl hxp hub (by have := lS; have := lI; simp only [List.length_cons]; omega) w
          have a2 := fun w => str_add (b := ⟨#[105]⟩) (y := [105]) hub rfl hzb (by have := lS; have := lI; simp only [List.length_append, List.length_cons, List.length_nil]; omega) w
          replace hzb := Lib.hid hzb
          clear hi hub hN  hxi lS lI k1 hsq hxp
          go_wp2_with fail
          refine (hI _ B).mono ?_; rintro e w8 ⟨rfl, B8⟩
          clear m0 m1 m2 m3 m4 m5
          go_wp2_with fail
          go_ret2
          rw [hzb.out, ← HE.out]
          exact ⟨rfl, bt B B8⟩
        · have hi : imR (txt r) q = ratT (txt r) q := by unfold imR; rw [if_neg k1, if_neg k2, if_pos hsq.out]
          have HE := Lib.hid (show T = ([] ++ ratT (txt r) q) ++ [105] by rw [hN.out, hi]; simp)
          obtain ⟨zb, hzb⟩ : ∃ x : ByteArray, x = ⟨T.toArray⟩ := ⟨_, rfl⟩
          rw [HE.out] at hzb
          obtain ⟨ub, hub⟩ : ∃ x : ByteArray, x = ⟨([] ++ ratT (txt r) q : List UInt8).toArray⟩ := ⟨_, rfl⟩
          have a1 := fun w => str_add (a := ⟨#[]⟩) (x := []) rfl hxi.out hub (by have := lS; have := lI; omega) w
          have a2 := fun w => str_add (b := ⟨#[105]⟩) (y := [105]) hub rfl hzb (by have := lS; have := lI; simp only [List.length_append, List.length_cons, List.length_nil]; omega) w
          replace hzb := Lib.hid hzb
          clear hi hub hN  hxi lS lI k1 hsq
          go_wp2_with fail
          refine (hI _ B).mono ?_; rintro e w8 ⟨rfl, B8⟩
          clear m0 m1 m2 m3 m4 m5
          go_wp2_with fail
          go_ret2
          rw [hzb.out, ← HE.out]
          exact ⟨rfl, bt B B8⟩
  · replace hN := Lib.hid (show T = ratT (txt r) p ++ (imR (txt r) q ++ [105]) by rw [hN, if_neg h1])
    have tp : decide (0 < (digs (qt p)).length) = true := decide_eq_true (by have := digs_len0 (n := qt p); omega)
    have hs0 := Lib.hid hxr
    have lS := lR
    clear hxr lR h1
    have m0 := X.cell 0
    have m1 := X.cell 1
    have m2 := X.cell 2
    have m3 := X.cell 3
    have m4 := X.cell 4
    have m5 := X.cell 5
    go_enter Try.func11, Try.ntmps11
    go_wp2_with fail
    refine (hs _ _ HV).mono ?_; rintro e w3 ⟨rfl, B3⟩
    clear m0 m1 m2 m3 m4 m5
    replace X := X.nx B3
    replace HV := HV.st B3
    replace B := bt B B3
    clear B3 hs
    go_wp2_with fail
    refine (hr2 _).mono ?_; rintro e w4 ⟨rfl, rfl⟩
    clear hr2
    have m0 := X.cell 0
    have m1 := X.cell 1
    have m2 := X.cell 2
    have m3 := X.cell 3
    have m4 := X.cell 4
    have m5 := X.cell 5
    go_wp2_with fail
    refine (hl _ _ HV).mono ?_; rintro e w5 ⟨rfl, B5⟩
    clear m0 m1 m2 m3 m4 m5
    replace X := X.nx B5
    replace HV := HV.st B5
    replace B := bt B B5
    clear B5 hl
    have m0 := X.cell 0
    have m1 := X.cell 1
    have m2 := X.cell 2
    have m3 := X.cell 3
    have m4 := X.cell 4
    have m5 := X.cell 5
    go_wp2_with fail
    refine (hR _ B).mono ?_; rintro e w6 ⟨rfl, B6⟩
    clear m0 m1 m2 m3 m4 m5
    replace X := X.nx B6
    replace B := bt B B6
    clear B6 hR HV
    have Ba := bal w6 (.cells #[.int .u32 (1 : Int)] 52)
    have Bb := bal (w6.alloc (.cells #[.int .u32 (1 : Int)] 52)) (.cells #[.int .u32 (1 : Int)] 52)
    have Bc := bal ((w6.alloc (.cells #[.int .u32 (1 : Int)] 52)).alloc (.cells #[.int .u32 (1 : Int)] 52)) (.cells #[.bool false, .slice (some ⟨w6.heap.size, 0, none⟩) 1 1, .slice (some ⟨w6.heap.size + 1, 0, none⟩) 1 1] 24)
    have za : (w6.alloc (.cells #[.int .u32 (1 : Int)] 52)).heap.size = w6.heap.size + 1 := by simp
    have zb : ((w6.alloc (.cells #[.int .u32 (1 : Int)] 52)).alloc (.cells #[.int .u32 (1 : Int)] 52)).heap.size = w6.heap.size + 2 := by simp
    have X7 := SB.new ((w6.alloc (.cells #[.int .u32 (1 : Int)] 52)).alloc (.cells #[.int .u32 (1 : Int)] 52)) [.bool false, .slice (some ⟨w6.heap.size, 0, none⟩) 1 1, .slice (some ⟨w6.heap.size + 1, 0, none⟩) 1 1] 24
    rw [zb] at X7
    have o1 := OW.lit w6 [1] (by simp) (by rw [← digs_one1]; exact B32_digs 1)
    have o2 := OW.lit (w6.alloc (.cells #[.int .u32 (1 : Int)] 52)) [1] (by simp) (by rw [← digs_one1]; exact B32_digs 1)
    rw [za] at o2
    have o1 : OW (w6.alloc (.cells #[.int .u32 (1 : Int)] 52)) w6.heap.size (some ⟨w6.heap.size, 0, none⟩) 1 [1] := o1
    have o2 : OW ((w6.alloc (.cells #[.int .u32 (1 : Int)] 52)).alloc (.cells #[.int .u32 (1 : Int)] 52)) (w6.heap.size + 1) (some ⟨w6.heap.size + 1, 0, none⟩) 1 [1] := o2
    replace o1 := (o1.below Bb (Nat.le_refl _)).below Bc (Nat.le_refl _)
    replace o2 := o2.below Bc (Nat.le_refl _)
    replace X := ((X.nx Ba).nx Bb).nx Bc
    have Bx := bt (bt Ba Bb) Bc
    replace B := bt B Bx
    clear Ba Bb Bc Bx za zb
    obtain ⟨g7, hg7⟩ : ∃ g7, w6.heap.size + 2 = g7 := ⟨_, rfl⟩
    rw [hg7] at X7
    have m0 := X.cell 0
    have m1 := X.cell 1
    have m2 := X.cell 2
    have m3 := X.cell 3
    have m4 := X.cell 4
    have m5 := X.cell 5
    have n0 := X7.cell 0
    have n1 := X7.cell 1
    have n2 := X7.cell 2
    obtain ⟨W, hW⟩ : ∃ W, W = (((w6.alloc (.cells #[.int .u32 (1 : Int)] 52)).alloc (.cells #[.int .u32 (1 : Int)] 52)).alloc (.cells #[.bool false, .slice (some ⟨w6.heap.size, 0, none⟩) 1 1, .slice (some ⟨w6.heap.size + 1, 0, none⟩) 1 1] 24)) := ⟨_, rfl⟩
    rw [← hW] at X7 o1 o2 X B
    go_wp2_with fail
    rw [← hW]
    have v1 : VR W W.heap.size (.agg #[.bool false, .slice (some ⟨w6.heap.size, 0, none⟩) 1 1, .slice (some ⟨w6.heap.size + 1, 0, none⟩) 1 1]) false [1] [1] := ⟨_, _, _, _, rfl, o1.rw, o2.rw⟩
    have hS1 := ratSame_any _ _ _ _ _ _ _ _ W (hyv.st B) v1
    rw [fs_one.out] at hS1
    refine hS1.mono ?_; rintro e w7 ⟨rfl, B7⟩
    clear m0 m1 m2 m3 m4 m5
    clear n0 n1 n2 hS1
    have hbo := B
    replace X := X.nx B7
    replace X7 := X7.nx B7
    replace B := bt B B7
    by_cases k1 : q = 1
    · rw [decide_eq_true k1]
      have hi : imR (txt r) q = [43] := by unfold imR; rw [if_pos k1]
      have HE := Lib.hid (show T = (ratT (txt r) p ++ [43]) ++ [105] by rw [hN.out, hi]; simp)
      obtain ⟨zb, hzb⟩ : ∃ x : ByteArray, x = ⟨T.toArray⟩ := ⟨_, rfl⟩
      rw [HE.out] at hzb
      obtain ⟨ub, hub⟩ : ∃ x : ByteArray, x = ⟨(ratT (txt r) p ++ [43] : List UInt8).toArray⟩ := ⟨_, rfl⟩
      have a1 := fun w => str_add hs0.out (b := ⟨#[43]⟩) (y := [43]) rfl hub (by have := lS; simp only [List.length_cons, List.length_nil]; omega) w
      have a2 := fun w => str_add (b := ⟨#[105]⟩) (y := [105]) hub rfl hzb (by have := lS; have := lI; simp only [List.length_append, List.length_cons, List.length_nil]; omega) w
      replace hzb := Lib.hid hzb
      clear hi hub hN hs0 hxi lS lI k1 hsq
      go_wp2_with fail
      go_ret2
      rw [hzb.out, ← HE.out]
      exact ⟨rfl, B⟩
    · rw [decide_eq_false k1]
      go_wp2_with fail
      replace X := X.dr
      replace X7 := X7.dr
      replace B : Below w.heap.size w w7.drew := bdN B 1
      have v2 : RW w7.drew w7.drew.heap.size (some ⟨w6.heap.size, 0, none⟩) 1 [1] := st o1.rw (bdN B7 1)
      have v3 : RW w7.drew w7.drew.heap.size (some ⟨w6.heap.size + 1, 0, none⟩) 1 [1] := st o2.rw (bdN B7 1)
      clear B7
      refine AnyW.regionQ (fun _ => false) 6 (fun w' => w'.cell? ⟨w.heap.size, 3, none⟩ = some (.bool sq) ∧ w'.cell? ⟨w.heap.size, 4, none⟩ = some (.slice A2 (digs (qt q)).length c2) ∧ w'.cell? ⟨w.heap.size, 5, none⟩ = some (.slice D2 (digs (qd q)).length d2) ∧ w'.cell? ⟨g7, 0, none⟩ = some (.bool false) ∧ w'.cell? ⟨g7, 1, none⟩ = some (.slice (some ⟨w6.heap.size, 0, none⟩) 1 1) ∧ w'.cell? ⟨g7, 2, none⟩ = some (.slice (some ⟨w6.heap.size + 1, 0, none⟩) 1 1)) rfl (by kernel_rfl) (by kernel_rfl) (by (repeat (with_reducible (first | refine quiet_then ?_ | refine quiet_block ?_))); exact quiet_body) ⟨(X.cell 3), (X.cell 4), (X.cell 5), (X7.cell 0), (X7.cell 1), (X7.cell 2)⟩ (fun Q' hQK hq hns hHeld => ?_)
      generalize w7.drew = wd at *
      refine AnyW.nextT (i := 0) (v := ?_) hq hns (.inr hHeld) rfl rfl (by kernel_rfl) (Or.inl ⟨by rfl, ?_⟩) ?_
      rotate_left
      · intro w' _; go_simp <;> with_reducible rfl
      try simp only [List.setIfInBounds_toArray, List.set_cons_zero, List.set_cons_succ]
      refine AnyW.next (i := 1) (v := ?_) hq hns hHeld rfl rfl (by kernel_rfl) (Or.inl ⟨by rfl, ?_⟩) ?_
      rotate_left
      · intro w' hSw; (try dsimp only at hSw); go_simp <;> with_reducible rfl
      try simp only [List.setIfInBounds_toArray, List.set_cons_zero, List.set_cons_succ]
      refine AnyW.next (i := 2) (v := ?_) hq hns hHeld rfl rfl (by kernel_rfl) (Or.inl ⟨by rfl, ?_⟩) ?_
      rotate_left
      · intro w' hSw; (try dsimp only at hSw); go_simp <;> with_reducible rfl
      try simp only [List.setIfInBounds_toArray, List.set_cons_zero, List.set_cons_succ]
      refine AnyW.one 3 (by kernel_rfl) rfl (fun K' hK => ?_)
      go_simp
      have hm := rminus_raw false (some ⟨w6.heap.size, 0, none⟩) (some ⟨w6.heap.size + 1, 0, none⟩) 1 1 1 1 wd
      rw [show (!false && decide (0 < 1)) = true from rfl] at hm
      refine hm.mono ?_; rintro e' wm ⟨rfl, BX⟩
      clear hm
      go_wp2_with fail
      replace X := X.nx BX
      replace X7 := X7.nx BX
      replace B := bt B BX
      have v4 : VR wm wm.heap.size (.agg #[.bool true, .slice (some ⟨w6.heap.size, 0, none⟩) 1 1, .slice (some ⟨w6.heap.size + 1, 0, none⟩) 1 1]) true [1] [1] := ⟨_, _, _, _, rfl, st v2 BX, st v3 BX⟩
      clear BX v2 v3
      refine hK.out _ _ (.inr ⟨(X.cell 3), (X.cell 4), (X.cell 5), (X7.cell 0), (X7.cell 1), (X7.cell 2)⟩) (fun hG => ?_)
      have hHeld := hG.resolve_left (notGone.spec (by rfl))
      clear hK K' hG
      try simp only [List.setIfInBounds_toArray, List.set_cons_zero, List.set_cons_succ]
      refine AnyW.one 4 (by kernel_rfl) rfl (fun K' hK => ?_)
      go_simp
      have hS2 := ratSame_any _ _ _ _ _ _ _ _ wm (hyv.st B) v4
      rw [fs_mone.out] at hS2
      refine hS2.mono ?_; rintro e' wn ⟨rfl, BX⟩
      clear hS2 v4
      go_wp2_with fail
      replace X := X.nx BX
      replace X7 := X7.nx BX
      replace B := bt B BX
      clear BX
      refine hK.out _ _ (.inr ⟨(X.cell 3), (X.cell 4), (X.cell 5), (X7.cell 0), (X7.cell 1), (X7.cell 2)⟩) (fun hG => ?_)
      have hHeld := hG.resolve_left (notGone.spec (by rfl))
      clear hK K' hG
      try simp only [List.setIfInBounds_toArray, List.set_cons_zero, List.set_cons_succ]
      refine AnyW.nextT (i := 5) (v := ?_) hq hns (.inr hHeld) rfl rfl (by kernel_rfl) (Or.inl ⟨by rfl, ?_⟩) ?_
      rotate_left
      · intro w' _; go_simp <;> with_reducible rfl
      try simp only [List.setIfInBounds_toArray, List.set_cons_zero, List.set_cons_succ]
      refine AnyW.done (by kernel_rfl) (hQK.out _ _ ?_)
      clear hQK hq hns hHeld
      by_cases k2 : q = -1
      · rw [decide_eq_true k2]
        have hi : imR (txt r) q = [45] := by unfold imR; rw [if_neg k1, if_pos k2]
        have HE := Lib.hid (show T = (ratT (txt r) p ++ [45]) ++ [105] by rw [hN.out, hi]; simp)
        obtain ⟨zb, hzb⟩ : ∃ x : ByteArray, x = ⟨T.toArray⟩ := ⟨_, rfl⟩
        rw [HE.out] at hzb
        obtain ⟨ub, hub⟩ : ∃ x : ByteArray, x = ⟨(ratT (txt r) p ++ [45] : List UInt8).toArray⟩ := ⟨_, rfl⟩
        have a1 := fun w => str_add hs0.out (b := ⟨#[45]⟩) (y := [45]) rfl hub (by have := lS; simp only [List.length_cons, List.length_nil]; omega) w
        have a2 := fun w => str_add (b := ⟨#[105]⟩) (y := [105]) hub rfl hzb (by have := lS; have := lI; simp only [List.length_append, List.length_cons, List.length_nil]; omega) w
        replace hzb := Lib.hid hzb
        clear hi hub hN hs0 hxi lS lI k1 hsq
        go_wp2_with fail
        go_ret2
        rw [hzb.out, ← HE.out]
        exact ⟨rfl, B⟩
      · rw [decide_eq_false k2]
        have m0 := X.cell 0
        have m1 := X.cell 1
        have m2 := X.cell 2
        have m3 := X.cell 3
        have m4 := X.cell 4
        have m5 := X.cell 5
        cases sq
        · have hi : imR (txt r) q = 43 :: ratT (txt r) q := by unfold imR; rw [if_neg k1, if_neg k2, if_neg (by rw [hsq.out]; simp)]
          have HE := Lib.hid (show T = (ratT (txt r) p ++ (43 :: ratT (txt r) q)) ++ [105] by rw [hN.out, hi]; simp)
          obtain ⟨zb, hzb⟩ : ∃ x : ByteArray, x = ⟨T.toArray⟩ := ⟨_, rfl⟩
          rw [HE.out] at hzb
          obtain ⟨ub, hub⟩ : ∃ x : ByteArray, x = ⟨(ratT (txt r) p ++ (43 :: ratT (txt r) q) : List UInt8).toArray⟩ := ⟨_, rfl⟩
          obtain ⟨xp, hxp⟩ : ∃ x : ByteArray, x = ⟨(43 :: ratT (txt r) q).toArray⟩ := ⟨_, rfl⟩
          have a0 := fun w => str_add (a := ⟨#[43]⟩) (x := [43]) rfl hxi.out hxp (by have := lI; simp only [List.length_cons, List.length_nil]; omega) w
          have a1 := fun w => str_add hs0.out hxp hub (by have := lS; have := lI; simp only [List.length_cons]; omega) w
          have a2 := fun w => str_add (b := ⟨#[105]⟩) (y := [105]) hub rfl hzb (by have := lS; have := lI; simp only [List.length_append, List.length_cons, List.length_nil]; omega) w
          replace hzb := Lib.hid hzb
          clear hi hub hN hs0 hxi lS lI k1 hsq hxp
          go_wp2_with fail
          refine (hI _ B).mono ?_; rintro e w8 ⟨rfl, B8⟩
          clear m0 m1 m2 m3 m4 m5
          go_wp2_with fail
          go_ret2
          rw [hzb.out, ← HE.out]
          exact ⟨rfl, bt B B8⟩
        · have hi : imR (txt r) q = ratT (txt r) q := by unfold imR; rw [if_neg k1, if_neg k2, if_pos hsq.out]
          have HE := Lib.hid (show T = (ratT (txt r) p ++ ratT (txt r) q) ++ [105] by rw [hN.out, hi]; simp)
          obtain ⟨zb, hzb⟩ : ∃ x : ByteArray, x = ⟨T.toArray⟩ := ⟨_, rfl⟩
          rw [HE.out] at hzb
          obtain ⟨ub, hub⟩ : ∃ x : ByteArray, x = ⟨(ratT (txt r) p ++ ratT (txt r) q : List UInt8).toArray⟩ := ⟨_, rfl⟩
          have a1 := fun w => str_add hs0.out hxi.out hub (by have := lS; have := lI; omega) w
          have a2 := fun w => str_add (b := ⟨#[105]⟩) (y := [105]) hub rfl hzb (by have := lS; have := lI; simp only [List.length_append, List.length_cons, List.length_nil]; omega) w
          replace hzb := Lib.hid hzb
          clear hi hub hN hs0 hxi lS lI k1 hsq
          go_wp2_with fail
          refine (hI _ B).mono ?_; rintro e w8 ⟨rfl, B8⟩
          clear m0 m1 m2 m3 m4 m5
          go_wp2_with fail
          go_ret2
          rw [hzb.out, ← HE.out]
          exact ⟨rfl, bt B B8⟩

theorem rtext3_any (V : Value) (r i : Rw) (b : Int) (w : World) (hV : VN w w.heap.size V r i) : Calls Try.prog 11 #[V, .int .i64 b] w (RetT w (textZ r i b)) := by
  cases hb : nB r i with
  | false => rw [textZ_bad b hb]; exact rtext3_bad V r i b w hV hb
  | true =>
    by_cases h : b = 2 ∨ b = 8 ∨ b = 10 ∨ b = 16
    · obtain ⟨p, q, rfl, rfl, hp, hq⟩ := nB_rat hb
      obtain ⟨k, rfl⟩ := Int.eq_ofNat_of_zero_le (show 0 ≤ b by omega)
      have hk : rdOk k := by unfold rdOk; omega
      rw [textZ_ok hb hk, qv_rwq, qv_rwq]
      by_cases h0 : qt q = 0
      · have := rtext3_real V p q k w hV hp hq hk h0
        unfold numT
        rw [if_pos h0]
        exact this
      · exact rtext3_cx V p q k w hV hp hq hk h0
    · rw [textZ_arg hb h]; exact rtext3_arg V r i b w hV hb h
end Go.Proofs.Ytkjfpaommbjgbaa
