/- Merged texts: LisV. -/
import Derived.Test.YtilhnjecnhpmlaaGreatDoorGS
namespace Go.Proofs.YtilhnjecnhpmlaaGreatDoor
open Go.RowKit

set_option maxRecDepth 100000 in
set_option maxHeartbeats 16000000 in
theorem lremove_any (x d : Dat) (vx vd : Value) (w : World) (P : Nat → Prop) (hP : ∀ b, P b → b < w.heap.size) (hX : RDP w P x vx) (hD : RDP w P d vd) (hT : Tabs w) :
    Calls Tryz.prog 9 #[vx, vd] w fun e w' => ∃ v', e = .returned (.tuple #[v', .int .i64 (remE x d)]) ∧ RDP w' (Out P w.heap.size w') (remD x d) v' ∧ Below w.heap.size w w' := by
  obtain ⟨lx, rfl, llx, lox⟩ := hX.agg
  obtain ⟨ld, rfl, lld, lod⟩ := hD.agg
  match lx, llx, lox, ld, lld, lod with
  | [x0, x1, x2, x3, x4, x5, x6, x7, x8, x9, x10], _, lox, [y0, y1, y2, y3, y4, y5, y6, y7, y8, y9, y10], _, lod =>
  have z1 : (w.alloc (.cells #[x0, x1, x2, x3, x4, x5, x6, x7, x8, x9, x10] 30)).heap.size = w.heap.size + 1 := by simp
  have z2 : ((w.alloc (.cells #[x0, x1, x2, x3, x4, x5, x6, x7, x8, x9, x10] 30)).alloc (.cells #[y0, y1, y2, y3, y4, y5, y6, y7, y8, y9, y10] 30)).heap.size = w.heap.size + 2 := by simp
  have SX := SB.new w [x0, x1, x2, x3, x4, x5, x6, x7, x8, x9, x10] 30
  have SD := SB.new (w.alloc (.cells #[x0, x1, x2, x3, x4, x5, x6, x7, x8, x9, x10] 30)) [y0, y1, y2, y3, y4, y5, y6, y7, y8, y9, y10] 30
  have S1 := SB.new ((w.alloc (.cells #[x0, x1, x2, x3, x4, x5, x6, x7, x8, x9, x10] 30)).alloc (.cells #[y0, y1, y2, y3, y4, y5, y6, y7, y8, y9, y10] 30)) [.int .i64 0, .int .i64 0, .bool false, .slice none 0 0, .slice none 0 0, .bool false, .slice none 0 0, .slice none 0 0, .string { data := #[] }, .slice none 0 0, .slice none 0 0] 30
  have B1 := bal w (.cells #[x0, x1, x2, x3, x4, x5, x6, x7, x8, x9, x10] 30)
  have B2 := bal (w.alloc (.cells #[x0, x1, x2, x3, x4, x5, x6, x7, x8, x9, x10] 30)) (.cells #[y0, y1, y2, y3, y4, y5, y6, y7, y8, y9, y10] 30)
  have B3 := bal ((w.alloc (.cells #[x0, x1, x2, x3, x4, x5, x6, x7, x8, x9, x10] 30)).alloc (.cells #[y0, y1, y2, y3, y4, y5, y6, y7, y8, y9, y10] 30)) (.cells #[.int .i64 0, .int .i64 0, .bool false, .slice none 0 0, .slice none 0 0, .bool false, .slice none 0 0, .slice none 0 0, .string { data := #[] }, .slice none 0 0, .slice none 0 0] 30)
  have BB := bt (bt B1 B2) B3
  have SX := (SX.nx B2).nx B3
  have SD := SD.nx B3
  rw [z1] at SD
  rw [z2] at S1
  clear B1 B2 B3 z1 z2
  have RX : RDP _ P x _ := hX.step (fun z hz => BB.block z (hP z hz)) (fun z hz => hz)
  have RD_ : RDP _ P d _ := hD.step (fun z hz => BB.block z (hP z hz)) (fun z hz => hz)
  obtain ⟨W0, hW0⟩ : ∃ W0, W0 = ((w.alloc (.cells #[x0, x1, x2, x3, x4, x5, x6, x7, x8, x9, x10] 30)).alloc (.cells #[y0, y1, y2, y3, y4, y5, y6, y7, y8, y9, y10] 30)).alloc (.cells #[.int .i64 0, .int .i64 0, .bool false, .slice none 0 0, .slice none 0 0, .bool false, .slice none 0 0, .slice none 0 0, .string { data := #[] }, .slice none 0 0, .slice none 0 0] 30) := ⟨_, rfl⟩
  have hN : w.heap.size + 3 ≤ W0.heap.size := by rw [hW0]; simp
  rw [← hW0] at SX SD S1 BB RX RD_
  
  go_enter Tryz.func9, Tryz.ntmps9
  go_upto_region 1 with fail
  rw [← hW0]
  clear hW0 hX hD
  generalize hn : w.heap.size = n at *
  have i0 := SD.cell 0; have i1 := SD.cell 1; have i2 := SD.cell 2; have i3 := SD.cell 3; have i4 := SD.cell 4; have i5 := SD.cell 5; have i6 := SD.cell 6; have i7 := SD.cell 7; have i8 := SD.cell 8; have i9 := SD.cell 9; have i10 := SD.cell 10
  have j0 := SX.cell 0; have j1 := SX.cell 1; have j2 := SX.cell 2; have j3 := SX.cell 3; have j4 := SX.cell 4; have j5 := SX.cell 5; have j6 := SX.cell 6; have j7 := SX.cell 7; have j8 := SX.cell 8; have j9 := SX.cell 9; have j10 := SX.cell 10
  have SK := SB.new W0 [x0, x1, x2, x3, x4, x5, x6, x7, x8, x9, x10] 30
  have Ba := bal W0 (.cells #[x0, x1, x2, x3, x4, x5, x6, x7, x8, x9, x10] 30)
  obtain ⟨W1, hW1⟩ : ∃ W1, W1 = W0.alloc (.cells #[x0, x1, x2, x3, x4, x5, x6, x7, x8, x9, x10] 30) := ⟨_, rfl⟩
  rw [← hW1] at SK Ba
  replace hW1 := Lib.hid hW1
  have SX := SX.nx Ba
  have SD := SD.nx Ba
  have S1 := S1.nx Ba
  have RX := RX.keeps hP (by omega) Ba
  have RD_ := RD_.keeps hP (by omega) Ba
  have BB := BB.trans (Ba.mono (by omega))
  have hN := Nat.le_trans hN Ba.size
  go_wp2_with fail
  rw [← hW1.out]
  clear hW1
  clear i0 i1 i2 i3 i4 i5 i6 i7 i8 i9 i10 j0 j1 j2 j3 j4 j5 j6 j7 j8 j9 j10
  refine (lread2_any x d _ W0.heap.size ⟨[x0, x1, x2, x3, x4, x5, x6, x7, x8, x9, x10], rfl, lox⟩ W1 P (fun z hz => by have := hP z hz; omega) RD_ RX (fun j u hj => (SK.1 j u hj).1) SK.2 (hT.go hn BB)).mono ?_
  rintro e w2 ⟨A, c, rfl, O2, B2⟩
  clear SK Ba
  clear SD RD_
  have hbase := hN
  have SX := SX.nx B2
  have S1 := S1.nx B2
  have RX := RX.keeps hP (by omega) B2
  have BB := BB.trans (B2.mono (by omega))
  have hN := Nat.le_trans hN B2.size
  have hlc := O2.len
  obtain ⟨g, hg1, hgs, hg, M0⟩ := O2.mut2 B2.size
  have hform := O2.form
  have hg1 : n + 3 ≤ g := by omega
  have hlen := foundL_len x d
  have hsn : ∀ y ∈ foundL x d, y.sound vU = true := fun y hy => found_item hy
  clear O2 B2 hbase
  rcases foundE_cases x d with he | he | ⟨he, hx, -, -⟩
  · have hta := rem_err (x := x) (d := d) (by rw [he]; decide)
    rw [he] at hta ⊢
    replace hta := Lib.hid hta
    generalize foundL x d = l at *
    go_wp2_with (refine wp_stD rfl rfl (.tmp 4) (.tmp 17) rfl (n + 2) rfl [.int .i64 0, .int .i64 0, .bool false, .slice none 0 0, .slice none 0 0, .bool false, .slice none 0 0, .slice none 0 0, .string { data := #[] }, .slice none 0 0, .slice none 0 0] rfl rfl _ S1 rfl (by simp [Value.oneCell']) ?_)
    have S2 := S1.cells [.int .i64 0, .int .i64 0, .bool false, .slice none 0 0, .slice none 0 0, .bool false, .slice none 0 0, .slice none 0 0, .string { data := #[] }, .slice none 0 0, .slice none 0 0] rfl
    have r0 := S2.cell 0; have r1 := S2.cell 1; have r2 := S2.cell 2; have r3 := S2.cell 3; have r4 := S2.cell 4; have r5 := S2.cell 5; have r6 := S2.cell 6; have r7 := S2.cell 7; have r8 := S2.cell 8; have r9 := S2.cell 9; have r10 := S2.cell 10
    refine bodyPost_ret (v := .tuple #[.agg #[.int .i64 0, .int .i64 0, .bool false, .slice none 0 0, .slice none 0 0, .bool false, .slice none 0 0, .slice none 0 0, .string { data := #[] }, .slice none 0 0, .slice none 0 0], .int .i64 2]) (by simp [results, r0, r1, r2, r3, r4, r5, r6, r7, r8, r9, r10, go_sem]) rfl ?_
    try rw [hn]
    rw [hta.out.1, hta.out.2]
    exact ⟨_, rfl, rd_zeroD _ _, below_cso BB (by omega) 0 [.int .i64 0, .int .i64 0, .bool false, .slice none 0 0, .slice none 0 0, .bool false, .slice none 0 0, .slice none 0 0, .string { data := #[] }, .slice none 0 0, .slice none 0 0]⟩
  · have hta := rem_err (x := x) (d := d) (by rw [he]; decide)
    rw [he] at hta ⊢
    replace hta := Lib.hid hta
    generalize foundL x d = l at *
    go_wp2_with (refine wp_stD rfl rfl (.tmp 4) (.tmp 17) rfl (n + 2) rfl [.int .i64 0, .int .i64 0, .bool false, .slice none 0 0, .slice none 0 0, .bool false, .slice none 0 0, .slice none 0 0, .string { data := #[] }, .slice none 0 0, .slice none 0 0] rfl rfl _ S1 rfl (by simp [Value.oneCell']) ?_)
    have S2 := S1.cells [.int .i64 0, .int .i64 0, .bool false, .slice none 0 0, .slice none 0 0, .bool false, .slice none 0 0, .slice none 0 0, .string { data := #[] }, .slice none 0 0, .slice none 0 0] rfl
    have r0 := S2.cell 0; have r1 := S2.cell 1; have r2 := S2.cell 2; have r3 := S2.cell 3; have r4 := S2.cell 4; have r5 := S2.cell 5; have r6 := S2.cell 6; have r7 := S2.cell 7; have r8 := S2.cell 8; have r9 := S2.cell 9; have r10 := S2.cell 10
    refine bodyPost_ret (v := .tuple #[.agg #[.int .i64 0, .int .i64 0, .bool false, .slice none 0 0, .slice none 0 0, .bool false, .slice none 0 0, .slice none 0 0, .string { data := #[] }, .slice none 0 0, .slice none 0 0], .int .i64 10]) (by simp [results, r0, r1, r2, r3, r4, r5, r6, r7, r8, r9, r10, go_sem]) rfl ?_
    try rw [hn]
    rw [hta.out.1, hta.out.2]
    exact ⟨_, rfl, rd_zeroD _ _, below_cso BB (by omega) 0 [.int .i64 0, .int .i64 0, .bool false, .slice none 0 0, .slice none 0 0, .bool false, .slice none 0 0, .slice none 0 0, .string { data := #[] }, .slice none 0 0, .slice none 0 0]⟩
  · have hta := rem_ok (x := x) (d := d) he rfl
    rw [he]
    have gx := Dat.sound_good hx
    have hgl : ∀ y ∈ foundL x d, y.Good vU := fun y hy => Dat.sound_good (hsn y hy)
    generalize foundL x d = l at *
    replace hta := Lib.hid hta
    clear he hx hform hsn
    go_upto_region 4 with fail
    go_wp2_with fail
    refine (delete_r A c l g n x [x0, x1, x2, x3, x4, x5, x6, x7, x8, x9, x10] w2 P (fun b hb => by have := hP b hb; omega) hg hlc hlen M0 (by omega) rfl (by omega) SX RX gx hgl).mono ?_
    rintro e w3 ⟨c', rfl, M3, hlc3, B3⟩
    have hmA : 0 < (l.filter fun y => !sameD x y).length → A = some ⟨g, 0, none⟩ ∧ g < w3.heap.size := fun h => by
      have := List.length_filter_le (fun y => !sameD x y) l
      have h2 := hg (by omega)
      exact ⟨h2.1, Nat.lt_of_lt_of_le h2.2 B3.size⟩
    have hml : (l.filter fun y => !sameD x y).length ≤ 10000 := Nat.le_trans (List.length_filter_le _ _) hlen
    generalize (l.filter fun y => !sameD x y) = m at *
    have S1 := S1.lo B3 (by omega)
    have BB := BB.trans (B3.mono (by omega))
    have hN : n + 3 ≤ w3.heap.size := Nat.le_trans hN B3.size
    have L2 : RLs w3 (Out P (n + 3) w3) A c' m := M3.rls' hlc3 (by omega) (fun h => (hmA h).1) (fun b hb => .inl hb) (fun h => .inr ⟨by omega, (hmA h).2⟩)
    clear M3 M0 hg hmA SX RX B3
    go_wp2_with fail
    refine (none_any w3).mono ?_
    rintro e w4 ⟨vn, rfl, Rn, B4⟩
    have S1 := S1.nx B4
    have L2 := L2.go hP (by omega) B4
    have BB := BB.trans (B4.mono (by omega))
    have hN := Nat.le_trans hN B4.size
    have Rn := Rn w4 (Out P (n + 3) w4)
    go_wp2_with fail
    refine (join_any A c' m nilD vn w4 (Out P (n + 3) w4) (Out.all hP (by omega)) L2 Rn).mono ?_
    rintro e w5 ⟨vj, rfl, Rj, B5⟩
    have Rj := Rj.res (m := n + 3) hN B5.size
    have S1 := S1.nx B5
    have L2 := L2.go hP (by omega) B5
    have BB := BB.trans (B5.mono (by omega))
    have hN := Nat.le_trans hN B5.size
    go_wp2_with fail
    refine (lfit_any _ vj w5 _ (Out.all hP (by omega)) Rj (hT.go hn BB)).mono ?_
    rintro e w6 ⟨vf, rfl, Rf, B6⟩
    have Rf := Rf.res (m := n + 3) hN B6.size
    have S1 := S1.nx B6
    have L2 := L2.go hP (by omega) B6
    have BB := BB.trans (B6.mono (by omega))
    have hN := Nat.le_trans hN B6.size
    obtain ⟨cs, rfl, cl, co⟩ := Rf.agg
    match cs, cl, co with
    | [q0, q1, q2, q3, q4, q5, q6, q7, q8, q9, q10], _, co =>
    go_wp2_with (refine wp_stD rfl rfl (.tmp 4) (.tmp 25) rfl (n + 2) rfl [q0, q1, q2, q3, q4, q5, q6, q7, q8, q9, q10] rfl rfl _ S1 rfl co ?_)
    have S2 := S1.cells [q0, q1, q2, q3, q4, q5, q6, q7, q8, q9, q10] rfl
    have r0 := S2.cell 0; have r1 := S2.cell 1; have r2 := S2.cell 2; have r3 := S2.cell 3; have r4 := S2.cell 4; have r5 := S2.cell 5; have r6 := S2.cell 6; have r7 := S2.cell 7; have r8 := S2.cell 8; have r9 := S2.cell 9; have r10 := S2.cell 10
    refine bodyPost_ret (v := .tuple #[.agg #[q0, q1, q2, q3, q4, q5, q6, q7, q8, q9, q10], .int .i64 (fitE (joinD m nilD))]) (by simp [results, r0, r1, r2, r3, r4, r5, r6, r7, r8, r9, r10, go_sem]) rfl ?_
    try rw [hn]
    rw [hta.out.1, hta.out.2]
    exact ⟨_, rfl, (Rf.scO hP (by omega) (g := n + 2) (by omega) (by omega) 0 [q0, q1, q2, q3, q4, q5, q6, q7, q8, q9, q10]).from_ (by omega), below_cso BB (by omega) 0 [q0, q1, q2, q3, q4, q5, q6, q7, q8, q9, q10]⟩

set_option maxRecDepth 100000 in
set_option maxHeartbeats 16000000 in
theorem rremove_any (x d : Dat) (vx vd : Value) (w : World) (P : Nat → Prop) (hP : ∀ b, P b → b < w.heap.size) (hX : RDP w P x vx) (hD : RDP w P d vd) :
    Calls Tryz.prog 10 #[vx, vd] w fun e w' => ∃ v', e = .returned (.tuple #[v', .int .i64 (remE x d)]) ∧ RDP w' (Out P w.heap.size w') (remD x d) v' ∧ Below w.heap.size w w' := by
  obtain ⟨lx, rfl, llx, lox⟩ := hX.agg
  obtain ⟨ld, rfl, lld, lod⟩ := hD.agg
  match lx, llx, lox, ld, lld, lod with
  | [x0, x1, x2, x3, x4, x5, x6, x7, x8, x9, x10], _, lox, [y0, y1, y2, y3, y4, y5, y6, y7, y8, y9, y10], _, lod =>
  have z1 : (w.alloc (.cells #[x0, x1, x2, x3, x4, x5, x6, x7, x8, x9, x10] 30)).heap.size = w.heap.size + 1 := by simp
  have z2 : ((w.alloc (.cells #[x0, x1, x2, x3, x4, x5, x6, x7, x8, x9, x10] 30)).alloc (.cells #[y0, y1, y2, y3, y4, y5, y6, y7, y8, y9, y10] 30)).heap.size = w.heap.size + 2 := by simp
  have SX := SB.new w [x0, x1, x2, x3, x4, x5, x6, x7, x8, x9, x10] 30
  have SD := SB.new (w.alloc (.cells #[x0, x1, x2, x3, x4, x5, x6, x7, x8, x9, x10] 30)) [y0, y1, y2, y3, y4, y5, y6, y7, y8, y9, y10] 30
  have S1 := SB.new ((w.alloc (.cells #[x0, x1, x2, x3, x4, x5, x6, x7, x8, x9, x10] 30)).alloc (.cells #[y0, y1, y2, y3, y4, y5, y6, y7, y8, y9, y10] 30)) [.int .i64 0, .int .i64 0, .bool false, .slice none 0 0, .slice none 0 0, .bool false, .slice none 0 0, .slice none 0 0, .string { data := #[] }, .slice none 0 0, .slice none 0 0] 30
  have B1 := bal w (.cells #[x0, x1, x2, x3, x4, x5, x6, x7, x8, x9, x10] 30)
  have B2 := bal (w.alloc (.cells #[x0, x1, x2, x3, x4, x5, x6, x7, x8, x9, x10] 30)) (.cells #[y0, y1, y2, y3, y4, y5, y6, y7, y8, y9, y10] 30)
  have B3 := bal ((w.alloc (.cells #[x0, x1, x2, x3, x4, x5, x6, x7, x8, x9, x10] 30)).alloc (.cells #[y0, y1, y2, y3, y4, y5, y6, y7, y8, y9, y10] 30)) (.cells #[.int .i64 0, .int .i64 0, .bool false, .slice none 0 0, .slice none 0 0, .bool false, .slice none 0 0, .slice none 0 0, .string { data := #[] }, .slice none 0 0, .slice none 0 0] 30)
  have BB := bt (bt B1 B2) B3
  have SX := (SX.nx B2).nx B3
  have SD := SD.nx B3
  rw [z1] at SD
  rw [z2] at S1
  clear B1 B2 B3 z1 z2
  have RX : RDP _ P x _ := hX.step (fun z hz => BB.block z (hP z hz)) (fun z hz => hz)
  have RD_ : RDP _ P d _ := hD.step (fun z hz => BB.block z (hP z hz)) (fun z hz => hz)
  obtain ⟨W0, hW0⟩ : ∃ W0, W0 = ((w.alloc (.cells #[x0, x1, x2, x3, x4, x5, x6, x7, x8, x9, x10] 30)).alloc (.cells #[y0, y1, y2, y3, y4, y5, y6, y7, y8, y9, y10] 30)).alloc (.cells #[.int .i64 0, .int .i64 0, .bool false, .slice none 0 0, .slice none 0 0, .bool false, .slice none 0 0, .slice none 0 0, .string { data := #[] }, .slice none 0 0, .slice none 0 0] 30) := ⟨_, rfl⟩
  have hN : w.heap.size + 3 ≤ W0.heap.size := by rw [hW0]; simp
  rw [← hW0] at SX SD S1 BB RX RD_
  
  go_enter Tryz.func10, Tryz.ntmps10
  go_upto_region 1 with fail
  rw [← hW0]
  clear hW0 hX hD
  generalize hn : w.heap.size = n at *
  have i0 := SD.cell 0; have i1 := SD.cell 1; have i2 := SD.cell 2; have i3 := SD.cell 3; have i4 := SD.cell 4; have i5 := SD.cell 5; have i6 := SD.cell 6; have i7 := SD.cell 7; have i8 := SD.cell 8; have i9 := SD.cell 9; have i10 := SD.cell 10
  have j0 := SX.cell 0; have j1 := SX.cell 1; have j2 := SX.cell 2; have j3 := SX.cell 3; have j4 := SX.cell 4; have j5 := SX.cell 5; have j6 := SX.cell 6; have j7 := SX.cell 7; have j8 := SX.cell 8; have j9 := SX.cell 9; have j10 := SX.cell 10
  go_wp2_with fail
  refine (rboth_any x d _ _ W0 P (fun z hz => by have := hP z hz; omega) RX RD_).mono ?_
  rintro e w2 ⟨A, c, rfl, O2, B2⟩
  clear i0 i1 i2 i3 i4 i5 i6 i7 i8 i9 i10 j0 j1 j2 j3 j4 j5 j6 j7 j8 j9 j10
  clear SD RD_
  have hbase := hN
  have SX := SX.nx B2
  have S1 := S1.nx B2
  have RX := RX.keeps hP (by omega) B2
  have BB := BB.trans (B2.mono (by omega))
  have hN := Nat.le_trans hN B2.size
  have hlc := O2.len
  obtain ⟨g, hg1, hgs, hg, M0⟩ := O2.mut2 B2.size
  have hform := O2.form
  have hg1 : n + 3 ≤ g := by omega
  have hlen := foundL_len x d
  have hsn : ∀ y ∈ foundL x d, y.sound vU = true := fun y hy => found_item hy
  clear O2 B2 hbase
  rcases foundE_cases x d with he | he | ⟨he, hx, -, -⟩
  · have hta := rem_err (x := x) (d := d) (by rw [he]; decide)
    rw [he] at hta ⊢
    replace hta := Lib.hid hta
    generalize foundL x d = l at *
    go_wp2_with (refine wp_stD rfl rfl (.tmp 4) (.tmp 18) rfl (n + 2) rfl [.int .i64 0, .int .i64 0, .bool false, .slice none 0 0, .slice none 0 0, .bool false, .slice none 0 0, .slice none 0 0, .string { data := #[] }, .slice none 0 0, .slice none 0 0] rfl rfl _ S1 rfl (by simp [Value.oneCell']) ?_)
    have S2 := S1.cells [.int .i64 0, .int .i64 0, .bool false, .slice none 0 0, .slice none 0 0, .bool false, .slice none 0 0, .slice none 0 0, .string { data := #[] }, .slice none 0 0, .slice none 0 0] rfl
    have r0 := S2.cell 0; have r1 := S2.cell 1; have r2 := S2.cell 2; have r3 := S2.cell 3; have r4 := S2.cell 4; have r5 := S2.cell 5; have r6 := S2.cell 6; have r7 := S2.cell 7; have r8 := S2.cell 8; have r9 := S2.cell 9; have r10 := S2.cell 10
    refine bodyPost_ret (v := .tuple #[.agg #[.int .i64 0, .int .i64 0, .bool false, .slice none 0 0, .slice none 0 0, .bool false, .slice none 0 0, .slice none 0 0, .string { data := #[] }, .slice none 0 0, .slice none 0 0], .int .i64 2]) (by simp [results, r0, r1, r2, r3, r4, r5, r6, r7, r8, r9, r10, go_sem]) rfl ?_
    try rw [hn]
    rw [hta.out.1, hta.out.2]
    exact ⟨_, rfl, rd_zeroD _ _, below_cso BB (by omega) 0 [.int .i64 0, .int .i64 0, .bool false, .slice none 0 0, .slice none 0 0, .bool false, .slice none 0 0, .slice none 0 0, .string { data := #[] }, .slice none 0 0, .slice none 0 0]⟩
  · have hta := rem_err (x := x) (d := d) (by rw [he]; decide)
    rw [he] at hta ⊢
    replace hta := Lib.hid hta
    generalize foundL x d = l at *
    go_wp2_with (refine wp_stD rfl rfl (.tmp 4) (.tmp 18) rfl (n + 2) rfl [.int .i64 0, .int .i64 0, .bool false, .slice none 0 0, .slice none 0 0, .bool false, .slice none 0 0, .slice none 0 0, .string { data := #[] }, .slice none 0 0, .slice none 0 0] rfl rfl _ S1 rfl (by simp [Value.oneCell']) ?_)
    have S2 := S1.cells [.int .i64 0, .int .i64 0, .bool false, .slice none 0 0, .slice none 0 0, .bool false, .slice none 0 0, .slice none 0 0, .string { data := #[] }, .slice none 0 0, .slice none 0 0] rfl
    have r0 := S2.cell 0; have r1 := S2.cell 1; have r2 := S2.cell 2; have r3 := S2.cell 3; have r4 := S2.cell 4; have r5 := S2.cell 5; have r6 := S2.cell 6; have r7 := S2.cell 7; have r8 := S2.cell 8; have r9 := S2.cell 9; have r10 := S2.cell 10
    refine bodyPost_ret (v := .tuple #[.agg #[.int .i64 0, .int .i64 0, .bool false, .slice none 0 0, .slice none 0 0, .bool false, .slice none 0 0, .slice none 0 0, .string { data := #[] }, .slice none 0 0, .slice none 0 0], .int .i64 10]) (by simp [results, r0, r1, r2, r3, r4, r5, r6, r7, r8, r9, r10, go_sem]) rfl ?_
    try rw [hn]
    rw [hta.out.1, hta.out.2]
    exact ⟨_, rfl, rd_zeroD _ _, below_cso BB (by omega) 0 [.int .i64 0, .int .i64 0, .bool false, .slice none 0 0, .slice none 0 0, .bool false, .slice none 0 0, .slice none 0 0, .string { data := #[] }, .slice none 0 0, .slice none 0 0]⟩
  · have hta := rem_ok (x := x) (d := d) he rfl
    rw [(rem_fit he).1, (rem_fit he).2] at hta
    rw [he]
    generalize foundL x d = l at *
    replace hta := Lib.hid hta
    clear he hx hform hsn hgs
    go_upto_region 5 with fail
    obtain ⟨q, hq⟩ : ∃ q, w2.heap.size = q := ⟨_, rfl⟩
    have O0 := ROw.empty w2 P
    have Ba := bal w2 (.cells #[] 30)
    obtain ⟨W1, hW1⟩ : ∃ W1, W1 = w2.alloc (.cells #[] 30) := ⟨_, rfl⟩
    rw [← hW1] at O0 Ba ⊢
    rw [hq] at O0 ⊢
    have hq3 : n + 3 ≤ q := by omega
    have hgq : 0 < l.length → g < q := fun h => by have := (hg h).2; omega
    have SX := SX.nx Ba
    have S1 := S1.nx Ba
    have RX := RX.keeps hP (by omega) Ba
    have M0 := M0.keep (fun b hb => Nat.lt_of_lt_of_le (hP b hb) (by omega)) Ba
    have BB := BB.trans (Ba.mono (by omega))
    have hN := Nat.le_trans hN Ba.size
    have hg : 0 < l.length → A = some (⟨g, 0, none⟩ : Addr) ∧ g < W1.heap.size := fun h => ⟨(hg h).1, Nat.lt_of_lt_of_le (hg h).2 Ba.size⟩
    have hNq : q ≤ W1.heap.size := by have := Ba.size; omega
    clear hW1 Ba hq hN
    have hN := hNq
    clear hNq
    go_upto_region 6 with fail
    go_loopg [8, 9] l.length (fun gk s8 s9 wx => ∃ (k : Nat) (A8 : Option Addr) (c8 : Nat) (m : List Dat), s9 = .int .i64 (k : Int) ∧ s8 = .slice A8 m.length c8 ∧ k ≤ l.length ∧ k + gk = l.length ∧ m = (l.take k).filter (fun y => !sameD x y) ∧ m.length ≤ k ∧ ROw wx q P A8 c8 m ∧ SB wx n [x0, x1, x2, x3, x4, x5, x6, x7, x8, x9, x10] ∧ SB wx (n + 2) [.int .i64 0, .int .i64 0, .bool false, .slice none 0 0, .slice none 0 0, .bool false, .slice none 0 0, .slice none 0 0, .string { data := #[] }, .slice none 0 0, .slice none 0 0] ∧ RDP wx P x (.agg #[x0, x1, x2, x3, x4, x5, x6, x7, x8, x9, x10]) ∧ RowM wx P g 0 l ∧ Below n w wx ∧ q ≤ wx.heap.size ∧ (0 < l.length → A = some ⟨g, 0, none⟩ ∧ g < wx.heap.size))
    case atStart => exact ⟨0, _, _, [], rfl, rfl, Nat.zero_le _, by omega, rfl, by simp, O0, SX, S1, RX, M0, BB, hN, hg⟩
    case round =>
      clear M0 BB hg hN SX S1 RX O0
      obtain ⟨k, A8, c8, m, rfl, rfl, hkl, hgk, hm, hml, O1, SX, S1, RX, M1, BB, hN, hg⟩ := hrel
      replace hm := Lib.hid hm
      by_cases hk : k < l.length
      · obtain ⟨cs, hl, so, re⟩ := M1.at_ hk
        match cs, hl with
        | [z0, z1, z2, z3, z4, z5, z6, z7, z8, z9, z10], _ =>
        obtain ⟨_, e2, _, oz⟩ := re.agg
        obtain rfl := congrArg Array.toList (Value.agg.inj e2)
        clear e2
        have hkz : (k : Int) < (l.length : Int) := by omega
        have hyes : sameD x l[k] = false → (l.take (k + 1)).filter (fun y => !sameD x y) = (l.take k).filter (fun y => !sameD x y) ++ [l[k]] := fun h => by
          rw [List.take_succ_eq_append_getElem hk, List.filter_append]; simp [h]
        have hno : sameD x l[k] = true → (l.take (k + 1)).filter (fun y => !sameD x y) = (l.take k).filter (fun y => !sameD x y) := fun h => by
          rw [List.take_succ_eq_append_getElem hk, List.filter_append]; simp [h]
        rw [← hm.out] at hyes hno
        generalize hy : l[k] = y at *
        replace hyes := Lib.hid hyes
        replace hno := Lib.hid hno
        clear hy
        have hAg := (hg (by omega)).1
        have hgw := (hg (by omega)).2
        subst hAg
        have rz : wr.rangeAt g (k * 11) [z0, z1, z2, z3, z4, z5, z6, z7, z8, z9, z10] := by have := so.range; rwa [Nat.zero_add] at this
        clear so
        go_upto_region 8 with fail
        have Dw := (Below.refl wr.heap.size wr).drew
        have SX := SX.nx Dw
        have S1 := S1.nx Dw
        have RX := RX.keeps hP (by omega) Dw
        have re := re.keeps hP (by omega) Dw
        have M1 := M1.keep (fun b hb => Nat.lt_of_lt_of_le (hP b hb) (by omega)) Dw
        have O1 := O1.below (fun b hb => Nat.lt_of_lt_of_le (hP b hb) (by omega)) Dw
        have BB := BB.trans (Dw.mono (by omega))
        have hgw := Nat.lt_of_lt_of_le hgw Dw.size
        have rz := range_nx rz Dw (by omega)
        have hN := Nat.le_trans hN Dw.size
        clear Dw
        refine AnyW.regionQ (fun _ => false) 7 (fun w' => w'.rangeAt n 0 [x0, x1, x2, x3, x4, x5, x6, x7, x8, x9, x10] ∧ w'.rangeAt g (k * 11) [z0, z1, z2, z3, z4, z5, z6, z7, z8, z9, z10]) rfl (by kernel_rfl) (by kernel_rfl) (by repeat (first | refine quiet_then ?_ | refine quiet_block ?_ | exact quiet_body)) ⟨(fun j u hj => by rw [Nat.zero_add]; exact (SX.1 j u hj).1), (rz)⟩ (fun Q' hQK hq hns hHeld => ?_)
        generalize wr.drew = w9 at *
        refine AnyW.next (i := 0) (v := .agg [x0, x1, x2, x3, x4, x5, x6, x7, x8, x9, x10].toArray) hq hns hHeld rfl rfl (by kernel_rfl) (yieldsIf_load_mid (by rfl) 30 (.tmp 2) rfl n 0 rfl [x0, x1, x2, x3, x4, x5, x6, x7, x8, x9, x10] _ (fun w' h => h.1) Tryz.underlying30 rfl (infoD.trans (by rfl))) ?_
        try simp only [List.setIfInBounds_toArray, List.set_cons_zero, List.set_cons_succ]
        refine AnyW.nextT (i := 1) (v := ?_) hq hns (.inr hHeld) rfl rfl (by kernel_rfl) (Or.inl ⟨by rfl, ?_⟩) ?_
        rotate_left
        · intro w' _; go_simp <;> with_reducible rfl
        try simp only [List.setIfInBounds_toArray, List.set_cons_zero, List.set_cons_succ]
        refine AnyW.nextT (i := 2) (v := ?_) hq hns (.inr hHeld) rfl rfl (by kernel_rfl) (Or.inl ⟨by rfl, ?_⟩) ?_
        rotate_left
        · intro w' _; go_simp <;> with_reducible rfl
        try simp only [List.setIfInBounds_toArray, List.set_cons_zero, List.set_cons_succ]
        refine AnyW.nextT (i := 3) (v := ?_) hq hns (.inr hHeld) rfl rfl (by kernel_rfl) (Or.inl ⟨by rfl, ?_⟩) ?_
        rotate_left
        · intro w' _; go_simp <;> with_reducible rfl
        try simp only [List.setIfInBounds_toArray, List.set_cons_zero, List.set_cons_succ]
        refine AnyW.next (i := 4) (v := .agg [z0, z1, z2, z3, z4, z5, z6, z7, z8, z9, z10].toArray) hq hns hHeld rfl rfl (by kernel_rfl) (yieldsIf_load_mid (by rfl) 30 (.tmp 30) rfl g (k * 11) rfl [z0, z1, z2, z3, z4, z5, z6, z7, z8, z9, z10] _ (fun w' h => h.2) Tryz.underlying30 rfl (infoD.trans (by rfl))) ?_
        try simp only [List.setIfInBounds_toArray, List.set_cons_zero, List.set_cons_succ]
        refine AnyW.one 5 (by kernel_rfl) rfl (fun K' hK => ?_)
        go_simp
        refine (rsame_go _ x y (Nat.le_refl _) _ _ w9 (RX.snd hP (by omega)) (re.snd hP (by omega))).mono ?_
        rintro e w5 ⟨rfl, B5⟩
        go_wp2_with fail
        have SX := SX.nx B5
        have S1 := S1.nx B5
        have RX := RX.keeps hP (by omega) B5
        have re := re.keeps hP (by omega) B5
        have M1 := M1.keep (fun b hb => Nat.lt_of_lt_of_le (hP b hb) (by omega)) B5
        have O1 := O1.below (fun b hb => Nat.lt_of_lt_of_le (hP b hb) (by omega)) B5
        have BB := BB.trans (B5.mono (by omega))
        have hgw := Nat.lt_of_lt_of_le hgw B5.size
        have rz := range_nx rz B5 (by omega)
        have hN := Nat.le_trans hN B5.size
        refine hK.out _ _ (.inr ⟨(fun j u hj => by rw [Nat.zero_add]; exact (SX.1 j u hj).1), (rz)⟩) (fun hG => ?_)
        have hHeld := hG.resolve_left (notGone.spec (by rfl))
        clear hK K' hG
        try simp only [List.setIfInBounds_toArray, List.set_cons_zero, List.set_cons_succ]
        obtain ⟨z, hz⟩ : ∃ z, Hid (sameD x y = z) := ⟨_, Lib.hid rfl⟩
        rw [hz.out]
        refine AnyW.nextT (i := 6) (v := ?_) hq hns (.inr hHeld) rfl rfl (by kernel_rfl) (Or.inl ⟨by rfl, ?_⟩) ?_
        rotate_left
        · intro w' _; go_simp <;> with_reducible rfl
        try simp only [List.setIfInBounds_toArray, List.set_cons_zero, List.set_cons_succ]
        refine AnyW.done (by kernel_rfl) (hQK.out _ _ ?_)
        clear hQK hq hns hHeld
        cases z with
        | true =>
          have hm2 := hno.out hz.out
          replace hm2 := Lib.hid hm2
          go_upto_region 7 with fail
          go_wp2_with fail
          go_roundg (l.length - (k + 1))
          case measure => omega
          case rel => exact ⟨k + 1, A8, c8, m, by simp, rfl, by omega, by omega, hm2.out.symm, by omega, O1, SX, S1, RX, M1, BB, hN, fun _ => ⟨by trivial, hgw⟩⟩
        | false =>
          have hm2 := hyes.out hz.out
          replace hm2 := Lib.hid hm2
          have k0 := rz 0 _ rfl; have k1 := rz 1 _ rfl; have k2 := rz 2 _ rfl; have k3 := rz 3 _ rfl; have k4 := rz 4 _ rfl; have k5 := rz 5 _ rfl; have k6 := rz 6 _ rfl; have k7 := rz 7 _ rfl; have k8 := rz 8 _ rfl; have k9 := rz 9 _ rfl; have k10 := rz 10 _ rfl
          simp only [Nat.add_zero] at k0
          obtain ⟨ls1, O, hl2, h3⟩ := O1
          have S5 := SB.new w5 [z0, z1, z2, z3, z4, z5, z6, z7, z8, z9, z10] 30
          have Ba := bal w5 (.cells #[z0, z1, z2, z3, z4, z5, z6, z7, z8, z9, z10] 30)
          have hz1 : (w5.alloc (.cells #[z0, z1, z2, z3, z4, z5, z6, z7, z8, z9, z10] 30)).heap.size = w5.heap.size + 1 := by simp
          go_upto_region 7 with (at_builtin; refine wp_appD _ rfl _ _ rfl q _ _ _ ls1 rfl hl2.symm (O.alloc _) w5.heap.size _ ⟨[z0, z1, z2, z3, z4, z5, z6, z7, z8, z9, z10], rfl, oz⟩ rfl (fun j u hj => (S5.1 j u hj).1) (by omega) (by omega) ?_; intro A3 c3 w6 O2 G2)
          clear k0 k1 k2 k3 k4 k5 k6 k7 k8 k9 k10
          have Bw : Below q w5 w6 := (Ba.mono hN).trans G2
          have hP3 : ∀ b, P b → b < q := fun b hb => by have := hP b hb; omega
          have h3 : ∀ (i : Nat) (y : Dat), m[i]? = some y → ∃ cs : C11, ls1[i]? = some cs ∧ RDP w6 P y (.agg cs.1.toArray) := fun i y hy => by
            obtain ⟨cs, e, h4⟩ := h3 i y hy
            exact ⟨cs, e, h4.keep hP3 Bw⟩
          have OO : ROw w6 q P A3 c3 (m ++ [y]) := ROw.push O2 hl2 h3 (re.keep hP3 Bw)
          have hml2 : (m ++ [y]).length = m.length + 1 := by simp
          have SX := SX.lo Bw (by omega)
          have S1 := S1.lo Bw (by omega)
          have RX := RX.keep hP3 Bw
          have hgq1 := hgq (by omega)
          have M1 : RowM w6 P g 0 l := fun i y hy => by
            obtain ⟨cs, h1, h2, h3⟩ := M1 i y hy
            exact ⟨cs, h1, ⟨fun j v hv => ⟨(Bw.cell (p := ⟨g, _, none⟩) hgq1).trans (h2.1 j v hv).1, (Bw.frozen (p := ⟨g, _, none⟩) hgq1).trans (h2.1 j v hv).2⟩, Nat.lt_of_lt_of_le h2.2 Bw.size⟩, h3.keep hP3 Bw⟩
          have BB := BB.trans (Bw.mono (by omega))
          have hN := Nat.le_trans hN Bw.size
          have hgw := Nat.lt_of_lt_of_le hgw Bw.size
          clear O O2 S5 Ba Bw G2 re h3
          generalize m ++ [y] = m2 at *
          replace hml2 := Lib.hid hml2
          go_wp2_with fail
          go_roundg (l.length - (k + 1))
          case measure => omega
          case rel => exact ⟨k + 1, A3, c3, m2, by simp, by rw [hml2.out], by omega, by omega, hm2.out.symm, by have := hml2.out; omega, OO, SX, S1, RX, M1, BB, hN, fun _ => ⟨by trivial, hgw⟩⟩
      · have hkz : ¬ (k : Int) < (l.length : Int) := by omega
        have hml2 : m = l.filter (fun y => !sameD x y) := by rw [hm.out, List.take_of_length_le (by omega)]
        rw [← hml2] at hta
        have Lm := (O1.rls (by omega) : RLs wr (Out P q wr) A8 c8 m)
        have Lm : RLs wr (Out P (n + 3) wr) A8 c8 m := Lm.step (fun _ _ => rfl) (fun b hb => hb.up hq3 (Nat.le_refl _))
        have hN : n + 3 ≤ wr.heap.size := by omega
        clear hml2 hm
        go_upto_region 10 with fail
        go_wp2_with fail
        refine (rNil_any wr).mono ?_
        rintro e w4 ⟨vn, rfl, Rn, B4⟩
        have S1 := S1.nx B4
        have Lm := Lm.go hP (by omega) B4
        have BB := BB.trans (B4.mono (by omega))
        have hN := Nat.le_trans hN B4.size
        have Rn := Rn w4 (Out P (n + 3) w4)
        go_wp2_with fail
        refine (rList_any A8 c8 m nilD vn w4 (Out P (n + 3) w4) (Out.all hP (by omega)) Lm Rn).mono ?_
        rintro e w5 ⟨vf, rfl, Rf, B5⟩
        have Rf := Rf.res (m := n + 3) hN B5.size
        have S1 := S1.nx B5
        have Lm := Lm.go hP (by omega) B5
        have BB := BB.trans (B5.mono (by omega))
        have hN := Nat.le_trans hN B5.size
        obtain ⟨cs, rfl, cl, co⟩ := Rf.agg
        match cs, cl, co with
        | [q0, q1, q2, q3, q4, q5, q6, q7, q8, q9, q10], _, co =>
        go_wp2_with (refine wp_stD rfl rfl (.tmp 4) (.tmp 43) rfl (n + 2) rfl [q0, q1, q2, q3, q4, q5, q6, q7, q8, q9, q10] rfl rfl _ S1 rfl co ?_)
        have S2 := S1.cells [q0, q1, q2, q3, q4, q5, q6, q7, q8, q9, q10] rfl
        have r0 := S2.cell 0; have r1 := S2.cell 1; have r2 := S2.cell 2; have r3 := S2.cell 3; have r4 := S2.cell 4; have r5 := S2.cell 5; have r6 := S2.cell 6; have r7 := S2.cell 7; have r8 := S2.cell 8; have r9 := S2.cell 9; have r10 := S2.cell 10
        refine bodyPost_ret (v := .tuple #[.agg #[q0, q1, q2, q3, q4, q5, q6, q7, q8, q9, q10], .int .i64 0]) (by simp [results, r0, r1, r2, r3, r4, r5, r6, r7, r8, r9, r10, go_sem]) rfl ?_
        try rw [hn]
        rw [hta.out.1, hta.out.2]
        exact ⟨_, rfl, (Rf.scO hP (by omega) (g := n + 2) (by omega) (by omega) 0 [q0, q1, q2, q3, q4, q5, q6, q7, q8, q9, q10]).from_ (by omega), below_cso BB (by omega) 0 [q0, q1, q2, q3, q4, q5, q6, q7, q8, q9, q10]⟩

end Go.Proofs.YtilhnjecnhpmlaaGreatDoor
