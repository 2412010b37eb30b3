/- Merged texts: LisF, LisG, MemL, LisH. -/
import Derived.Test.YtilhnjecnhpmlaaDoorGL
import Derived.Test.YtilhnjecnhpmlaaDoorGK
namespace Go.Proofs.YtilhnjecnhpmlaaDoor
open Go.RowKit

theorem listE_cases (d : Dat) : listE d = 2 ∨ listE d = 10 ∨ listE d = 0 := by
  unfold listE
  split
  · split
    · exact .inr (.inr rfl)
    · exact .inr (.inl rfl)
  · exact .inl rfl
theorem ROw.form {w : World} {base : Nat} {Q : Nat → Prop} {A : Option Addr} {c : Nat} {l : List Dat} (h : ROw w base Q A c l) : (A = none ∧ c = 0 ∧ l = []) ∨ ∃ g, A = some ⟨g, 0, none⟩ := by
  obtain ⟨ls, h1, h2, -⟩ := h
  rcases h1.form with ⟨h3, h4, rfl⟩ | ⟨g, h3, _⟩
  · exact .inl ⟨h3, h4, List.eq_nil_of_length_eq_zero h2.symm⟩
  · exact .inr ⟨g, h3⟩
/-- an answer made of a list's items, or the list's error -/
def ansD (d : Dat) (m : Dat) : Dat := if listE d = 0 then fitD m else zeroD
def ansE (d : Dat) (m : Dat) : Int := if listE d = 0 then fitE m else listE d
theorem ans_err {d m : Dat} (h : listE d ≠ 0) : ansD d m = zeroD ∧ ansE d m = listE d := by unfold ansD ansE; simp [h]
theorem ans_ok {d m : Dat} (h : listE d = 0) : ansD d m = fitD m ∧ ansE d m = fitE m := by unfold ansD ansE; simp [h]
def revD (d : Dat) : Dat := joinD (listL d).reverse nilD

set_option maxRecDepth 100000 in
set_option maxHeartbeats 8000000 in
theorem lreverse_any (d : Dat) (v : Value) (w : World) (P : Nat → Prop) (hP : ∀ b, P b → b < w.heap.size) (hR : RDP w P d v) (hT : Tabs w) :
    Calls Tryd.prog 11 #[v] w fun e w' => ∃ v', e = .returned (.tuple #[v', .int .i64 (ansE d (revD d))]) ∧ RDP w' (Out P w.heap.size w') (ansD d (revD d)) v' ∧ Below w.heap.size w w' := by
  obtain ⟨ls, rfl, ll, lo⟩ := hR.agg
  match ls, ll, lo with
  | [y0, y1, y2, y3, y4, y5, y6, y7, y8, y9, y10], _, lo =>
  have S0 := SB.new w [y0, y1, y2, y3, y4, y5, y6, y7, y8, y9, y10] 31
  have BB := bal w (.cells #[y0, y1, y2, y3, y4, y5, y6, y7, y8, y9, y10] 31)
  have S1 := SB.new (w.alloc (.cells #[y0, y1, y2, y3, y4, y5, y6, y7, y8, y9, y10] 31)) [.int .i64 0, .int .i64 0, .bool false, .slice none 0 0, .slice none 0 0, .bool false, .slice none 0 0, .slice none 0 0, .string { data := #[] }, .slice none 0 0, .slice none 0 0] 31
  have z1 : (w.alloc (.cells #[y0, y1, y2, y3, y4, y5, y6, y7, y8, y9, y10] 31)).heap.size = w.heap.size + 1 := by simp
  have B1 := bal (w.alloc (.cells #[y0, y1, y2, y3, y4, y5, y6, y7, y8, y9, y10] 31)) (.cells #[.int .i64 0, .int .i64 0, .bool false, .slice none 0 0, .slice none 0 0, .bool false, .slice none 0 0, .slice none 0 0, .string { data := #[] }, .slice none 0 0, .slice none 0 0] 31)
  have S0 := S0.nx B1
  have BB := bt BB B1
  rw [z1] at S1
  clear B1 z1
  have R0 : RDP _ P d _ := hR.step (fun z hz => BB.block z (hP z hz)) (fun z hz => hz)
  obtain ⟨W0, hW0⟩ : ∃ W0, W0 = (w.alloc (.cells #[y0, y1, y2, y3, y4, y5, y6, y7, y8, y9, y10] 31)).alloc (.cells #[.int .i64 0, .int .i64 0, .bool false, .slice none 0 0, .slice none 0 0, .bool false, .slice none 0 0, .slice none 0 0, .string { data := #[] }, .slice none 0 0, .slice none 0 0] 31) := ⟨_, rfl⟩
  have hN : w.heap.size + 2 ≤ W0.heap.size := by rw [hW0]; simp
  rw [← hW0] at S0 S1 BB R0
  go_enter Tryd.func11, Tryd.ntmps11
  go_upto_region 1 with fail
  rw [← hW0]
  clear hW0 hR
  generalize hn : w.heap.size = n at *
  have k0 := S0.cell 0; have k1 := S0.cell 1; have k2 := S0.cell 2; have k3 := S0.cell 3; have k4 := S0.cell 4; have k5 := S0.cell 5; have k6 := S0.cell 6; have k7 := S0.cell 7; have k8 := S0.cell 8; have k9 := S0.cell 9; have k10 := S0.cell 10
  go_wp2_with fail
  refine (lread_any d _ W0 P (fun z hz => by have := hP z hz; omega) R0 (hT.go hn BB)).mono ?_
  rintro e w2 ⟨A, c, rfl, O2, B2⟩
  clear k0 k1 k2 k3 k4 k5 k6 k7 k8 k9 k10
  have S1 := S1.nx B2
  have BB := BB.trans (B2.mono (by omega))
  have hlc := O2.len
  obtain ⟨g, hg1, hg, M0⟩ := O2.mut'
  have hform := O2.form
  have hg1 : n + 2 ≤ g := by omega
  have hN := Nat.le_trans hN B2.size
  have hlen := listL_len d
  clear S0 R0 O2 B2
  rcases listE_cases d with he | he | he
  · rw [he]
    go_wp2_with (refine wp_stD rfl rfl (.tmp 2) (.tmp 13) rfl (n + 1) rfl [.int .i64 0, .int .i64 0, .bool false, .slice none 0 0, .slice none 0 0, .bool false, .slice none 0 0, .slice none 0 0, .string { data := #[] }, .slice none 0 0, .slice none 0 0] rfl rfl _ S1 rfl (by simp [Value.oneCell']) ?_)
    have S2 := S1.cells [.int .i64 0, .int .i64 0, .bool false, .slice none 0 0, .slice none 0 0, .bool false, .slice none 0 0, .slice none 0 0, .string { data := #[] }, .slice none 0 0, .slice none 0 0] rfl
    have r0 := S2.cell 0; have r1 := S2.cell 1; have r2 := S2.cell 2; have r3 := S2.cell 3; have r4 := S2.cell 4; have r5 := S2.cell 5; have r6 := S2.cell 6; have r7 := S2.cell 7; have r8 := S2.cell 8; have r9 := S2.cell 9; have r10 := S2.cell 10
    refine bodyPost_ret (v := .tuple #[.agg #[.int .i64 0, .int .i64 0, .bool false, .slice none 0 0, .slice none 0 0, .bool false, .slice none 0 0, .slice none 0 0, .string { data := #[] }, .slice none 0 0, .slice none 0 0], .int .i64 2]) (by simp [results, r0, r1, r2, r3, r4, r5, r6, r7, r8, r9, r10, go_sem]) rfl ?_
    try rw [hn]
    rw [(ans_err (by rw [he]; decide)).1, (ans_err (by rw [he]; decide)).2, he]
    exact ⟨_, rfl, rd_zeroD _ _, below_cso BB (by omega) 0 [.int .i64 0, .int .i64 0, .bool false, .slice none 0 0, .slice none 0 0, .bool false, .slice none 0 0, .slice none 0 0, .string { data := #[] }, .slice none 0 0, .slice none 0 0]⟩
  · rw [he]
    go_wp2_with (refine wp_stD rfl rfl (.tmp 2) (.tmp 13) rfl (n + 1) rfl [.int .i64 0, .int .i64 0, .bool false, .slice none 0 0, .slice none 0 0, .bool false, .slice none 0 0, .slice none 0 0, .string { data := #[] }, .slice none 0 0, .slice none 0 0] rfl rfl _ S1 rfl (by simp [Value.oneCell']) ?_)
    have S2 := S1.cells [.int .i64 0, .int .i64 0, .bool false, .slice none 0 0, .slice none 0 0, .bool false, .slice none 0 0, .slice none 0 0, .string { data := #[] }, .slice none 0 0, .slice none 0 0] rfl
    have r0 := S2.cell 0; have r1 := S2.cell 1; have r2 := S2.cell 2; have r3 := S2.cell 3; have r4 := S2.cell 4; have r5 := S2.cell 5; have r6 := S2.cell 6; have r7 := S2.cell 7; have r8 := S2.cell 8; have r9 := S2.cell 9; have r10 := S2.cell 10
    refine bodyPost_ret (v := .tuple #[.agg #[.int .i64 0, .int .i64 0, .bool false, .slice none 0 0, .slice none 0 0, .bool false, .slice none 0 0, .slice none 0 0, .string { data := #[] }, .slice none 0 0, .slice none 0 0], .int .i64 10]) (by simp [results, r0, r1, r2, r3, r4, r5, r6, r7, r8, r9, r10, go_sem]) rfl ?_
    try rw [hn]
    rw [(ans_err (by rw [he]; decide)).1, (ans_err (by rw [he]; decide)).2, he]
    exact ⟨_, rfl, rd_zeroD _ _, below_cso BB (by omega) 0 [.int .i64 0, .int .i64 0, .bool false, .slice none 0 0, .slice none 0 0, .bool false, .slice none 0 0, .slice none 0 0, .string { data := #[] }, .slice none 0 0, .slice none 0 0]⟩
  · rw [he]
    generalize hl0 : listL d = l at *
    replace hl0 := Lib.hid hl0
    replace he := Lib.hid he
    clear hform
    go_upto_region 4 with fail
    go_wp2_with fail
    refine (srev_any A c l g 0 w2 P (fun h => (hg h).1) (fun b hb => by have := hP b hb; omega) M0 (by omega)).mono ?_
    rintro e w3 ⟨rfl, M3, B3, hs3⟩
    have S1 := S1.lo B3 (by omega)
    have BB := BB.trans (B3.mono (by omega))
    have hN : n + 2 ≤ w3.heap.size := by omega
    have L3 : RLs w3 (Out P (n + 2) w3) A c l.reverse := M3.rls' (by rw [List.length_reverse]; exact hlc) (by rw [List.length_reverse]; omega) (fun h => (hg (by rw [List.length_reverse] at h; exact h)).1) (fun b hb => .inl hb) (fun h => .inr ⟨by omega, by have := (hg (by rw [List.length_reverse] at h; exact h)).2; omega⟩)
    clear M0 M3 hg B3
    go_wp2_with fail
    refine (none_any w3).mono ?_
    rintro e w4 ⟨vn, rfl, Rn, B4⟩
    have S1 := S1.nx B4
    have L3 := L3.go hP (by omega) B4
    have BB := BB.trans (B4.mono (by omega))
    have hN := Nat.le_trans hN B4.size
    have Rn := Rn w4 (Out P (n + 2) w4)
    have cj := join_any A c l.reverse nilD vn w4 (Out P (n + 2) w4) (Out.all hP (by omega)) L3 Rn
    rw [List.length_reverse] at cj
    go_wp2_with fail
    refine cj.mono ?_
    clear cj
    rintro e w5 ⟨vj, rfl, Rj, B5⟩
    have Rj := Rj.res hN B5.size
    have S1 := S1.nx B5
    have L3 := L3.go hP (by omega) B5
    have BB := BB.trans (B5.mono (by omega))
    have hN := Nat.le_trans hN B5.size
    go_wp2_with fail
    refine (lfit_any _ vj w5 _ (Out.all hP (by omega)) Rj (hT.go hn BB)).mono ?_
    rintro e w6 ⟨vf, rfl, Rf, B6⟩
    have Rf := Rf.res hN B6.size
    have S1 := S1.nx B6
    have L3 := L3.go hP (by omega) B6
    have BB := BB.trans (B6.mono (by omega))
    have hN := Nat.le_trans hN B6.size
    obtain ⟨cs, rfl, cl, co⟩ := Rf.agg
    match cs, cl, co with
    | [x0, x1, x2, x3, x4, x5, x6, x7, x8, x9, x10], _, co =>
    go_wp2_with (refine wp_stD rfl rfl (.tmp 2) (.tmp 21) rfl (n + 1) rfl [x0, x1, x2, x3, x4, x5, x6, x7, x8, x9, x10] rfl rfl _ S1 rfl co ?_)
    have S2 := S1.cells [x0, x1, x2, x3, x4, x5, x6, x7, x8, x9, x10] rfl
    have r0 := S2.cell 0; have r1 := S2.cell 1; have r2 := S2.cell 2; have r3 := S2.cell 3; have r4 := S2.cell 4; have r5 := S2.cell 5; have r6 := S2.cell 6; have r7 := S2.cell 7; have r8 := S2.cell 8; have r9 := S2.cell 9; have r10 := S2.cell 10
    refine bodyPost_ret (v := .tuple #[.agg #[x0, x1, x2, x3, x4, x5, x6, x7, x8, x9, x10], .int .i64 (fitE (joinD l.reverse nilD))]) (by simp [results, r0, r1, r2, r3, r4, r5, r6, r7, r8, r9, r10, go_sem]) rfl ?_
    try rw [hn]
    rw [(ans_ok he.out).1, (ans_ok he.out).2]
    unfold revD
    rw [hl0.out]
    exact ⟨_, rfl, (Rf.scO hP (by omega) (g := n + 1) (by omega) (by omega) 0 [x0, x1, x2, x3, x4, x5, x6, x7, x8, x9, x10]).from_ (by omega), below_cso BB (by omega) 0 [x0, x1, x2, x3, x4, x5, x6, x7, x8, x9, x10]⟩

end Go.Proofs.YtilhnjecnhpmlaaDoor
namespace Go.Proofs.YtilhnjecnhpmlaaDoor
open Go.RowKit

/-- an answer of Tail -/
def tailD (d : Dat) (k : Int) : Dat := if listE d = 0 then if k < 0 ∨ ((listL d).length : Int) < k then zeroD else fitD (joinD ((listL d).drop k.toNat) nilD) else zeroD
def tailE (d : Dat) (k : Int) : Int := if listE d = 0 then if k < 0 ∨ ((listL d).length : Int) < k then 1 else fitE (joinD ((listL d).drop k.toNat) nilD) else listE d
theorem tail_err {d : Dat} {k : Int} (h : listE d ≠ 0) : tailD d k = zeroD ∧ tailE d k = listE d := by unfold tailD tailE; simp [h]
theorem tail_arg {d : Dat} {k : Int} (h : listE d = 0) (hk : k < 0 ∨ ((listL d).length : Int) < k) : tailD d k = zeroD ∧ tailE d k = 1 := by unfold tailD tailE; rw [if_pos h, if_pos h, if_pos hk, if_pos hk]; exact ⟨rfl, rfl⟩
theorem tail_ok {d : Dat} {k : Nat} (h : listE d = 0) (hk : k ≤ (listL d).length) : tailD d k = fitD (joinD ((listL d).drop k) nilD) ∧ tailE d k = fitE (joinD ((listL d).drop k) nilD) := by
  unfold tailD tailE
  rw [if_pos h, if_pos h, if_neg (by omega), if_neg (by omega)]
  exact ⟨rfl, rfl⟩
set_option maxRecDepth 100000 in
set_option maxHeartbeats 8000000 in
theorem ltail_any (d : Dat) (v : Value) (k : Int) (w : World) (P : Nat → Prop) (hP : ∀ b, P b → b < w.heap.size) (hR : RDP w P d v) (hT : Tabs w) :
    Calls Tryd.prog 10 #[v, .int .i64 k] w fun e w' => ∃ v', e = .returned (.tuple #[v', .int .i64 (tailE d k)]) ∧ RDP w' (Out P w.heap.size w') (tailD d k) v' ∧ Below w.heap.size w w' := by
  obtain ⟨ls, rfl, ll, lo⟩ := hR.agg
  match ls, ll, lo with
  | [y0, y1, y2, y3, y4, y5, y6, y7, y8, y9, y10], _, lo =>
  have S0 := SB.new w [y0, y1, y2, y3, y4, y5, y6, y7, y8, y9, y10] 31
  have BB := bal w (.cells #[y0, y1, y2, y3, y4, y5, y6, y7, y8, y9, y10] 31)
  have S1 := SB.new (w.alloc (.cells #[y0, y1, y2, y3, y4, y5, y6, y7, y8, y9, y10] 31)) [.int .i64 0, .int .i64 0, .bool false, .slice none 0 0, .slice none 0 0, .bool false, .slice none 0 0, .slice none 0 0, .string { data := #[] }, .slice none 0 0, .slice none 0 0] 31
  have z1 : (w.alloc (.cells #[y0, y1, y2, y3, y4, y5, y6, y7, y8, y9, y10] 31)).heap.size = w.heap.size + 1 := by simp
  have B1 := bal (w.alloc (.cells #[y0, y1, y2, y3, y4, y5, y6, y7, y8, y9, y10] 31)) (.cells #[.int .i64 0, .int .i64 0, .bool false, .slice none 0 0, .slice none 0 0, .bool false, .slice none 0 0, .slice none 0 0, .string { data := #[] }, .slice none 0 0, .slice none 0 0] 31)
  have S0 := S0.nx B1
  have BB := bt BB B1
  rw [z1] at S1
  clear B1 z1
  have R0 : RDP _ P d _ := hR.step (fun z hz => BB.block z (hP z hz)) (fun z hz => hz)
  obtain ⟨W0, hW0⟩ : ∃ W0, W0 = (w.alloc (.cells #[y0, y1, y2, y3, y4, y5, y6, y7, y8, y9, y10] 31)).alloc (.cells #[.int .i64 0, .int .i64 0, .bool false, .slice none 0 0, .slice none 0 0, .bool false, .slice none 0 0, .slice none 0 0, .string { data := #[] }, .slice none 0 0, .slice none 0 0] 31) := ⟨_, rfl⟩
  have hN : w.heap.size + 2 ≤ W0.heap.size := by rw [hW0]; simp
  rw [← hW0] at S0 S1 BB R0
  go_enter Tryd.func10, Tryd.ntmps10
  go_upto_region 1 with fail
  rw [← hW0]
  clear hW0 hR
  generalize hn : w.heap.size = n at *
  have k0 := S0.cell 0; have k1 := S0.cell 1; have k2 := S0.cell 2; have k3 := S0.cell 3; have k4 := S0.cell 4; have k5 := S0.cell 5; have k6 := S0.cell 6; have k7 := S0.cell 7; have k8 := S0.cell 8; have k9 := S0.cell 9; have k10 := S0.cell 10
  go_wp2_with fail
  refine (lread_any d _ W0 P (fun z hz => by have := hP z hz; omega) R0 (hT.go hn BB)).mono ?_
  rintro e w2 ⟨A, c, rfl, O2, B2⟩
  clear k0 k1 k2 k3 k4 k5 k6 k7 k8 k9 k10
  have S1 := S1.nx B2
  have BB := BB.trans (B2.mono (by omega))
  have hlc := O2.len
  obtain ⟨g, hg1, hg, M0⟩ := O2.mut'
  have hform := O2.form
  have hg1 : n + 2 ≤ g := by omega
  have hN := Nat.le_trans hN B2.size
  have hlen := listL_len d
  clear S0 R0 O2 B2
  rcases listE_cases d with he | he | he
  · rw [he]
    go_upto_region 3 with fail
    go_wp2_with (refine wp_stD rfl rfl (.tmp 4) (.tmp 16) rfl (n + 1) rfl [.int .i64 0, .int .i64 0, .bool false, .slice none 0 0, .slice none 0 0, .bool false, .slice none 0 0, .slice none 0 0, .string { data := #[] }, .slice none 0 0, .slice none 0 0] rfl rfl _ S1 rfl (by simp [Value.oneCell']) ?_)
    have S2 := S1.cells [.int .i64 0, .int .i64 0, .bool false, .slice none 0 0, .slice none 0 0, .bool false, .slice none 0 0, .slice none 0 0, .string { data := #[] }, .slice none 0 0, .slice none 0 0] rfl
    have r0 := S2.cell 0; have r1 := S2.cell 1; have r2 := S2.cell 2; have r3 := S2.cell 3; have r4 := S2.cell 4; have r5 := S2.cell 5; have r6 := S2.cell 6; have r7 := S2.cell 7; have r8 := S2.cell 8; have r9 := S2.cell 9; have r10 := S2.cell 10
    refine bodyPost_ret (v := .tuple #[.agg #[.int .i64 0, .int .i64 0, .bool false, .slice none 0 0, .slice none 0 0, .bool false, .slice none 0 0, .slice none 0 0, .string { data := #[] }, .slice none 0 0, .slice none 0 0], .int .i64 2]) (by simp [results, r0, r1, r2, r3, r4, r5, r6, r7, r8, r9, r10, go_sem]) rfl ?_
    try rw [hn]
    rw [(tail_err (by rw [he]; decide)).1, (tail_err (by rw [he]; decide)).2, he]
    exact ⟨_, rfl, rd_zeroD _ _, below_cso BB (by omega) 0 [.int .i64 0, .int .i64 0, .bool false, .slice none 0 0, .slice none 0 0, .bool false, .slice none 0 0, .slice none 0 0, .string { data := #[] }, .slice none 0 0, .slice none 0 0]⟩
  · rw [he]
    go_upto_region 3 with fail
    go_wp2_with (refine wp_stD rfl rfl (.tmp 4) (.tmp 16) rfl (n + 1) rfl [.int .i64 0, .int .i64 0, .bool false, .slice none 0 0, .slice none 0 0, .bool false, .slice none 0 0, .slice none 0 0, .string { data := #[] }, .slice none 0 0, .slice none 0 0] rfl rfl _ S1 rfl (by simp [Value.oneCell']) ?_)
    have S2 := S1.cells [.int .i64 0, .int .i64 0, .bool false, .slice none 0 0, .slice none 0 0, .bool false, .slice none 0 0, .slice none 0 0, .string { data := #[] }, .slice none 0 0, .slice none 0 0] rfl
    have r0 := S2.cell 0; have r1 := S2.cell 1; have r2 := S2.cell 2; have r3 := S2.cell 3; have r4 := S2.cell 4; have r5 := S2.cell 5; have r6 := S2.cell 6; have r7 := S2.cell 7; have r8 := S2.cell 8; have r9 := S2.cell 9; have r10 := S2.cell 10
    refine bodyPost_ret (v := .tuple #[.agg #[.int .i64 0, .int .i64 0, .bool false, .slice none 0 0, .slice none 0 0, .bool false, .slice none 0 0, .slice none 0 0, .string { data := #[] }, .slice none 0 0, .slice none 0 0], .int .i64 10]) (by simp [results, r0, r1, r2, r3, r4, r5, r6, r7, r8, r9, r10, go_sem]) rfl ?_
    try rw [hn]
    rw [(tail_err (by rw [he]; decide)).1, (tail_err (by rw [he]; decide)).2, he]
    exact ⟨_, rfl, rd_zeroD _ _, below_cso BB (by omega) 0 [.int .i64 0, .int .i64 0, .bool false, .slice none 0 0, .slice none 0 0, .bool false, .slice none 0 0, .slice none 0 0, .string { data := #[] }, .slice none 0 0, .slice none 0 0]⟩
  · rw [he]
    by_cases hka : k < 0 ∨ ((listL d).length : Int) < k
    · have hta := tail_arg he hka
      replace hta := Lib.hid hta
      generalize listL d = l at *
      clear he hform
      by_cases hk0 : k < 0
      · clear hka
        go_upto_region 5 with fail
        go_wp2_with (refine wp_stD rfl rfl (.tmp 4) (.tmp 27) rfl (n + 1) rfl [.int .i64 0, .int .i64 0, .bool false, .slice none 0 0, .slice none 0 0, .bool false, .slice none 0 0, .slice none 0 0, .string { data := #[] }, .slice none 0 0, .slice none 0 0] rfl rfl _ S1 rfl (by simp [Value.oneCell']) ?_)
        have S2 := S1.cells [.int .i64 0, .int .i64 0, .bool false, .slice none 0 0, .slice none 0 0, .bool false, .slice none 0 0, .slice none 0 0, .string { data := #[] }, .slice none 0 0, .slice none 0 0] rfl
        have r0 := S2.cell 0; have r1 := S2.cell 1; have r2 := S2.cell 2; have r3 := S2.cell 3; have r4 := S2.cell 4; have r5 := S2.cell 5; have r6 := S2.cell 6; have r7 := S2.cell 7; have r8 := S2.cell 8; have r9 := S2.cell 9; have r10 := S2.cell 10
        refine bodyPost_ret (v := .tuple #[.agg #[.int .i64 0, .int .i64 0, .bool false, .slice none 0 0, .slice none 0 0, .bool false, .slice none 0 0, .slice none 0 0, .string { data := #[] }, .slice none 0 0, .slice none 0 0], .int .i64 1]) (by simp [results, r0, r1, r2, r3, r4, r5, r6, r7, r8, r9, r10, go_sem]) rfl ?_
        try rw [hn]
        rw [hta.out.1, hta.out.2]
        exact ⟨_, rfl, rd_zeroD _ _, below_cso BB (by omega) 0 [.int .i64 0, .int .i64 0, .bool false, .slice none 0 0, .slice none 0 0, .bool false, .slice none 0 0, .slice none 0 0, .string { data := #[] }, .slice none 0 0, .slice none 0 0]⟩
      · have hk1 : (l.length : Int) < k := hka.resolve_left hk0
        clear hka
        go_upto_region 5 with fail
        go_wp2_with (refine wp_stD rfl rfl (.tmp 4) (.tmp 27) rfl (n + 1) rfl [.int .i64 0, .int .i64 0, .bool false, .slice none 0 0, .slice none 0 0, .bool false, .slice none 0 0, .slice none 0 0, .string { data := #[] }, .slice none 0 0, .slice none 0 0] rfl rfl _ S1 rfl (by simp [Value.oneCell']) ?_)
        have S2 := S1.cells [.int .i64 0, .int .i64 0, .bool false, .slice none 0 0, .slice none 0 0, .bool false, .slice none 0 0, .slice none 0 0, .string { data := #[] }, .slice none 0 0, .slice none 0 0] rfl
        have r0 := S2.cell 0; have r1 := S2.cell 1; have r2 := S2.cell 2; have r3 := S2.cell 3; have r4 := S2.cell 4; have r5 := S2.cell 5; have r6 := S2.cell 6; have r7 := S2.cell 7; have r8 := S2.cell 8; have r9 := S2.cell 9; have r10 := S2.cell 10
        refine bodyPost_ret (v := .tuple #[.agg #[.int .i64 0, .int .i64 0, .bool false, .slice none 0 0, .slice none 0 0, .bool false, .slice none 0 0, .slice none 0 0, .string { data := #[] }, .slice none 0 0, .slice none 0 0], .int .i64 1]) (by simp [results, r0, r1, r2, r3, r4, r5, r6, r7, r8, r9, r10, go_sem]) rfl ?_
        try rw [hn]
        rw [hta.out.1, hta.out.2]
        exact ⟨_, rfl, rd_zeroD _ _, below_cso BB (by omega) 0 [.int .i64 0, .int .i64 0, .bool false, .slice none 0 0, .slice none 0 0, .bool false, .slice none 0 0, .slice none 0 0, .string { data := #[] }, .slice none 0 0, .slice none 0 0]⟩
    · obtain ⟨q, rfl⟩ : ∃ q : Nat, k = q := ⟨k.toNat, by omega⟩
      have hql : q ≤ (listL d).length := by omega
      have hta := tail_ok he hql
      replace hta := Lib.hid hta
      generalize hl0 : listL d = l at *
      replace hl0 := Lib.hid hl0
      clear he
      have hk0 : ¬ (q : Int) < 0 := by omega
      have hk1 : ¬ (l.length : Int) < (q : Int) := by omega
      go_upto_region 6 with fail
      have L2 : ∀ A' c', (0 < (l.drop q).length → A' = some ⟨g, 0 + q * 11, none⟩) → (l.drop q).length ≤ c' → RLs w2 (Out P (n + 2) w2) A' c' (l.drop q) := fun A' c' h1 h2 => (M0.drop q).rls' h2 (by rw [List.length_drop]; omega) h1 (fun b hb => .inl hb) (fun h => .inr ⟨by omega, (hg (by rw [List.length_drop] at h; omega)).2⟩)
      obtain ⟨A', c', hA', hsl, hc'⟩ : ∃ (A' : Option Addr) (c' : Nat), (0 < (l.drop q).length → A' = some ⟨g, 0 + q * 11, none⟩) ∧ Hid ((A = none ∧ c = 0 ∧ l = [] ∧ A' = none ∧ c' = 0) ∨ ∃ b : Nat, A = some (⟨b, 0, none⟩ : Addr) ∧ A' = (if c = q then some ⟨b, 0, none⟩ else some ⟨b, q * 11, none⟩) ∧ c' = c - q) ∧ (l.drop q).length ≤ c' := by
        rcases hform with ⟨rfl, rfl, rfl⟩ | ⟨b, rfl⟩
        · exact ⟨none, 0, fun h => by simp at h, .inl ⟨rfl, rfl, rfl, rfl, rfl⟩, by simp⟩
        · refine ⟨if c = q then some ⟨b, 0, none⟩ else some ⟨b, q * 11, none⟩, c - q, fun h => ?_, .inr ⟨b, rfl, rfl, rfl⟩, by rw [List.length_drop]; omega⟩
          rw [List.length_drop] at h
          have := (hg (by omega)).1
          simp only [Option.some.injEq, Addr.mk.injEq, and_true] at this
          rw [if_neg (by omega), this, Nat.zero_add]
      have L2 := L2 A' c' hA' hc'
      have hlq : (l.drop q).length = l.length - q := List.length_drop
      replace hlq := Lib.hid hlq
      generalize l.drop q = m at *
      have Dw := (Below.refl w2.heap.size w2).drew
      have S1 := S1.nx Dw
      have L2 := L2.go hP (by omega) Dw
      have BB := BB.trans (Dw.mono (by omega))
      have hN := Nat.le_trans hN Dw.size
      clear Dw
      refine AnyW.regionQ (fun _ => false) 10 (fun w' => True) rfl (by kernel_rfl) (by kernel_rfl) (by repeat (first | refine quiet_then ?_ | refine quiet_block ?_ | exact quiet_body)) trivial (fun Q' hQK hq hns hHeld => ?_)
      generalize w2.drew = w9 at *
      refine AnyW.nextT (i := 0) (v := ?_) hq hns (.inr hHeld) rfl rfl (by kernel_rfl) (Or.inl ⟨by rfl, ?_⟩) ?_
      rotate_left
      · intro w' _; go_simp <;> with_reducible rfl
      try simp only [List.setIfInBounds_toArray, List.set_cons_zero, List.set_cons_succ]
      refine AnyW.nextT (i := 1) (v := ?_) hq hns (.inr hHeld) rfl rfl (by kernel_rfl) (Or.inl ⟨by rfl, ?_⟩) ?_
      rotate_left
      · intro w' _; go_simp <;> with_reducible rfl
      try simp only [List.setIfInBounds_toArray, List.set_cons_zero, List.set_cons_succ]
      refine AnyW.nextT (i := 2) (v := .slice A' m.length c') hq hns (.inr hHeld) rfl rfl (by kernel_rfl) (Or.inl ⟨by rfl, ?_⟩) ?_
      · intro w' _
        rcases hsl.out with ⟨rfl, rfl, rfl, rfl, rfl⟩ | ⟨b, rfl, rfl, rfl⟩
        · obtain rfl : q = 0 := by simpa using hql
          rw [hlq.out]
          go_simp
        · rw [hlq.out]
          go_simp
      try simp only [List.setIfInBounds_toArray, List.set_cons_zero, List.set_cons_succ]

      refine AnyW.one 3 (by kernel_rfl) rfl (fun K' hK => ?_)
      go_simp
      refine (none_any w9).mono ?_
      rintro e w4 ⟨vn, rfl, Rn, B4⟩
      have Rn := Rn w4 (Out P (n + 2) w4)
      go_wp2_with fail
      have S1 := S1.nx B4
      have L2 := L2.go hP (by omega) B4
      have BB := BB.trans (B4.mono (by omega))
      have hN := Nat.le_trans hN B4.size
      refine hK.out _ _ (.inr trivial) (fun hG => ?_)
      have hHeld := hG.resolve_left (notGone.spec (by rfl))
      clear hK K' hG
      try simp only [List.setIfInBounds_toArray, List.set_cons_zero, List.set_cons_succ]
      refine AnyW.one 4 (by kernel_rfl) rfl (fun K' hK => ?_)
      go_simp
      refine (join_any A' c' m nilD vn w4 (Out P (n + 2) w4) (Out.all hP (by omega)) L2 Rn).mono ?_
      rintro e w5 ⟨vj, rfl, Rj, B5⟩
      have Rj := Rj.res hN B5.size
      go_wp2_with fail
      have S1 := S1.nx B5
      have L2 := L2.go hP (by omega) B5
      have BB := BB.trans (B5.mono (by omega))
      have hN := Nat.le_trans hN B5.size
      refine hK.out _ _ (.inr trivial) (fun hG => ?_)
      have hHeld := hG.resolve_left (notGone.spec (by rfl))
      clear hK K' hG
      try simp only [List.setIfInBounds_toArray, List.set_cons_zero, List.set_cons_succ]
      refine AnyW.one 5 (by kernel_rfl) rfl (fun K' hK => ?_)
      go_simp
      refine (lfit_any _ vj w5 _ (Out.all hP (by omega)) Rj (hT.go hn BB)).mono ?_
      rintro e w6 ⟨vf, rfl, Rf, B6⟩
      have Rf := Rf.res hN B6.size
      go_wp2_with fail
      have S1 := S1.nx B6
      have L2 := L2.go hP (by omega) B6
      have BB := BB.trans (B6.mono (by omega))
      have hN := Nat.le_trans hN B6.size
      refine hK.out _ _ (.inr trivial) (fun hG => ?_)
      have hHeld := hG.resolve_left (notGone.spec (by rfl))
      clear hK K' hG
      try simp only [List.setIfInBounds_toArray, List.set_cons_zero, List.set_cons_succ]
      clear Rj L2 Rn
      obtain ⟨cs, rfl, cl, co⟩ := Rf.agg
      match cs, cl, co with
      | [x0, x1, x2, x3, x4, x5, x6, x7, x8, x9, x10], _, co =>
      refine AnyW.nextT (i := 6) (v := ?_) hq hns (.inr hHeld) rfl rfl (by kernel_rfl) (Or.inl ⟨by rfl, ?_⟩) ?_
      rotate_left
      · intro w' _; go_simp <;> with_reducible rfl
      try simp only [List.setIfInBounds_toArray, List.set_cons_zero, List.set_cons_succ]
      refine AnyW.nextT (i := 7) (v := ?_) hq hns (.inr hHeld) rfl rfl (by kernel_rfl) (Or.inl ⟨by rfl, ?_⟩) ?_
      rotate_left
      · intro w' _; go_simp <;> with_reducible rfl
      try simp only [List.setIfInBounds_toArray, List.set_cons_zero, List.set_cons_succ]
      refine AnyW.one 8 (by kernel_rfl) rfl (fun K' hK => ?_)
      refine step_stDo rfl rfl (.tmp 4) (.tmp 34) rfl (n + 1) 0 rfl [x0, x1, x2, x3, x4, x5, x6, x7, x8, x9, x10] rfl rfl S1.th co ?_
      obtain ⟨w7, hw7⟩ : ∃ w7, w7 = w6.setCells (n + 1) 0 [x0, x1, x2, x3, x4, x5, x6, x7, x8, x9, x10] := ⟨_, rfl⟩
      have S1 : SB w7 (n + 1) [x0, x1, x2, x3, x4, x5, x6, x7, x8, x9, x10] := by rw [hw7]; exact S1.cells [x0, x1, x2, x3, x4, x5, x6, x7, x8, x9, x10] rfl
      have BB := below_cso BB (b := n + 1) (by omega) 0 [x0, x1, x2, x3, x4, x5, x6, x7, x8, x9, x10]; rw [← hw7] at BB
      have Rf := Rf.scO hP (by omega) (g := n + 1) (by omega) (by omega) 0 [x0, x1, x2, x3, x4, x5, x6, x7, x8, x9, x10]; rw [← hw7] at Rf
      have hN : n + 2 ≤ w7.heap.size := by rw [hw7, size_sc]; exact hN
      rw [← hw7]
      clear hw7
      refine hK.out _ _ (.inr trivial) (fun hG => ?_)
      have hHeld := hG.resolve_left (notGone.spec (by rfl))
      clear hK K' hG
      try simp only [List.setIfInBounds_toArray, List.set_cons_zero, List.set_cons_succ]
      refine AnyW.nextT (i := 9) (v := ?_) hq hns (.inr hHeld) rfl rfl (by kernel_rfl) (Or.inl ⟨by rfl, ?_⟩) ?_
      rotate_left
      · intro w' _; go_simp <;> with_reducible rfl
      try simp only [List.setIfInBounds_toArray, List.set_cons_zero, List.set_cons_succ]
      refine AnyW.done (by kernel_rfl) (hQK.out _ _ ?_)
      clear hQK hq hns hHeld
      go_wp2_with fail
      have r0 := S1.cell 0; have r1 := S1.cell 1; have r2 := S1.cell 2; have r3 := S1.cell 3; have r4 := S1.cell 4; have r5 := S1.cell 5; have r6 := S1.cell 6; have r7 := S1.cell 7; have r8 := S1.cell 8; have r9 := S1.cell 9; have r10 := S1.cell 10
      refine bodyPost_ret (v := .tuple #[.agg #[x0, x1, x2, x3, x4, x5, x6, x7, x8, x9, x10], .int .i64 (fitE (joinD m nilD))]) (by simp [results, r0, r1, r2, r3, r4, r5, r6, r7, r8, r9, r10, go_sem]) rfl ?_
      try rw [hn]
      rw [hta.out.1, hta.out.2]
      exact ⟨_, rfl, Rf.from_ (by omega), BB⟩

end Go.Proofs.YtilhnjecnhpmlaaDoor
namespace Go.Proofs.YtilhnjecnhpmlaaDoor
open Go.RowKit

theorem run_append_nilk {P : Program} (w : World) {base size : Nat} {T ty e : TypeId} {i : TypeInfo} (ht : P.underlying T = some (.slice e)) (hi : P.info? e = some i)
    {v : Value} {n : Nat} {xs : List Value} (hown : w.ownsRow base e size v n xs) (ad : Option Addr) (d : Nat) : (Builtin.append_ #[T, T] ty #[v, .slice ad 0 d]).run P w = .ok v w := by
  cases ad with
  | none =>
    rcases hown.2 with ⟨rfl, rfl⟩ | ⟨g, cap, cur, rfl, _, _, hnc, _⟩
    · simp [Builtin.append_, run_underlying ht, sizeOf, typeInfo, hi, Builtin.lenOf, Builtin.firstCells]
    · simp [Builtin.append_, run_underlying ht, sizeOf, typeInfo, hi, Builtin.lenOf, Builtin.firstCells, hnc, storeCells]
  | some ad =>
    rcases hown.2 with ⟨rfl, rfl⟩ | ⟨g, cap, cur, rfl, _, _, hnc, _⟩
    · simp [Builtin.append_, run_underlying ht, sizeOf, typeInfo, hi, Builtin.lenOf, Builtin.firstCells, loadCells, loadCellsFrom]
    · simp [Builtin.append_, run_underlying ht, sizeOf, typeInfo, hi, Builtin.lenOf, Builtin.firstCells, hnc, storeCells, loadCells, loadCellsFrom]
/-- append(v, r...) -/
theorem wp_appK {P : Program} (w : World) {ops : Array Oper} {rest : List Oper} {o : Oper} {a : Act} {Q : Exit → Act → World → Prop}
    (T e : TypeId) {α : Type} (k : Nat) (f : α → List Value) (z : Value) (by_ : Nat) (hu : P.underlying T = some (.slice e)) (hi : (P.info? e).map (fun i => (i.zero, i.size, i.bytes)) = some (some z, k, by_)) (hz : z.cells.size = k) (hk0 : 0 < k)
    (hf : ∀ x : α, (f x).length = k) (h1 : ∀ (x : α), ∀ u ∈ f x, u.oneCell' = true)
    (hg : o.guard = none) (s x : Operand) (hop : o.op = Op.call { callee := Callee.builtin Builtin.append, args := #[s, x], argTypes := #[T, T] })
    (base : Nat) (A : Option Addr) (c n : Nat) (l : List α) (hs : a.eval s = .slice A n c) (hn : n = l.length) (hown : OK e k f w base A c l)
    (D : Option Addr) (d m : Nat) (r : List α) (hx : a.eval x = .slice D m d) (hm : m = r.length) (hr : 0 < r.length → ∃ b off, D = some ⟨b, off, none⟩ ∧ ∀ j u, (r.flatMap f)[j]? = some u → w.cell? ⟨b, off + j, none⟩ = some u)
    (hlen : l.length + r.length ≤ 35184372088832) (hby : (l.length + r.length) * by_ ≤ 140737488355328) (hbase : base ≤ w.heap.size)
    (hK : ∀ A' c' w', OK e k f w' base A' c' (l ++ r) → w.grownBy w' (Value.slice A n c).ownBlock → wpList P ops Q rest (a.put o.dst (.slice A' (l.length + r.length) c')) w') :
    wpList P ops Q (o :: rest) a w := by
  obtain ⟨i, hi, h0, hi1, h2⟩ := info_parts hi
  subst hn
  subst hm
  refine wpList_plain hg fun K hK' => ?_
  obtain ⟨v', w', hrun, q1, q2⟩ : ∃ v' w', (Builtin.append_ #[T, T] o.type #[.slice A l.length c, .slice D r.length d]).run P w = .ok v' w' ∧ w'.ownsRow base e k v' (l.length + r.length) (l.flatMap f ++ r.flatMap f) ∧ w.grownBy w' (Value.slice A l.length c).ownBlock := by
    by_cases hr0 : 0 < r.length
    · obtain ⟨b, off, rfl, hc⟩ := hr hr0
      obtain ⟨v', w', hrun, q1, q2, _, q4⟩ := run_append_own_at (P := P) w base T o.type e i z k by_ hu hi h0 hi1 h2 hz hk0 (.slice A l.length c) l.length (l.flatMap f) hown ⟨b, off, none⟩ r.length d (r.flatMap f) (len_flat hf r)
        (fun j u hj => by rw [Addr.add_lit]; exact hc j u hj) (fun u hu => by obtain ⟨y, _, hy⟩ := List.mem_flatMap.1 hu; exact h1 y u hy) (by unfold maxLen; omega) hby hbase
      exact ⟨v', w', hrun, q1, q2⟩
    · obtain rfl : r = [] := List.eq_nil_of_length_eq_zero (by omega)
      exact ⟨_, w, run_append_nilk w hu hi hown D d, by unfold OK at hown; simpa using hown, World.grownBy.refl w _⟩
  have e1 : l.flatMap f ++ r.flatMap f = (l ++ r).flatMap f := by simp
  have e2 : (l ++ r).length = l.length + r.length := by simp
  rw [e1] at q1
  unfold Oper.wp execOp
  simp only [hop, resolve, invoke, builtin, Sem.run_bind, Sem.run_pure, Result.andThen_ok, List.map_toArray, List.map_cons, List.map_nil, hs, hx, hrun]
  rcases q1.2 with ⟨rfl, hz⟩ | ⟨g, cap, cur, rfl, a1⟩
  · have h3 := hK none 0 w' (by unfold OK; rw [e2, hz]; rw [hz] at q1; exact q1) q2
    rw [hz] at h3
    exact hK' _ _ h3
  · exact hK' _ _ (hK (some ⟨g, 0, none⟩) cap w' (by unfold OK; rw [e2]; exact q1) q2)
end Go.Proofs.YtilhnjecnhpmlaaDoor
namespace Go.Proofs.YtilhnjecnhpmlaaDoor
open Go.RowKit

/-- the element at i -/
theorem RLs.at_ {w : World} {P : Nat → Prop} {A : Option Addr} {c : Nat} {l : List Dat} (h : RLs w P A c l) {i : Nat} (hi : i < l.length) :
    ∃ b off, A = some ⟨b, off, none⟩ ∧ P b ∧ ∃ cs : List Value, cs.length = 11 ∧ (∀ u ∈ cs, u.oneCell' = true) ∧ RDP w P l[i] (.agg cs.toArray) ∧ w.rangeAt b (off + i * 11) cs := by
  obtain ⟨b, off, hA, hb, hds⟩ := h.2.2 (by omega)
  obtain ⟨vx, Rx, cx⟩ := hds.get (List.getElem?_eq_getElem hi)
  obtain ⟨xs, rfl, xl, xo⟩ := Rx.agg
  exact ⟨b, off, hA, hb, xs, xl, xo, Rx, fun j u hj => by have := cx _ rfl j u (by simpa using hj); simpa using this⟩
/-- append of a row to another -/
theorem wp_appR (w : World) {ops : Array Oper} {rest : List Oper} {o : Oper} {a : Act} {Q : Exit → Act → World → Prop}
    (hg : o.guard = none) (s x : Operand) (hop : o.op = Op.call { callee := Callee.builtin Builtin.append, args := #[s, x], argTypes := #[22, 22] })
    (base : Nat) (P : Nat → Prop) (A : Option Addr) (c : Nat) (l : List Dat) (hs : a.eval s = .slice A l.length c) (hown : ROw w base P A c l)
    (base2 : Nat) (D : Option Addr) (d : Nat) (r : List Dat) (hx : a.eval x = .slice D r.length d) (hr : ROw w base2 P D d r)
    (hP : ∀ b, P b → b < base) (hlen : l.length + r.length ≤ 700000000000) (hbase : base ≤ w.heap.size)
    (hK : ∀ A' c' w', ROw w' base P A' c' (l ++ r) → Below base w w' → wpList Tryd.prog ops Q rest (a.put o.dst (.slice A' (l ++ r).length c')) w') :
    wpList Tryd.prog ops Q (o :: rest) a w := by
  obtain ⟨ls, h1, h2, h3⟩ := hown
  obtain ⟨rs, g1, g2, g3⟩ := hr
  refine wp_appK w 22 31 11 (fun x : C11 => x.1) (.agg #[.int .i64 0, .int .i64 0, .bool false, .slice none 0 0, .slice none 0 0, .bool false, .slice none 0 0, .slice none 0 0, .string { data := #[] }, .slice none 0 0, .slice none 0 0]) 192 Tryd.underlying22 infoDf rfl (by decide) (fun x => x.2.1) (fun x u hu => x.2.2 u hu) hg s x hop base A c l.length ls hs h2.symm h1 D d r.length rs hx g2.symm
    (fun h0 => ?_) (by omega) (by omega) hbase (fun A' c' w' k1 k2 => ?_)
  · rcases g1.form with ⟨_, _, rfl⟩ | ⟨g, rfl, -⟩
    · simp at h0
    · exact ⟨g, 0, rfl, fun j u hj => by rw [Nat.zero_add]; have := World.ownsRow.cells g1 (g := g) rfl j u hj; rw [Addr.add_lit, Nat.zero_add] at this; exact this⟩
  · have B : Below base w w' := (Below.refl _ _).grown k2 hbase (by
      intro k hk
      rcases h1.form with ⟨rfl, _⟩ | ⟨g, rfl, hb, _⟩
      · simp [Value.ownBlock] at hk
      · simp [Value.ownBlock] at hk; omega)
    have := hK A' c' w' ⟨ls ++ rs, k1, by simp [h2, g2], fun i y hy => ?_⟩ B
    · rw [List.length_append] at this; rw [h2, g2]; exact this
    · by_cases hi : i < l.length
      · rw [List.getElem?_append_left hi] at hy
        obtain ⟨cs, e, h4⟩ := h3 i y hy
        exact ⟨cs, by rw [List.getElem?_append_left (by omega)]; exact e, h4.keep hP B⟩
      · rw [List.getElem?_append_right (by omega)] at hy
        obtain ⟨cs, e, h4⟩ := g3 _ y hy
        exact ⟨cs, by rw [List.getElem?_append_right (by omega), h2]; exact e, h4.keep hP B⟩
/-- the lists' items, and the last -/
def appJ (l : List Dat) : Dat := joinD ((l.take (l.length - 1)).flatMap fun d => d.parts.1) (l.getD (l.length - 1) nilD)
def appE (l : List Dat) : Int := if l.length = 0 then 0 else if l.all (fun d => d.sound vU) = false then 2 else if (l.take (l.length - 1)).all (fun d => d.parts.2.k == 1) = false then 10 else fitE (appJ l)
def appD (l : List Dat) : Dat := if l.length = 0 then nilD else if l.all (fun d => d.sound vU) = false then zeroD else if (l.take (l.length - 1)).all (fun d => d.parts.2.k == 1) = false then zeroD else fitD (appJ l)
theorem app_none {l : List Dat} (h : l.length = 0) : appD l = nilD ∧ appE l = 0 := by unfold appD appE; rw [if_pos h, if_pos h]; exact ⟨rfl, rfl⟩
theorem app_bad {l : List Dat} {i : Nat} (hi : i < l.length) (h : l[i].sound vU = false) : appD l = zeroD ∧ appE l = 2 := by
  have : l.all (fun d => d.sound vU) = false := List.all_eq_false.2 ⟨l[i], List.getElem_mem hi, by simp [h]⟩
  have h0 : ¬ l.length = 0 := by omega
  unfold appD appE; simp only [if_neg h0, if_pos this, and_self]
theorem all_of {l : List Dat} {f : Dat → Bool} (h : ∀ i (hi : i < l.length), f l[i] = true) : l.all f = true := List.all_eq_true.2 fun x hx => by
  obtain ⟨i, hi, rfl⟩ := List.getElem_of_mem hx
  exact h i hi
theorem app_type {l : List Dat} {i : Nat} (hs : ∀ i (hi : i < l.length), l[i].sound vU = true) (hi : i < l.length - 1) (h : (l[i].parts.2.k == 1) = false) : appD l = zeroD ∧ appE l = 10 := by
  have h1 : l.all (fun d => d.sound vU) = true := all_of hs
  have h2 : (l.take (l.length - 1)).all (fun d => d.parts.2.k == 1) = false := List.all_eq_false.2 ⟨l[i], List.mem_take_iff_getElem.2 ⟨i, by omega, rfl⟩, by simpa using h⟩
  have h0 : ¬ l.length = 0 := by omega
  have h1 : ¬ l.all (fun d => d.sound vU) = false := by rw [h1]; decide
  unfold appD appE; simp only [if_neg h0, if_neg h1, if_pos h2, and_self]
theorem app_fit {l : List Dat} (h0 : 0 < l.length) (hs : ∀ i (hi : i < l.length), l[i].sound vU = true) (h : ∀ i (hi : i < l.length - 1), (l[i].parts.2.k == 1) = true) : appD l = fitD (appJ l) ∧ appE l = fitE (appJ l) := by
  have h1 : l.all (fun d => d.sound vU) = true := all_of hs
  have h2 : (l.take (l.length - 1)).all (fun d => d.parts.2.k == 1) = true := all_of fun i hi => by
    rw [List.getElem_take]
    rw [List.length_take] at hi
    exact h i (by omega)
  have h0 : ¬ l.length = 0 := by omega
  have h1 : ¬ l.all (fun d => d.sound vU) = false := by rw [h1]; decide
  have h2 : ¬ (l.take (l.length - 1)).all (fun d => d.parts.2.k == 1) = false := by rw [h2]; decide
  unfold appD appE; simp only [if_neg h0, if_neg h1, if_neg h2, and_self]
theorem take_step {l : List Dat} {k : Nat} (hk : k < l.length) : (l.take (k + 1)).flatMap (fun d => d.parts.1) = (l.take k).flatMap (fun d => d.parts.1) ++ l[k].parts.1 := by
  rw [List.take_succ_eq_append_getElem hk, List.flatMap_append, List.flatMap_cons, List.flatMap_nil, List.append_nil]

set_option maxRecDepth 100000 in
set_option maxHeartbeats 16000000 in
theorem lappend_any (A : Option Addr) (c : Nat) (l : List Dat) (w : World) (P : Nat → Prop) (hP : ∀ b, P b → b < w.heap.size) (hL : RLs w P A c l) (hll : l.length ≤ 2000000) (hT : Tabs w) :
    Calls Tryd.prog 9 #[.slice A l.length c] w fun e w' => ∃ v', e = .returned (.tuple #[v', .int .i64 (appE l)]) ∧ RDP w' (Out P w.heap.size w') (appD l) v' ∧ Below w.heap.size w w' := by
  have S1 := SB.new w [.int .i64 0, .int .i64 0, .bool false, .slice none 0 0, .slice none 0 0, .bool false, .slice none 0 0, .slice none 0 0, .string { data := #[] }, .slice none 0 0, .slice none 0 0] 31
  have BB := bal w (.cells #[.int .i64 0, .int .i64 0, .bool false, .slice none 0 0, .slice none 0 0, .bool false, .slice none 0 0, .slice none 0 0, .string { data := #[] }, .slice none 0 0, .slice none 0 0] 31)
  have L0 : RLs _ P A c l := hL.step (fun z hz => BB.block z (hP z hz)) (fun z hz => hz)
  obtain ⟨W0, hW0⟩ : ∃ W0, W0 = w.alloc (.cells #[.int .i64 0, .int .i64 0, .bool false, .slice none 0 0, .slice none 0 0, .bool false, .slice none 0 0, .slice none 0 0, .string { data := #[] }, .slice none 0 0, .slice none 0 0] 31) := ⟨_, rfl⟩
  have hN : w.heap.size + 1 ≤ W0.heap.size := by rw [hW0]; simp
  rw [← hW0] at S1 BB L0
  go_enter Tryd.func9, Tryd.ntmps9
  go_upto_region 1 with fail
  rw [← hW0]
  clear hW0 hL
  generalize hn : w.heap.size = n at *
  by_cases h0 : l.length = 0
  · have hta := app_none h0
    replace hta := Lib.hid hta
    rw [h0]
    go_wp2_with fail
    refine (none_any W0).mono ?_
    rintro e w1 ⟨vn, rfl, Rn, B1⟩
    have S1 := S1.nx B1
    have BB := BB.trans (B1.mono (by omega))
    have hN := Nat.le_trans hN B1.size
    have Rn := Rn w1 P
    obtain ⟨cs, rfl, cl, co⟩ := Rn.agg
    match cs, cl, co with
    | [x0, x1, x2, x3, x4, x5, x6, x7, x8, x9, x10], _, co =>
    go_wp2_with (refine wp_stD rfl rfl (.tmp 2) (.tmp 15) rfl (n) rfl [x0, x1, x2, x3, x4, x5, x6, x7, x8, x9, x10] rfl rfl _ S1 rfl co ?_)
    have S2 := S1.cells [x0, x1, x2, x3, x4, x5, x6, x7, x8, x9, x10] rfl
    have r0 := S2.cell 0; have r1 := S2.cell 1; have r2 := S2.cell 2; have r3 := S2.cell 3; have r4 := S2.cell 4; have r5 := S2.cell 5; have r6 := S2.cell 6; have r7 := S2.cell 7; have r8 := S2.cell 8; have r9 := S2.cell 9; have r10 := S2.cell 10
    refine bodyPost_ret (v := .tuple #[.agg #[x0, x1, x2, x3, x4, x5, x6, x7, x8, x9, x10], .int .i64 0]) (by simp [results, r0, r1, r2, r3, r4, r5, r6, r7, r8, r9, r10, go_sem]) rfl ?_
    try rw [hn]
    rw [hta.out.1, hta.out.2]
    exact ⟨_, rfl, (Rn.scP hP (by omega) (g := n) (Nat.le_refl _) 0 [x0, x1, x2, x3, x4, x5, x6, x7, x8, x9, x10]).out _ |>.from_ (Nat.le_refl _), below_cso BB (Nat.le_refl _) 0 [x0, x1, x2, x3, x4, x5, x6, x7, x8, x9, x10]⟩
  · have h0z : ((l.length : Int) == 0) = false := by simpa using h0
    go_upto_region 4 with fail
    clear h0z
    go_loopg [18] l.length (fun gk s18 wx => ∃ k : Nat, s18 = .int .i64 (k : Int) ∧ k + gk = l.length ∧ SB wx n [.int .i64 0, .int .i64 0, .bool false, .slice none 0 0, .slice none 0 0, .bool false, .slice none 0 0, .slice none 0 0, .string { data := #[] }, .slice none 0 0, .slice none 0 0] ∧ RLs wx P A c l ∧ Below n w wx ∧ n + 1 ≤ wx.heap.size ∧ ∀ i (hi : i < l.length), i < k → l[i].sound vU = true)
    case atStart => exact ⟨0, rfl, by omega, S1, L0, BB, hN, fun i _ h => by omega⟩
    case round =>
      clear S1 L0 BB hN
      obtain ⟨k, rfl, hgk, S1, L1, B1, hN, hs⟩ := hrel
      by_cases hk : k < l.length
      · have hkz : (k : Int) < (l.length : Int) := by omega
        obtain ⟨b, off, rfl, hPb, cs, cl, co, Rx, rx⟩ := L1.at_ hk
        match cs, cl, co with
        | [x0, x1, x2, x3, x4, x5, x6, x7, x8, x9, x10], _, co =>
        have k0 := rx 0 _ rfl; have k1 := rx 1 _ rfl; have k2 := rx 2 _ rfl; have k3 := rx 3 _ rfl; have k4 := rx 4 _ rfl; have k5 := rx 5 _ rfl; have k6 := rx 6 _ rfl; have k7 := rx 7 _ rfl; have k8 := rx 8 _ rfl; have k9 := rx 9 _ rfl; have k10 := rx 10 _ rfl
        simp only [Nat.add_zero] at k0
        have Sg := SB.new wr [.int .i64 0, .int .i64 0, .bool false, .slice none 0 0, .slice none 0 0, .bool false, .slice none 0 0, .slice none 0 0, .string { data := #[] }, .slice none 0 0, .slice none 0 0] 31
        obtain ⟨w4, hw4⟩ : ∃ w4, w4 = (wr.alloc (.cells #[.int .i64 0, .int .i64 0, .bool false, .slice none 0 0, .slice none 0 0, .bool false, .slice none 0 0, .slice none 0 0, .string { data := #[] }, .slice none 0 0, .slice none 0 0] 31)).setCells wr.heap.size 0 [x0, x1, x2, x3, x4, x5, x6, x7, x8, x9, x10] := ⟨_, rfl⟩
        have Bw4 : Below wr.heap.size wr w4 := by rw [hw4]; exact below_cso (bal wr _) (Nat.le_refl _) 0 [x0, x1, x2, x3, x4, x5, x6, x7, x8, x9, x10]
        have S4 : SB w4 wr.heap.size [x0, x1, x2, x3, x4, x5, x6, x7, x8, x9, x10] := by rw [hw4]; exact Sg.cells [x0, x1, x2, x3, x4, x5, x6, x7, x8, x9, x10] rfl
        have hgwr : n + 1 ≤ wr.heap.size := hN
        replace hw4 := Lib.hid hw4
        go_upto_region 6 with (refine wp_stD rfl rfl (.tmp 5) (.tmp 21) rfl wr.heap.size rfl [x0, x1, x2, x3, x4, x5, x6, x7, x8, x9, x10] rfl rfl _ Sg rfl co ?_; rw [← hw4.out]; clear hw4)
        clear Sg rx
        clear k0 k1 k2 k3 k4 k5 k6 k7 k8 k9 k10
        have S1 := S1.nx Bw4
        have L1 := L1.keeps hP (by omega) Bw4
        have B1 := B1.trans (Bw4.mono (by omega))
        have Rx := Rx.keeps hP (by omega) Bw4
        have hN := Nat.le_trans hN Bw4.size
        have k0 := S4.cell 0; have k1 := S4.cell 1; have k2 := S4.cell 2; have k3 := S4.cell 3; have k4 := S4.cell 4; have k5 := S4.cell 5; have k6 := S4.cell 6; have k7 := S4.cell 7; have k8 := S4.cell 8; have k9 := S4.cell 9; have k10 := S4.cell 10
        go_wp2_with fail
        refine (dsound_any vU l[k] _ w4 (Rx.snd hP (by omega)) (hT.go hn B1).vs).mono ?_
        rintro e w5 ⟨rfl, B5⟩
        clear k0 k1 k2 k3 k4 k5 k6 k7 k8 k9 k10
        have S1 := S1.nx B5
        have L1 := L1.keeps hP (by omega) B5
        have B1 := B1.trans (B5.mono (by omega))
        have Rx := Rx.keeps hP (by omega) B5
        have hN := Nat.le_trans hN B5.size
        obtain ⟨z, hz⟩ : ∃ z, Hid (l[k].sound vU = z) := ⟨_, Lib.hid rfl⟩
        rw [hz.out]
        cases z with
        | false =>
          have hta := app_bad hk hz.out
          replace hta := Lib.hid hta
          go_wp2_with (refine wp_stD rfl rfl (.tmp 2) (.tmp 25) rfl (n) rfl [.int .i64 0, .int .i64 0, .bool false, .slice none 0 0, .slice none 0 0, .bool false, .slice none 0 0, .slice none 0 0, .string { data := #[] }, .slice none 0 0, .slice none 0 0] rfl rfl _ S1 rfl (by simp [Value.oneCell']) ?_)
          have S2 := S1.cells [.int .i64 0, .int .i64 0, .bool false, .slice none 0 0, .slice none 0 0, .bool false, .slice none 0 0, .slice none 0 0, .string { data := #[] }, .slice none 0 0, .slice none 0 0] rfl
          have r0 := S2.cell 0; have r1 := S2.cell 1; have r2 := S2.cell 2; have r3 := S2.cell 3; have r4 := S2.cell 4; have r5 := S2.cell 5; have r6 := S2.cell 6; have r7 := S2.cell 7; have r8 := S2.cell 8; have r9 := S2.cell 9; have r10 := S2.cell 10
          refine bodyPost_ret (v := .tuple #[.agg #[.int .i64 0, .int .i64 0, .bool false, .slice none 0 0, .slice none 0 0, .bool false, .slice none 0 0, .slice none 0 0, .string { data := #[] }, .slice none 0 0, .slice none 0 0], .int .i64 2]) (by simp [results, r0, r1, r2, r3, r4, r5, r6, r7, r8, r9, r10, go_sem]) rfl ?_
          try rw [hn]
          rw [hta.out.1, hta.out.2]
          exact ⟨_, rfl, rd_zeroD _ _, below_cso B1 (by omega) 0 [.int .i64 0, .int .i64 0, .bool false, .slice none 0 0, .slice none 0 0, .bool false, .slice none 0 0, .slice none 0 0, .string { data := #[] }, .slice none 0 0, .slice none 0 0]⟩
        | true =>
          go_upto_region 8 with fail
          go_wp2_with fail
          go_roundg (l.length - (k + 1))
          case measure => omega
          case rel => exact ⟨k + 1, by simp, by omega, S1, L1, B1, hN, fun i hi h => by
            by_cases e : i = k
            · subst e; exact hz.out
            · exact hs i hi (by omega)⟩
      · have hkz : ¬ (k : Int) < (l.length : Int) := by omega
        have hsn : ∀ i (hi : i < l.length), l[i].sound vU = true := fun i hi => hs i hi (by omega)
        clear hs hgk
        obtain ⟨q, hq⟩ : ∃ q, l.length = q + 1 := ⟨l.length - 1, by omega⟩
        obtain ⟨b, off, rfl, hPb, -⟩ := L1.at_ (i := 0) (by omega)
        have hc := L1.1
        have hcq : q ≤ c := by omega
        go_upto_region 9 with fail
        clear hkz
        have hwl : IntKind.i64.wrap ((l.length : Int) - 1) = (q : Int) := (IntWalk.i64_in _ (by omega)).trans (by omega)
        replace hq := Lib.hid hq
        go_upto_region 12 with fail
        have O0 := ROw.nil wr (n + 1) P
        go_loopg [7, 34] q (fun gk s7 s34 wx => ∃ (k : Nat) (A7 : Option Addr) (c7 : Nat) (m : List Dat), s34 = .int .i64 (k : Int) ∧ s7 = .slice A7 m.length c7 ∧ k + gk = q ∧ m = (l.take k).flatMap (fun d => d.parts.1) ∧ m.length ≤ k * 10000 ∧ ROw wx (n + 1) P A7 c7 m ∧ SB wx n [.int .i64 0, .int .i64 0, .bool false, .slice none 0 0, .slice none 0 0, .bool false, .slice none 0 0, .slice none 0 0, .string { data := #[] }, .slice none 0 0, .slice none 0 0] ∧ RLs wx P (some ⟨b, off, none⟩) c l ∧ Below n w wx ∧ n + 1 ≤ wx.heap.size ∧ ∀ i (hi : i < l.length), i < k → (l[i].parts.2.k == 1) = true)
        case atStart => exact ⟨0, _, _, [], rfl, rfl, by omega, rfl, by simp, O0, S1, L1, B1, hN, fun i _ h => by omega⟩
        case round =>
          clear S1 L1 B1 hN O0 hk
          obtain ⟨k, A7, c7, m, rfl, rfl, hgk, hm, hml, O1, S1, L1, B1, hN, ht⟩ := hrel
          replace hm := Lib.hid hm
          by_cases hk : k < q
          · have hkl : k < l.length := by have := hq.out; omega
            have hkz : (k : Int) < (q : Int) := by omega
            obtain ⟨b', off', e, _, cs, cl, co, Rx, rx⟩ := L1.at_ hkl
            obtain ⟨rfl, rfl⟩ : b' = b ∧ off' = off := by simp only [Option.some.injEq, Addr.mk.injEq, and_true] at e; exact ⟨e.1.symm, e.2.symm⟩
            clear e
            match cs, cl, co with
            | [x0, x1, x2, x3, x4, x5, x6, x7, x8, x9, x10], _, co =>
            have k0 := rx 0 _ rfl; have k1 := rx 1 _ rfl; have k2 := rx 2 _ rfl; have k3 := rx 3 _ rfl; have k4 := rx 4 _ rfl; have k5 := rx 5 _ rfl; have k6 := rx 6 _ rfl; have k7 := rx 7 _ rfl; have k8 := rx 8 _ rfl; have k9 := rx 9 _ rfl; have k10 := rx 10 _ rfl
            simp only [Nat.add_zero] at k0
            have Sg := SB.new wr [.int .i64 0, .int .i64 0, .bool false, .slice none 0 0, .slice none 0 0, .bool false, .slice none 0 0, .slice none 0 0, .string { data := #[] }, .slice none 0 0, .slice none 0 0] 31
            obtain ⟨w4, hw4⟩ : ∃ w4, w4 = (wr.alloc (.cells #[.int .i64 0, .int .i64 0, .bool false, .slice none 0 0, .slice none 0 0, .bool false, .slice none 0 0, .slice none 0 0, .string { data := #[] }, .slice none 0 0, .slice none 0 0] 31)).setCells wr.heap.size 0 [x0, x1, x2, x3, x4, x5, x6, x7, x8, x9, x10] := ⟨_, rfl⟩
            have Bw4 : Below wr.heap.size wr w4 := by rw [hw4]; exact below_cso (bal wr _) (Nat.le_refl _) 0 [x0, x1, x2, x3, x4, x5, x6, x7, x8, x9, x10]
            have S4 : SB w4 wr.heap.size [x0, x1, x2, x3, x4, x5, x6, x7, x8, x9, x10] := by rw [hw4]; exact Sg.cells [x0, x1, x2, x3, x4, x5, x6, x7, x8, x9, x10] rfl
            have hgwr : n + 1 ≤ wr.heap.size := hN
            replace hw4 := Lib.hid hw4
            go_upto_region 14 with (refine wp_stD rfl rfl (.tmp 9) (.tmp 37) rfl wr.heap.size rfl [x0, x1, x2, x3, x4, x5, x6, x7, x8, x9, x10] rfl rfl _ Sg rfl co ?_; rw [← hw4.out]; clear hw4)
            clear Sg rx
            clear k0 k1 k2 k3 k4 k5 k6 k7 k8 k9 k10
            have S1 := S1.nx Bw4
            have L1 := L1.keeps hP (by omega) Bw4
            have B1 := B1.trans (Bw4.mono (by omega))
            have Rx := Rx.keeps hP (by omega) Bw4
            have O1 := O1.below (fun b hb => Nat.lt_of_lt_of_le (hP b hb) (by omega)) Bw4
            have hN := Nat.le_trans hN Bw4.size
            have k0 := S4.cell 0; have k1 := S4.cell 1; have k2 := S4.cell 2; have k3 := S4.cell 3; have k4 := S4.cell 4; have k5 := S4.cell 5; have k6 := S4.cell 6; have k7 := S4.cell 7; have k8 := S4.cell 8; have k9 := S4.cell 9; have k10 := S4.cell 10
            obtain ⟨hj, hk8⟩ := join_parts (hsn k hkl)
            have hplen := join_len vU_nil (hj ▸ hsn k hkl)
            have Rx : RDP w4 P (joinD l[k].parts.1 l[k].parts.2) _ := hj ▸ Rx
            clear hj
            go_wp2_with fail
            refine (litems_any l[k].parts.1 l[k].parts.2 hk8 (by omega) _ w4 P (fun z hz => by have := hP z hz; omega) Rx).mono ?_
            rintro e w5 ⟨A9, c9, rfl, O9, B5⟩
            clear k0 k1 k2 k3 k4 k5 k6 k7 k8 k9 k10
            have S1 := S1.nx B5
            have L1 := L1.keeps hP (by omega) B5
            have B1 := B1.trans (B5.mono (by omega))
            have Rx := Rx.keeps hP (by omega) B5
            have O1 := O1.below (fun b hb => Nat.lt_of_lt_of_le (hP b hb) (by omega)) B5
            have hN := Nat.le_trans hN B5.size
            obtain ⟨z, hz⟩ : ∃ z, Hid ((l[k].parts.2.k == 1) = z) := ⟨_, Lib.hid rfl⟩
            rw [hz.out]
            cases z with
            | false =>
              have hta := app_type hsn (by have := hq.out; omega) hz.out
              replace hta := Lib.hid hta
              go_upto_region 16 with fail
              go_wp2_with (refine wp_stD rfl rfl (.tmp 2) (.tmp 45) rfl (n) rfl [.int .i64 0, .int .i64 0, .bool false, .slice none 0 0, .slice none 0 0, .bool false, .slice none 0 0, .slice none 0 0, .string { data := #[] }, .slice none 0 0, .slice none 0 0] rfl rfl _ S1 rfl (by simp [Value.oneCell']) ?_)
              have S2 := S1.cells [.int .i64 0, .int .i64 0, .bool false, .slice none 0 0, .slice none 0 0, .bool false, .slice none 0 0, .slice none 0 0, .string { data := #[] }, .slice none 0 0, .slice none 0 0] rfl
              have r0 := S2.cell 0; have r1 := S2.cell 1; have r2 := S2.cell 2; have r3 := S2.cell 3; have r4 := S2.cell 4; have r5 := S2.cell 5; have r6 := S2.cell 6; have r7 := S2.cell 7; have r8 := S2.cell 8; have r9 := S2.cell 9; have r10 := S2.cell 10
              refine bodyPost_ret (v := .tuple #[.agg #[.int .i64 0, .int .i64 0, .bool false, .slice none 0 0, .slice none 0 0, .bool false, .slice none 0 0, .slice none 0 0, .string { data := #[] }, .slice none 0 0, .slice none 0 0], .int .i64 10]) (by simp [results, r0, r1, r2, r3, r4, r5, r6, r7, r8, r9, r10, go_sem]) rfl ?_
              try rw [hn]
              rw [hta.out.1, hta.out.2]
              exact ⟨_, rfl, rd_zeroD _ _, below_cso B1 (by omega) 0 [.int .i64 0, .int .i64 0, .bool false, .slice none 0 0, .slice none 0 0, .bool false, .slice none 0 0, .slice none 0 0, .string { data := #[] }, .slice none 0 0, .slice none 0 0]⟩
            | true =>
              have htk := take_step hkl
              generalize hpp : l[k].parts.1 = pp at *
              replace htk := Lib.hid htk
              clear hpp
              go_upto_region 18 with (at_builtin; refine wp_appR _ rfl _ _ rfl (n + 1) P A7 c7 m rfl O1 _ A9 c9 pp rfl O9 (fun z hz => by have := hP z hz; omega) (by omega) (by omega) ?_; intro A3 c3 w6 O3 G3)
              have S1 := S1.lo G3 (by omega)
              have L1 : RLs w6 P _ c l := L1.step (fun z hz => G3.block z (by have := hP z hz; omega)) (fun _ h => h)
              have B1 := B1.trans (G3.mono (by omega))
              have hN := Nat.le_trans hN G3.size
              clear O9 O1 G3
              have hml2 : (m ++ pp).length ≤ (k + 1) * 10000 := by rw [List.length_append, Nat.add_mul]; omega
              have hm2 : m ++ pp = (l.take (k + 1)).flatMap (fun d => d.parts.1) := by rw [htk.out, hm.out]
              have hm2l : m.length + pp.length = (m ++ pp).length := List.length_append.symm
              generalize m ++ pp = m2 at *
              replace hm2l := Lib.hid hm2l
              replace hm2 := Lib.hid hm2
              go_wp2_with fail
              go_roundg (q - (k + 1))
              case measure => omega
              case rel => exact ⟨k + 1, A3, c3, m2, by simp, by rw [hm2l.out], by omega, hm2.out, hml2, O3, S1, L1, B1, hN, fun i hi h => by
                by_cases e : i = k
                · subst e; exact hz.out
                · exact ht i hi (by omega)⟩
          · have hkz : ¬ (k : Int) < (q : Int) := by omega
            obtain rfl : k = q := by omega
            have hkl : k < l.length := by have := hq.out; omega
            have hta := app_fit (by omega) hsn (fun i hi => ht i (by omega) (by have := hq.out; omega))
            have haj : appJ l = joinD m l[k] := by
              unfold appJ
              rw [show l.length - 1 = k by have := hq.out; omega, ← hm.out, List.getD_eq_getElem?_getD, List.getElem?_eq_getElem hkl]; rfl
            rw [haj] at hta
            replace hta := Lib.hid hta
            clear haj ht
            obtain ⟨b', off', e, _, cs, cl, co, Rx, rx⟩ := L1.at_ hkl
            obtain ⟨rfl, rfl⟩ : b' = b ∧ off' = off := by simp only [Option.some.injEq, Addr.mk.injEq, and_true] at e; exact ⟨e.1.symm, e.2.symm⟩
            clear e
            match cs, cl, co with
            | [x0, x1, x2, x3, x4, x5, x6, x7, x8, x9, x10], _, co =>
            have k0 := rx 0 _ rfl; have k1 := rx 1 _ rfl; have k2 := rx 2 _ rfl; have k3 := rx 3 _ rfl; have k4 := rx 4 _ rfl; have k5 := rx 5 _ rfl; have k6 := rx 6 _ rfl; have k7 := rx 7 _ rfl; have k8 := rx 8 _ rfl; have k9 := rx 9 _ rfl; have k10 := rx 10 _ rfl
            simp only [Nat.add_zero] at k0
            have hmL : m.length ≤ 35184372088832 := by omega
            have Lm := (O1.rls hmL : RLs wr (Out P (n + 1) wr) A7 c7 m)
            generalize hlk : l[k] = x at *
            clear hlk hmL
            go_wp2_with fail
            refine (join_any A7 c7 m x _ wr (Out P (n + 1) wr) (Out.all hP (by omega)) Lm (Rx.out _)).mono ?_
            rintro e w5 ⟨vj, rfl, Rj, B5⟩
            have Rj := Rj.res hN B5.size
            clear k0 k1 k2 k3 k4 k5 k6 k7 k8 k9 k10
            have S1 := S1.nx B5
            have B1 := B1.trans (B5.mono (by omega))
            have hN := Nat.le_trans hN B5.size
            go_wp2_with fail
            refine (lfit_any _ vj w5 _ (Out.all hP (by omega)) Rj (hT.go hn B1)).mono ?_
            rintro e w6 ⟨vf, rfl, Rf, B6⟩
            have Rf := Rf.res hN B6.size
            have S1 := S1.nx B6
            have B1 := B1.trans (B6.mono (by omega))
            have hN := Nat.le_trans hN B6.size
            obtain ⟨cs, rfl, cl, co⟩ := Rf.agg
            match cs, cl, co with
            | [z0, z1, z2, z3, z4, z5, z6, z7, z8, z9, z10], _, co =>
            go_wp2_with (refine wp_stD rfl rfl (.tmp 2) (.tmp 57) rfl (n) rfl [z0, z1, z2, z3, z4, z5, z6, z7, z8, z9, z10] rfl rfl _ S1 rfl co ?_)
            have S2 := S1.cells [z0, z1, z2, z3, z4, z5, z6, z7, z8, z9, z10] rfl
            have r0 := S2.cell 0; have r1 := S2.cell 1; have r2 := S2.cell 2; have r3 := S2.cell 3; have r4 := S2.cell 4; have r5 := S2.cell 5; have r6 := S2.cell 6; have r7 := S2.cell 7; have r8 := S2.cell 8; have r9 := S2.cell 9; have r10 := S2.cell 10
            refine bodyPost_ret (v := .tuple #[.agg #[z0, z1, z2, z3, z4, z5, z6, z7, z8, z9, z10], .int .i64 (fitE (joinD m x))]) (by simp [results, r0, r1, r2, r3, r4, r5, r6, r7, r8, r9, r10, go_sem]) rfl ?_
            try rw [hn]
            rw [hta.out.1, hta.out.2]
            exact ⟨_, rfl, (Rf.scO hP (by omega) (g := n) (by omega) (by omega) 0 [z0, z1, z2, z3, z4, z5, z6, z7, z8, z9, z10]).from_ (by omega), below_cso B1 (by omega) 0 [z0, z1, z2, z3, z4, z5, z6, z7, z8, z9, z10]⟩

end Go.Proofs.YtilhnjecnhpmlaaDoor
