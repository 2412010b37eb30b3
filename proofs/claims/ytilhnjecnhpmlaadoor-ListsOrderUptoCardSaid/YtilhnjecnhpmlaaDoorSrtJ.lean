/- Walk of ListsOrder. -/
import Derived.Test.YtilhnjecnhpmlaaDoorGW
namespace Go.Proofs.YtilhnjecnhpmlaaDoor
open Go.RowKit

theorem ocmp_any {a b : Dat} {va vb : Value} {w : World} {z : Int} (hR : RD w w.heap.size a va) (hS : RD w w.heap.size b vb) (hV : VS vU w.heap.size w) (hz : cmpD vU a b = z) :
    Calls Tryd.prog 22 #[va, vb] w fun e w' => e = .returned (.int .i64 z) ∧ Below w.heap.size w w' := by subst hz; exact ecmpd_any vU hR hS hV
theorem oeq_any {a b : Dat} {va vb : Value} {w : World} {z : Bool} (hR : RD w w.heap.size a va) (hS : RD w w.heap.size b vb) (hV : VS vU w.heap.size w) (hz : eqD vU a b = z) :
    Calls Tryd.prog 23 #[va, vb] w fun e w' => e = .returned (.bool z) ∧ Below w.heap.size w w' := by subst hz; exact eequal_any vU hR hS hV
theorem getD_get {l : List Dat} {k : Nat} (hk : k < l.length) : l.getD k nilD = l[k] := by rw [List.getD_eq_getElem?_getD, List.getElem?_eq_getElem hk]; rfl
theorem RLs.take {w : World} {P : Nat → Prop} {A : Option Addr} {c : Nat} {l : List Dat} (h : RLs w P A c l) (k : Nat) : RLs w P A c (l.take k) :=
  ⟨Nat.le_trans (by rw [List.length_take]; omega) h.1, Nat.le_trans (by rw [List.length_take]; omega) h.2.1, fun h0 => by
    have h1 : 0 < l.length := by rw [List.length_take] at h0; omega
    obtain ⟨b, off, hA, hb, -⟩ := h.at_ h1
    refine ⟨b, off, hA, hb, RDPs.of _ _ fun i x hx => ?_⟩
    have hi : i < l.length := by have := (List.getElem?_eq_some_iff.1 hx).1; rw [List.length_take] at this; omega
    obtain ⟨b2, off2, hA2, _, cs, cl, _, Rx, rx⟩ := h.at_ hi
    rw [hA] at hA2
    have e := Option.some.inj hA2
    obtain rfl : b = b2 := congrArg Addr.block e
    obtain rfl : off = off2 := congrArg Addr.off e
    have hx2 : l[i] = x := by
      have h2 := (List.getElem?_eq_some_iff.1 hx).2
      rwa [List.getElem_take] at h2
    exact ⟨cs, cl, hx2 ▸ Rx, rx⟩⟩
set_option maxRecDepth 100000 in
set_option maxHeartbeats 32000000 in
theorem order_walk (A : Option Addr) (c : Nat) (l : List Dat) (x : Dat) (vx : Value) (w : World) (P : Nat → Prop) (hP : ∀ b, P b → b < w.heap.size) (hL : RLs w P A c l) (hX : RDP w P x vx) (hT : Tabs w) :
    Calls Tryd.prog 5 #[.slice A l.length c, vx] w fun e w' => e = .returned (.bool true) ∧ Below w.heap.size w w' := by
  obtain ⟨ls, rfl, ll, lo⟩ := hX.agg
  match ls, ll, lo with
  | [y0, y1, y2, y3, y4, y5, y6, y7, y8, y9, y10], _, lo =>
  have S0 := SB.new w [y0, y1, y2, y3, y4, y5, y6, y7, y8, y9, y10] 31
  have BB := bal w (.cells #[y0, y1, y2, y3, y4, y5, y6, y7, y8, y9, y10] 31)
  have R0 : RDP _ P x _ := hX.step (fun z hz => BB.block z (hP z hz)) (fun z hz => hz)
  have L0 : RLs _ P A c (l.take 300) := (hL.take 300).step (fun z hz => BB.block z (hP z hz)) (fun z hz => hz)
  have hcl := hL.1
  have hbl := hL.2.1
  obtain ⟨W0, hW0⟩ : ∃ W0, W0 = w.alloc (.cells #[y0, y1, y2, y3, y4, y5, y6, y7, y8, y9, y10] 31) := ⟨_, rfl⟩
  have hN : w.heap.size + 1 ≤ W0.heap.size := by rw [hW0]; simp
  rw [← hW0] at S0 BB R0 L0
  clear hL hX
  go_enter Tryd.func5, Tryd.ntmps5
  go_upto_region 1 with fail
  rw [← hW0]
  clear hW0
  generalize hn : w.heap.size = n at *
  replace hn := Lib.hid hn
  obtain ⟨m0, hm0⟩ : ∃ m0, l.take 300 = m0 := ⟨_, rfl⟩
  have hm1 : m0.length = min 300 l.length := by rw [← hm0, List.length_take]
  rw [hm0] at L0
  have hm3 : m0.length ≤ 300 := by omega
  clear hm0
  go_upto_if 21 with fail
  go_cut [0] (fun s0 wx => s0 = .slice A m0.length c ∧ W0 = wx)
  case first =>
    by_cases hs : 300 < l.length
    · have hsz : (300 : Int) < (l.length : Int) := by omega
      have hc3 : 300 ≤ c := by omega
      have hm2 := Lib.hid (show m0.length = 300 by omega)
      clear hm1
      go_wp2_with fail
      go_meet
      exact ⟨by rw [hm2.out], rfl⟩
    · have hsz : ¬ (300 : Int) < (l.length : Int) := by omega
      have hm2 := Lib.hid (show m0.length = l.length by omega)
      clear hm1
      go_wp2_with fail
      go_meet
      exact ⟨by rw [hm2.out], rfl⟩
  case rest =>
  obtain ⟨rfl, rfl⟩ := hcut
  clear hm1 hcl hbl
  clear l
  have hn := hn.out
  have hN1 := hN
  have hN : n ≤ W0.heap.size := by omega
  go_wp2_with fail
  refine (lof_any A c m0 W0 P (fun z hz => by have := hP z hz; omega) L0 (hT.go hn BB)).mono ?_
  rintro e v1_ ⟨vd, rfl, RD, E1_⟩
  have RD := RD.from_ (m := n) hN
  have L0 := L0.keeps hP (by omega) E1_
  have R0 := R0.keeps hP (by omega) E1_
  have S0 := S0.nx E1_
  have BB := BB.trans (E1_.mono (by omega))
  have hN := Nat.le_trans hN E1_.size
  clear E1_
  obtain ⟨cs, rfl, cl, co⟩ := RD.agg
  match cs, cl, co with
  | [d0, d1, d2, d3, d4, d5, d6, d7, d8, d9, d10], _, co =>
  have Sg := SB.new v1_ [.int .i64 0, .int .i64 0, .bool false, .slice none 0 0, .slice none 0 0, .bool false, .slice none 0 0, .slice none 0 0, .string { data := #[] }, .slice none 0 0, .slice none 0 0] 31
  obtain ⟨v2_, hv2_⟩ : ∃ v2_, v2_ = (v1_.alloc (.cells #[.int .i64 0, .int .i64 0, .bool false, .slice none 0 0, .slice none 0 0, .bool false, .slice none 0 0, .slice none 0 0, .string { data := #[] }, .slice none 0 0, .slice none 0 0] 31)).setCells v1_.heap.size 0 [d0, d1, d2, d3, d4, d5, d6, d7, d8, d9, d10] := ⟨_, rfl⟩
  have Bv2_ : Below v1_.heap.size v1_ v2_ := by rw [hv2_]; exact below_cso (bal v1_ _) (Nat.le_refl _) 0 [d0, d1, d2, d3, d4, d5, d6, d7, d8, d9, d10]
  have S5 : SB v2_ v1_.heap.size [d0, d1, d2, d3, d4, d5, d6, d7, d8, d9, d10] := by rw [hv2_]; exact Sg.cells [d0, d1, d2, d3, d4, d5, d6, d7, d8, d9, d10] rfl
  have hgv1_ : n ≤ v1_.heap.size := hN
  replace hv2_ := Lib.hid hv2_
  go_upto_region 4 with (refine wp_stD rfl rfl (.tmp 5) (.tmp 25) rfl v1_.heap.size rfl [d0, d1, d2, d3, d4, d5, d6, d7, d8, d9, d10] rfl rfl _ Sg rfl co ?_; rw [← hv2_.out]; clear hv2_)
  clear Sg co
  have L0 := L0.keeps hP (by omega) Bv2_
  have R0 := R0.keeps hP (by omega) Bv2_
  have S0 := S0.nx Bv2_
  have BB := BB.trans (Bv2_.mono (by omega))
  have RD := RD.go hP (by omega) Bv2_
  have hN := Nat.le_trans hN Bv2_.size
  clear Bv2_
  have kd_0 := S5.cell 0; have kd_1 := S5.cell 1; have kd_2 := S5.cell 2; have kd_3 := S5.cell 3; have kd_4 := S5.cell 4; have kd_5 := S5.cell 5; have kd_6 := S5.cell 6; have kd_7 := S5.cell 7; have kd_8 := S5.cell 8; have kd_9 := S5.cell 9; have kd_10 := S5.cell 10
  go_wp2_with fail
  refine (lsort_any (ofD m0) _ v2_ (Out P n v2_) (Out.all hP (by omega)) RD (hT.go hn BB)).mono ?_
  rintro e v3_ ⟨vs, rfl, RS, E3_⟩
  have RS := RS.res (m := n) hN E3_.size
  have L0 := L0.keeps hP (by omega) E3_
  have R0 := R0.keeps hP (by omega) E3_
  have S0 := S0.nx E3_
  have BB := BB.trans (E3_.mono (by omega))
  have RD := RD.go hP (by omega) E3_
  have S5 := S5.nx E3_
  have hN := Nat.le_trans hN E3_.size
  clear E3_
  clear kd_0 kd_1 kd_2 kd_3 kd_4 kd_5 kd_6 kd_7 kd_8 kd_9 kd_10
  obtain ⟨es, hes⟩ : ∃ es, ansE (ofD m0) (sortD (ofD m0)) = es := ⟨_, rfl⟩
  obtain ⟨sd, hsd⟩ : ∃ sd, ansD (ofD m0) (sortD (ofD m0)) = sd := ⟨_, rfl⟩
  rw [hsd] at RS
  rw [hes]
  replace hes := Lib.hid hes
  replace hsd := Lib.hid hsd
  obtain ⟨cs, rfl, cl, co⟩ := RS.agg
  match cs, cl, co with
  | [s0, s1, s2, s3, s4, s5, s6, s7, s8, s9, s10], _, co =>
  have Sg := SB.new v3_ [.int .i64 0, .int .i64 0, .bool false, .slice none 0 0, .slice none 0 0, .bool false, .slice none 0 0, .slice none 0 0, .string { data := #[] }, .slice none 0 0, .slice none 0 0] 31
  obtain ⟨v4_, hv4_⟩ : ∃ v4_, v4_ = (v3_.alloc (.cells #[.int .i64 0, .int .i64 0, .bool false, .slice none 0 0, .slice none 0 0, .bool false, .slice none 0 0, .slice none 0 0, .string { data := #[] }, .slice none 0 0, .slice none 0 0] 31)).setCells v3_.heap.size 0 [s0, s1, s2, s3, s4, s5, s6, s7, s8, s9, s10] := ⟨_, rfl⟩
  have Bv4_ : Below v3_.heap.size v3_ v4_ := by rw [hv4_]; exact below_cso (bal v3_ _) (Nat.le_refl _) 0 [s0, s1, s2, s3, s4, s5, s6, s7, s8, s9, s10]
  have S6 : SB v4_ v3_.heap.size [s0, s1, s2, s3, s4, s5, s6, s7, s8, s9, s10] := by rw [hv4_]; exact Sg.cells [s0, s1, s2, s3, s4, s5, s6, s7, s8, s9, s10] rfl
  have hgv3_ : n ≤ v3_.heap.size := hN
  replace hv4_ := Lib.hid hv4_
  go_upto_region 5 with (refine wp_stD rfl rfl (.tmp 6) (.tmp 29) rfl v3_.heap.size rfl [s0, s1, s2, s3, s4, s5, s6, s7, s8, s9, s10] rfl rfl _ Sg rfl co ?_; rw [← hv4_.out]; clear hv4_)
  clear Sg co
  have L0 := L0.keeps hP (by omega) Bv4_
  have R0 := R0.keeps hP (by omega) Bv4_
  have S0 := S0.nx Bv4_
  have BB := BB.trans (Bv4_.mono (by omega))
  have RD := RD.go hP (by omega) Bv4_
  have S5 := S5.nx Bv4_
  have RS := RS.go hP (by omega) Bv4_
  have hN := Nat.le_trans hN Bv4_.size
  clear Bv4_
  go_wp2_with fail
  refine (awake11_any v4_ (hT.go hn BB)).mono ?_
  rintro e v5_ ⟨rfl, E5_⟩
  have L0 := L0.keeps hP (by omega) E5_
  have R0 := R0.keeps hP (by omega) E5_
  have S0 := S0.nx E5_
  have BB := BB.trans (E5_.mono (by omega))
  have RD := RD.go hP (by omega) E5_
  have S5 := S5.nx E5_
  have RS := RS.go hP (by omega) E5_
  have S6 := S6.nx E5_
  have hN := Nat.le_trans hN E5_.size
  by_cases he : es = 0
  · subst he
    obtain ⟨m, hm, hpm, hlm, q1, q2, q3, q4, q5, q6, q7, q8, q9, q10, q11, q12, q13⟩ := order_yes hes.out
    rw [q3] at RD hsd
    rw [q3, hsd.out] at q4
    subst q4
    replace hpm := Lib.hid hpm
    replace q13 := Lib.hid q13
    clear hes hsd q3 hm
    have hlm0 := Lib.hid hlm
    replace q1 := Lib.hid q1
    replace q2 := Lib.hid q2
    replace q5 := Lib.hid q5
    replace q6 := Lib.hid q6
    go_upto_region 7 with fail
    have ks_0 := S6.cell 0; have ks_1 := S6.cell 1; have ks_2 := S6.cell 2; have ks_3 := S6.cell 3; have ks_4 := S6.cell 4; have ks_5 := S6.cell 5; have ks_6 := S6.cell 6; have ks_7 := S6.cell 7; have ks_8 := S6.cell 8; have ks_9 := S6.cell 9; have ks_10 := S6.cell 10
    go_wp2_with fail
    refine (litemsAll_any (joinD m nilD) _ v5_ (Out P n v5_) (Out.all hP (by omega)) RS (hT.go hn BB)).mono ?_
    rintro e v6_ ⟨A1, c1, rfl, L1, E6_⟩
    have L1 := L1.res (m := n) hN E6_.size
    have L0 := L0.keeps hP (by omega) E6_
    have R0 := R0.keeps hP (by omega) E6_
    have S0 := S0.nx E6_
    have BB := BB.trans (E6_.mono (by omega))
    have RD := RD.go hP (by omega) E6_
    have S5 := S5.nx E6_
    have RS := RS.go hP (by omega) E6_
    have S6 := S6.nx E6_
    have hN := Nat.le_trans hN E6_.size
    clear ks_0 ks_1 ks_2 ks_3 ks_4 ks_5 ks_6 ks_7 ks_8 ks_9 ks_10
    rw [q6.out] at L1
    rw [q5.out, q6.out, hlm]
    go_upto_region 8 with fail
    have ks_0 := S6.cell 0; have ks_1 := S6.cell 1; have ks_2 := S6.cell 2; have ks_3 := S6.cell 3; have ks_4 := S6.cell 4; have ks_5 := S6.cell 5; have ks_6 := S6.cell 6; have ks_7 := S6.cell 7; have ks_8 := S6.cell 8; have ks_9 := S6.cell 9; have ks_10 := S6.cell 10
    go_wp2_with fail
    refine (lsort_any (joinD m nilD) _ v6_ (Out P n v6_) (Out.all hP (by omega)) RS (hT.go hn BB)).mono ?_
    rintro e v7_ ⟨va, rfl, RA, E7_⟩
    have RA := RA.res (m := n) hN E7_.size
    have L0 := L0.keeps hP (by omega) E7_
    have R0 := R0.keeps hP (by omega) E7_
    have S0 := S0.nx E7_
    have BB := BB.trans (E7_.mono (by omega))
    have RD := RD.go hP (by omega) E7_
    have S5 := S5.nx E7_
    have RS := RS.go hP (by omega) E7_
    have S6 := S6.nx E7_
    have L1 := L1.go hP (by omega) E7_
    have hN := Nat.le_trans hN E7_.size
    clear E7_
    clear ks_0 ks_1 ks_2 ks_3 ks_4 ks_5 ks_6 ks_7 ks_8 ks_9 ks_10
    rw [q7]
    rw [q8] at RA
    obtain ⟨cs, rfl, cl, co⟩ := RA.agg
    match cs, cl, co with
    | [a0, a1, a2, a3, a4, a5, a6, a7, a8, a9, a10], _, co =>
    have Sg := SB.new v7_ [.int .i64 0, .int .i64 0, .bool false, .slice none 0 0, .slice none 0 0, .bool false, .slice none 0 0, .slice none 0 0, .string { data := #[] }, .slice none 0 0, .slice none 0 0] 31
    obtain ⟨v8_, hv8_⟩ : ∃ v8_, v8_ = (v7_.alloc (.cells #[.int .i64 0, .int .i64 0, .bool false, .slice none 0 0, .slice none 0 0, .bool false, .slice none 0 0, .slice none 0 0, .string { data := #[] }, .slice none 0 0, .slice none 0 0] 31)).setCells v7_.heap.size 0 [a0, a1, a2, a3, a4, a5, a6, a7, a8, a9, a10] := ⟨_, rfl⟩
    have Bv8_ : Below v7_.heap.size v7_ v8_ := by rw [hv8_]; exact below_cso (bal v7_ _) (Nat.le_refl _) 0 [a0, a1, a2, a3, a4, a5, a6, a7, a8, a9, a10]
    have S10 : SB v8_ v7_.heap.size [a0, a1, a2, a3, a4, a5, a6, a7, a8, a9, a10] := by rw [hv8_]; exact Sg.cells [a0, a1, a2, a3, a4, a5, a6, a7, a8, a9, a10] rfl
    have hgv7_ : n ≤ v7_.heap.size := hN
    replace hv8_ := Lib.hid hv8_
    go_upto_region 9 with (refine wp_stD rfl rfl (.tmp 10) (.tmp 51) rfl v7_.heap.size rfl [a0, a1, a2, a3, a4, a5, a6, a7, a8, a9, a10] rfl rfl _ Sg rfl co ?_; rw [← hv8_.out]; clear hv8_)
    clear Sg co
    have L0 := L0.keeps hP (by omega) Bv8_
    have R0 := R0.keeps hP (by omega) Bv8_
    have S0 := S0.nx Bv8_
    have BB := BB.trans (Bv8_.mono (by omega))
    have RD := RD.go hP (by omega) Bv8_
    have S5 := S5.nx Bv8_
    have RS := RS.go hP (by omega) Bv8_
    have S6 := S6.nx Bv8_
    have L1 := L1.go hP (by omega) Bv8_
    have RA := RA.go hP (by omega) Bv8_
    have hN := Nat.le_trans hN Bv8_.size
    clear Bv8_
    have kd_0 := S5.cell 0; have kd_1 := S5.cell 1; have kd_2 := S5.cell 2; have kd_3 := S5.cell 3; have kd_4 := S5.cell 4; have kd_5 := S5.cell 5; have kd_6 := S5.cell 6; have kd_7 := S5.cell 7; have kd_8 := S5.cell 8; have kd_9 := S5.cell 9; have kd_10 := S5.cell 10
    go_wp2_with fail
    refine (lreverse_any (joinD m0 nilD) _ v8_ (Out P n v8_) (Out.all hP (by omega)) RD (hT.go hn BB)).mono ?_
    rintro e v9_ ⟨vr, rfl, RV, E9_⟩
    have RV := RV.res (m := n) hN E9_.size
    have L0 := L0.keeps hP (by omega) E9_
    have R0 := R0.keeps hP (by omega) E9_
    have S0 := S0.nx E9_
    have BB := BB.trans (E9_.mono (by omega))
    have RD := RD.go hP (by omega) E9_
    have S5 := S5.nx E9_
    have RS := RS.go hP (by omega) E9_
    have S6 := S6.nx E9_
    have L1 := L1.go hP (by omega) E9_
    have RA := RA.go hP (by omega) E9_
    have S10 := S10.nx E9_
    have hN := Nat.le_trans hN E9_.size
    clear E9_
    clear kd_0 kd_1 kd_2 kd_3 kd_4 kd_5 kd_6 kd_7 kd_8 kd_9 kd_10
    rw [q9]
    rw [q10] at RV
    obtain ⟨cs, rfl, cl, co⟩ := RV.agg
    match cs, cl, co with
    | [r0, r1, r2, r3, r4, r5, r6, r7, r8, r9, r10], _, co =>
    have Sg := SB.new v9_ [.int .i64 0, .int .i64 0, .bool false, .slice none 0 0, .slice none 0 0, .bool false, .slice none 0 0, .slice none 0 0, .string { data := #[] }, .slice none 0 0, .slice none 0 0] 31
    obtain ⟨v10_, hv10_⟩ : ∃ v10_, v10_ = (v9_.alloc (.cells #[.int .i64 0, .int .i64 0, .bool false, .slice none 0 0, .slice none 0 0, .bool false, .slice none 0 0, .slice none 0 0, .string { data := #[] }, .slice none 0 0, .slice none 0 0] 31)).setCells v9_.heap.size 0 [r0, r1, r2, r3, r4, r5, r6, r7, r8, r9, r10] := ⟨_, rfl⟩
    have Bv10_ : Below v9_.heap.size v9_ v10_ := by rw [hv10_]; exact below_cso (bal v9_ _) (Nat.le_refl _) 0 [r0, r1, r2, r3, r4, r5, r6, r7, r8, r9, r10]
    have S12 : SB v10_ v9_.heap.size [r0, r1, r2, r3, r4, r5, r6, r7, r8, r9, r10] := by rw [hv10_]; exact Sg.cells [r0, r1, r2, r3, r4, r5, r6, r7, r8, r9, r10] rfl
    have hgv9_ : n ≤ v9_.heap.size := hN
    replace hv10_ := Lib.hid hv10_
    go_upto_region 10 with (refine wp_stD rfl rfl (.tmp 12) (.tmp 56) rfl v9_.heap.size rfl [r0, r1, r2, r3, r4, r5, r6, r7, r8, r9, r10] rfl rfl _ Sg rfl co ?_; rw [← hv10_.out]; clear hv10_)
    clear Sg co
    have L0 := L0.keeps hP (by omega) Bv10_
    have R0 := R0.keeps hP (by omega) Bv10_
    have S0 := S0.nx Bv10_
    have BB := BB.trans (Bv10_.mono (by omega))
    have RD := RD.go hP (by omega) Bv10_
    have S5 := S5.nx Bv10_
    have RS := RS.go hP (by omega) Bv10_
    have S6 := S6.nx Bv10_
    have L1 := L1.go hP (by omega) Bv10_
    have RA := RA.go hP (by omega) Bv10_
    have S10 := S10.nx Bv10_
    have RV := RV.go hP (by omega) Bv10_
    have hN := Nat.le_trans hN Bv10_.size
    clear Bv10_
    have kr_0 := S12.cell 0; have kr_1 := S12.cell 1; have kr_2 := S12.cell 2; have kr_3 := S12.cell 3; have kr_4 := S12.cell 4; have kr_5 := S12.cell 5; have kr_6 := S12.cell 6; have kr_7 := S12.cell 7; have kr_8 := S12.cell 8; have kr_9 := S12.cell 9; have kr_10 := S12.cell 10
    go_wp2_with fail
    refine (lreverse_any (joinD m0.reverse nilD) _ v10_ (Out P n v10_) (Out.all hP (by omega)) RV (hT.go hn BB)).mono ?_
    rintro e v11_ ⟨vb, rfl, RB, E11_⟩
    have RB := RB.res (m := n) hN E11_.size
    have L0 := L0.keeps hP (by omega) E11_
    have R0 := R0.keeps hP (by omega) E11_
    have S0 := S0.nx E11_
    have BB := BB.trans (E11_.mono (by omega))
    have RD := RD.go hP (by omega) E11_
    have S5 := S5.nx E11_
    have RS := RS.go hP (by omega) E11_
    have S6 := S6.nx E11_
    have L1 := L1.go hP (by omega) E11_
    have RA := RA.go hP (by omega) E11_
    have S10 := S10.nx E11_
    have RV := RV.go hP (by omega) E11_
    have S12 := S12.nx E11_
    have hN := Nat.le_trans hN E11_.size
    clear E11_
    clear kr_0 kr_1 kr_2 kr_3 kr_4 kr_5 kr_6 kr_7 kr_8 kr_9 kr_10
    rw [q11]
    rw [q12] at RB
    obtain ⟨cs, rfl, cl, co⟩ := RB.agg
    match cs, cl, co with
    | [b0, b1, b2, b3, b4, b5, b6, b7, b8, b9, b10], _, co =>
    have Sg := SB.new v11_ [.int .i64 0, .int .i64 0, .bool false, .slice none 0 0, .slice none 0 0, .bool false, .slice none 0 0, .slice none 0 0, .string { data := #[] }, .slice none 0 0, .slice none 0 0] 31
    obtain ⟨v12_, hv12_⟩ : ∃ v12_, v12_ = (v11_.alloc (.cells #[.int .i64 0, .int .i64 0, .bool false, .slice none 0 0, .slice none 0 0, .bool false, .slice none 0 0, .slice none 0 0, .string { data := #[] }, .slice none 0 0, .slice none 0 0] 31)).setCells v11_.heap.size 0 [b0, b1, b2, b3, b4, b5, b6, b7, b8, b9, b10] := ⟨_, rfl⟩
    have Bv12_ : Below v11_.heap.size v11_ v12_ := by rw [hv12_]; exact below_cso (bal v11_ _) (Nat.le_refl _) 0 [b0, b1, b2, b3, b4, b5, b6, b7, b8, b9, b10]
    have S14 : SB v12_ v11_.heap.size [b0, b1, b2, b3, b4, b5, b6, b7, b8, b9, b10] := by rw [hv12_]; exact Sg.cells [b0, b1, b2, b3, b4, b5, b6, b7, b8, b9, b10] rfl
    have hgv11_ : n ≤ v11_.heap.size := hN
    replace hv12_ := Lib.hid hv12_
    go_upto_region 11 with (refine wp_stD rfl rfl (.tmp 14) (.tmp 61) rfl v11_.heap.size rfl [b0, b1, b2, b3, b4, b5, b6, b7, b8, b9, b10] rfl rfl _ Sg rfl co ?_; rw [← hv12_.out]; clear hv12_)
    clear Sg co
    have L0 := L0.keeps hP (by omega) Bv12_
    have R0 := R0.keeps hP (by omega) Bv12_
    have S0 := S0.nx Bv12_
    have BB := BB.trans (Bv12_.mono (by omega))
    have RD := RD.go hP (by omega) Bv12_
    have S5 := S5.nx Bv12_
    have RS := RS.go hP (by omega) Bv12_
    have S6 := S6.nx Bv12_
    have L1 := L1.go hP (by omega) Bv12_
    have RA := RA.go hP (by omega) Bv12_
    have S10 := S10.nx Bv12_
    have RV := RV.go hP (by omega) Bv12_
    have S12 := S12.nx Bv12_
    have RB := RB.go hP (by omega) Bv12_
    have hN := Nat.le_trans hN Bv12_.size
    clear Bv12_
    clear q7 q8 q9 q10 q11 q12
    have qs1 := same_iff.2 (rfl : joinD m nilD = joinD m nilD)
    have qs2 := same_iff.2 (rfl : joinD m0 nilD = joinD m0 nilD)
    replace qs1 := Lib.hid qs1
    replace qs2 := Lib.hid qs2
    have ka_0 := S10.cell 0; have ka_1 := S10.cell 1; have ka_2 := S10.cell 2; have ka_3 := S10.cell 3; have ka_4 := S10.cell 4; have ka_5 := S10.cell 5; have ka_6 := S10.cell 6; have ka_7 := S10.cell 7; have ka_8 := S10.cell 8; have ka_9 := S10.cell 9; have ka_10 := S10.cell 10
    have kb_0 := S6.cell 0; have kb_1 := S6.cell 1; have kb_2 := S6.cell 2; have kb_3 := S6.cell 3; have kb_4 := S6.cell 4; have kb_5 := S6.cell 5; have kb_6 := S6.cell 6; have kb_7 := S6.cell 7; have kb_8 := S6.cell 8; have kb_9 := S6.cell 9; have kb_10 := S6.cell 10
    have cs := rsame_go _ (joinD m nilD) (joinD m nilD) (Nat.le_refl _) _ _ v12_ (RA.rd (fun z hz => hz.lt hP (by omega))) (RS.rd (fun z hz => hz.lt hP (by omega)))
    rw [qs1.out] at cs
    go_wp2_with fail
    refine (cs).mono ?_
    rintro e v13_ ⟨rfl, E13_⟩
    have L0 := L0.keeps hP (by omega) E13_
    have R0 := R0.keeps hP (by omega) E13_
    have S0 := S0.nx E13_
    have BB := BB.trans (E13_.mono (by omega))
    have RD := RD.go hP (by omega) E13_
    have S5 := S5.nx E13_
    have RS := RS.go hP (by omega) E13_
    have S6 := S6.nx E13_
    have L1 := L1.go hP (by omega) E13_
    have RA := RA.go hP (by omega) E13_
    have S10 := S10.nx E13_
    have RV := RV.go hP (by omega) E13_
    have S12 := S12.nx E13_
    have RB := RB.go hP (by omega) E13_
    have S14 := S14.nx E13_
    have hN := Nat.le_trans hN E13_.size
    clear cs E13_
    clear ka_0 ka_1 ka_2 ka_3 ka_4 ka_5 ka_6 ka_7 ka_8 ka_9 ka_10 kb_0 kb_1 kb_2 kb_3 kb_4 kb_5 kb_6 kb_7 kb_8 kb_9 kb_10
    have ka_0 := S14.cell 0; have ka_1 := S14.cell 1; have ka_2 := S14.cell 2; have ka_3 := S14.cell 3; have ka_4 := S14.cell 4; have ka_5 := S14.cell 5; have ka_6 := S14.cell 6; have ka_7 := S14.cell 7; have ka_8 := S14.cell 8; have ka_9 := S14.cell 9; have ka_10 := S14.cell 10
    have kb_0 := S5.cell 0; have kb_1 := S5.cell 1; have kb_2 := S5.cell 2; have kb_3 := S5.cell 3; have kb_4 := S5.cell 4; have kb_5 := S5.cell 5; have kb_6 := S5.cell 6; have kb_7 := S5.cell 7; have kb_8 := S5.cell 8; have kb_9 := S5.cell 9; have kb_10 := S5.cell 10
    have cs := rsame_go _ (joinD m0 nilD) (joinD m0 nilD) (Nat.le_refl _) _ _ v13_ (RB.rd (fun z hz => hz.lt hP (by omega))) (RD.rd (fun z hz => hz.lt hP (by omega)))
    rw [qs2.out] at cs
    go_wp2_with fail
    refine (cs).mono ?_
    rintro e v14_ ⟨rfl, E14_⟩
    have L0 := L0.keeps hP (by omega) E14_
    have R0 := R0.keeps hP (by omega) E14_
    have S0 := S0.nx E14_
    have BB := BB.trans (E14_.mono (by omega))
    have RD := RD.go hP (by omega) E14_
    have S5 := S5.nx E14_
    have RS := RS.go hP (by omega) E14_
    have S6 := S6.nx E14_
    have L1 := L1.go hP (by omega) E14_
    have RA := RA.go hP (by omega) E14_
    have S10 := S10.nx E14_
    have RV := RV.go hP (by omega) E14_
    have S12 := S12.nx E14_
    have RB := RB.go hP (by omega) E14_
    have S14 := S14.nx E14_
    have hN := Nat.le_trans hN E14_.size
    clear cs E14_
    clear ka_0 ka_1 ka_2 ka_3 ka_4 ka_5 ka_6 ka_7 ka_8 ka_9 ka_10 kb_0 kb_1 kb_2 kb_3 kb_4 kb_5 kb_6 kb_7 kb_8 kb_9 kb_10
    go_upto_region 15 with fail
    clear qs1 qs2 q1 q2 q5 q6
    have hcz : ∀ y, cntK x y 0 = 0 := cntK_zero x
    have hN : n + 1 ≤ v14_.heap.size := by have := S0.2; omega
    go_loopg [16, 17, 18] m0.length (fun gk s16 s17 s18 wx => ∃ k : Nat, s16 = .int .i64 (cntK x m k : Nat) ∧ s17 = .int .i64 (cntK x m0 k : Nat) ∧ s18 = .int .i64 (k : Int) ∧ Hid (k + gk = m0.length) ∧ SB wx n [y0, y1, y2, y3, y4, y5, y6, y7, y8, y9, y10] ∧ RDP wx P x (.agg #[y0, y1, y2, y3, y4, y5, y6, y7, y8, y9, y10]) ∧ RLs wx P A c m0 ∧ RLs wx (Out P n wx) A1 c1 m ∧ Below n w wx ∧ n + 1 ≤ wx.heap.size)
    case atStart => exact ⟨0, by rw [hcz]; rfl, by rw [hcz]; rfl, rfl, Lib.hid (by omega), S0, R0, L0, L1, BB, hN⟩
    case round =>
      clear S0 R0 L0 L1 BB hN hcz
      obtain ⟨k, rfl, rfl, rfl, hgk, S0, R0, L0, L1, BB, hN⟩ := hrel
      by_cases hk : k < m0.length
      · have hkz : (k : Int) < (m0.length : Int) := by omega
        go_upto_region 17 with fail
        go_cut [116] (fun s116 wx => s116 = .bool false ∧ SB wx n [y0, y1, y2, y3, y4, y5, y6, y7, y8, y9, y10] ∧ RDP wx P x (.agg #[y0, y1, y2, y3, y4, y5, y6, y7, y8, y9, y10]) ∧ RLs wx P A c m0 ∧ RLs wx (Out P n wx) A1 c1 m ∧ Below n w wx ∧ n + 1 ≤ wx.heap.size)
        case first =>
          rcases Nat.eq_zero_or_pos k with hk0 | hk0
          · have hkn : ¬ (0 : Int) < (k : Int) := by omega
            go_quiet (fail)
            clear hk0 hkn
            go_wp2_with fail
            go_meet
            have Dn : ∀ q, Below wr.heap.size wr (wr.drewN q) := fun q => bdN (Below.refl _ _) q
            exact ⟨rfl, S0.nx (Dn _), R0.keeps hP (by omega) (Dn _), L0.keeps hP (by omega) (Dn _), L1.go hP (by omega) (Dn _), BB.trans ((Dn _).mono (by omega)), Nat.le_trans hN (Dn _).size⟩
          · have hkp : (0 : Int) < (k : Int) := by omega
            obtain ⟨q, hq⟩ : ∃ q, k = q + 1 := ⟨k - 1, by omega⟩
            have hzq : IntKind.i64.wrap ((k : Int) - 1) = (q : Int) := (IntWalk.i64_in _ (by omega)).trans (by omega)
            have hqm : q < m.length := by have := hlm0.out; omega
            have hkm : k < m.length := by have := hlm0.out; omega
            have hql : q < m0.length := by omega
            have hno := q13.out q (by omega)
            rw [← hq] at hno
            replace hq := Lib.hid hq
            obtain ⟨b, off, hA1, hPb, cs, cl, _, Rx, rx⟩ := L1.at_ hqm
            obtain ⟨b2, off2, hA2, _, cs2, cl2, _, Ry, ry⟩ := L1.at_ hkm
            rw [hA1] at hA2
            have e := Option.some.inj hA2
            obtain rfl : b = b2 := congrArg Addr.block e
            obtain rfl : off = off2 := congrArg Addr.off e
            clear e hA2
            rw [getD_get hqm, getD_get hkm] at hno
            obtain ⟨dq, hdq⟩ : ∃ d, m[q] = d := ⟨_, rfl⟩
            obtain ⟨dk, hdk⟩ : ∃ d, m[k] = d := ⟨_, rfl⟩
            rw [hdq] at Rx hno
            rw [hdk] at Ry hno
            clear hdq hdk
            obtain ⟨z, hz⟩ : ∃ z, cmpD vU dq dk = z := ⟨_, rfl⟩
            rw [hz] at hno
            replace hz := Lib.hid hz
            have hb : b < wr.heap.size := hPb.lt hP (by omega)
            clear hPb hqm hkm
            subst hA1
            match cs, cl, cs2, cl2 with
            | [x0, x1, x2, x3, x4, x5, x6, x7, x8, x9, x10], _, [z0, z1, z2, z3, z4, z5, z6, z7, z8, z9, z10], _ =>
            have Dw := (Below.refl wr.heap.size wr).drew
            have S0 := S0.nx Dw
            have R0 := R0.keeps hP (by omega) Dw
            have L0 := L0.keeps hP (by omega) Dw
            have L1 := L1.go hP (by omega) Dw
            have Rx := Rx.go hP (by omega) Dw
            have Ry := Ry.go hP (by omega) Dw
            have rx := range_nx rx Dw (by omega)
            have ry := range_nx ry Dw (by omega)
            have hb := Nat.lt_of_lt_of_le hb Dw.size
            have BB := BB.trans (Dw.mono (by omega))
            have hN := Nat.le_trans hN Dw.size
            clear Dw
            refine AnyW.regionQ (fun _ => false) 15 (fun w' => w'.rangeAt b (off + q * 11) [x0, x1, x2, x3, x4, x5, x6, x7, x8, x9, x10] ∧ w'.rangeAt b (off + k * 11) [z0, z1, z2, z3, z4, z5, z6, z7, z8, z9, z10]) rfl (by kernel_rfl) (by kernel_rfl) (by (repeat (with_reducible (first | refine quiet_then ?_ | refine quiet_block ?_))); exact quiet_body) ⟨(rx), (ry)⟩ (fun Q' hQK hq hns hHeld => ?_)
            generalize wr.drew = w9 at *
            refine AnyW.nextT (i := 0) (v := ?_) hq hns (.inr hHeld) rfl rfl (by kernel_rfl) (Or.inl ⟨by rfl, ?_⟩) ?_
            rotate_left
            · intro w' _; go_simp <;> with_reducible rfl
            try simp only [List.setIfInBounds_toArray, List.set_cons_zero, List.set_cons_succ]
            refine AnyW.nextT (i := 1) (v := ?_) hq hns (.inr hHeld) rfl rfl (by kernel_rfl) (Or.inl ⟨by rfl, ?_⟩) ?_
            rotate_left
            · intro w' _; go_simp <;> with_reducible rfl
            try simp only [List.setIfInBounds_toArray, List.set_cons_zero, List.set_cons_succ]
            refine AnyW.nextT (i := 2) (v := ?_) hq hns (.inr hHeld) rfl rfl (by kernel_rfl) (Or.inl ⟨by rfl, ?_⟩) ?_
            rotate_left
            · intro w' _; go_simp <;> with_reducible rfl
            try simp only [List.setIfInBounds_toArray, List.set_cons_zero, List.set_cons_succ]
            refine AnyW.nextT (i := 3) (v := ?_) hq hns (.inr hHeld) rfl rfl (by kernel_rfl) (Or.inl ⟨by rfl, ?_⟩) ?_
            rotate_left
            · intro w' _; go_simp <;> with_reducible rfl
            try simp only [List.setIfInBounds_toArray, List.set_cons_zero, List.set_cons_succ]
            refine AnyW.nextT (i := 4) (v := ?_) hq hns (.inr hHeld) rfl rfl (by kernel_rfl) (Or.inl ⟨by rfl, ?_⟩) ?_
            rotate_left
            · intro w' _; go_simp <;> with_reducible rfl
            try simp only [List.setIfInBounds_toArray, List.set_cons_zero, List.set_cons_succ]
            refine AnyW.nextT (i := 5) (v := ?_) hq hns (.inr hHeld) rfl rfl (by kernel_rfl) (Or.inl ⟨by rfl, ?_⟩) ?_
            rotate_left
            · intro w' _; go_simp <;> with_reducible rfl
            try simp only [List.setIfInBounds_toArray, List.set_cons_zero, List.set_cons_succ]
            refine AnyW.nextT (i := 6) (v := ?_) hq hns (.inr hHeld) rfl rfl (by kernel_rfl) (Or.inl ⟨by rfl, ?_⟩) ?_
            rotate_left
            · intro w' _; go_simp <;> with_reducible rfl
            try simp only [List.setIfInBounds_toArray, List.set_cons_zero, List.set_cons_succ]
            refine AnyW.next (i := 7) (v := .agg [x0, x1, x2, x3, x4, x5, x6, x7, x8, x9, x10].toArray) hq hns hHeld rfl rfl (by kernel_rfl) (yieldsIf_load_mid (by rfl) 31 (.tmp 108) rfl b (off + q * 11) rfl [x0, x1, x2, x3, x4, x5, x6, x7, x8, x9, x10] _ (fun w' h => h.1) Tryd.underlying31 rfl (infoD.trans (by rfl))) ?_
            try simp only [List.setIfInBounds_toArray, List.set_cons_zero, List.set_cons_succ]
            refine AnyW.nextT (i := 8) (v := ?_) hq hns (.inr hHeld) rfl rfl (by kernel_rfl) (Or.inl ⟨by rfl, ?_⟩) ?_
            rotate_left
            · intro w' _; go_simp <;> with_reducible rfl
            try simp only [List.setIfInBounds_toArray, List.set_cons_zero, List.set_cons_succ]
            refine AnyW.nextT (i := 9) (v := ?_) hq hns (.inr hHeld) rfl rfl (by kernel_rfl) (Or.inl ⟨by rfl, ?_⟩) ?_
            rotate_left
            · intro w' _; go_simp <;> with_reducible rfl
            try simp only [List.setIfInBounds_toArray, List.set_cons_zero, List.set_cons_succ]
            refine AnyW.nextT (i := 10) (v := ?_) hq hns (.inr hHeld) rfl rfl (by kernel_rfl) (Or.inl ⟨by rfl, ?_⟩) ?_
            rotate_left
            · intro w' _; go_simp <;> with_reducible rfl
            try simp only [List.setIfInBounds_toArray, List.set_cons_zero, List.set_cons_succ]
            refine AnyW.next (i := 11) (v := .agg [z0, z1, z2, z3, z4, z5, z6, z7, z8, z9, z10].toArray) hq hns hHeld rfl rfl (by kernel_rfl) (yieldsIf_load_mid (by rfl) 31 (.tmp 112) rfl b (off + k * 11) rfl [z0, z1, z2, z3, z4, z5, z6, z7, z8, z9, z10] _ (fun w' h => h.2) Tryd.underlying31 rfl (infoD.trans (by rfl))) ?_
            try simp only [List.setIfInBounds_toArray, List.set_cons_zero, List.set_cons_succ]
            refine AnyW.one 12 (by kernel_rfl) rfl (fun K' hK => ?_)
            go_simp
            refine (ocmp_any (Rx.rd (fun z hz => hz.lt hP (by omega))) (Ry.rd (fun z hz => hz.lt hP (by omega))) (hT.go hn BB).vs hz.out).mono ?_
            rintro e w5 ⟨rfl, B5⟩
            go_wp2_with fail
            have S0 := S0.nx B5
            have R0 := R0.keeps hP (by omega) B5
            have L0 := L0.keeps hP (by omega) B5
            have L1 := L1.go hP (by omega) B5
            have Rx := Rx.go hP (by omega) B5
            have Ry := Ry.go hP (by omega) B5
            have rx := range_nx rx B5 (by omega)
            have ry := range_nx ry B5 (by omega)
            have hb := Nat.lt_of_lt_of_le hb B5.size
            have BB := BB.trans (B5.mono (by omega))
            have hN := Nat.le_trans hN B5.size
            refine hK.out _ _ (.inr ⟨(rx), (ry)⟩) (fun hG => ?_)
            have hHeld := hG.resolve_left (notGone.spec (by rfl))
            clear hK K' hG
            try simp only [List.setIfInBounds_toArray, List.set_cons_zero, List.set_cons_succ]
            refine AnyW.nextT (i := 13) (v := ?_) hq hns (.inr hHeld) rfl rfl (by kernel_rfl) (Or.inl ⟨by rfl, ?_⟩) ?_
            rotate_left
            · intro w' _; go_simp <;> with_reducible rfl
            try simp only [List.setIfInBounds_toArray, List.set_cons_zero, List.set_cons_succ]
            refine AnyW.nextT (i := 14) (v := ?_) hq hns (.inr hHeld) rfl rfl (by kernel_rfl) (Or.inl ⟨by rfl, ?_⟩) ?_
            rotate_left
            · intro w' _; go_simp <;> with_reducible rfl
            try simp only [List.setIfInBounds_toArray, List.set_cons_zero, List.set_cons_succ]
            refine AnyW.done (by kernel_rfl) (hQK.out _ _ ?_)
            clear hQK hq hns hHeld
            go_wp2_with fail
            go_meet
            exact ⟨by simp [hno], S0, R0, L0, L1, BB, hN⟩
        case rest =>
        obtain ⟨rfl, S0, R0, L0, L1, BB, hN⟩ := hcut
        have hkm : k < m.length := by have := hlm0.out; omega
        have hst := cntK_step x m hkm
        obtain ⟨b, off, hA, hPb, cs, cl, _, Rx, rx⟩ := L1.at_ hkm
        rw [getD_get hkm] at hst
        obtain ⟨dk, hdk⟩ : ∃ d, m[k] = d := ⟨_, rfl⟩
        rw [hdk] at Rx hst
        clear hdk
        obtain ⟨z, hz⟩ : ∃ z, eqD vU dk x = z := ⟨_, rfl⟩
        rw [hz] at hst
        replace hz := Lib.hid hz
        replace hst := Lib.hid hst
        have hcl := cntK_le x m k
        have hb : b < wc.heap.size := hPb.lt hP (by omega)
        clear hPb
        match cs, cl with
        | [x0, x1, x2, x3, x4, x5, x6, x7, x8, x9, x10], _ =>
        go_upto_region 19 with fail
        go_cut [122] (fun sI wx => sI = .bool z ∧ SB wx n [y0, y1, y2, y3, y4, y5, y6, y7, y8, y9, y10] ∧ RDP wx P x (.agg #[y0, y1, y2, y3, y4, y5, y6, y7, y8, y9, y10]) ∧ RLs wx P A c m0 ∧ RLs wx (Out P n wx) A1 c1 m ∧ Below n w wx ∧ n + 1 ≤ wx.heap.size)
        case first =>
          subst hA
          have Dw := (Below.refl wc.heap.size wc).drew
          have S0 := S0.nx Dw
          have R0 := R0.keeps hP (by omega) Dw
          have L0 := L0.keeps hP (by omega) Dw
          have L1 := L1.go hP (by omega) Dw
          have Rx := Rx.go hP (by omega) Dw
          have rx := range_nx rx Dw (by omega)
          have hb := Nat.lt_of_lt_of_le hb Dw.size
          have BB := BB.trans (Dw.mono (by omega))
          have hN := Nat.le_trans hN Dw.size
          clear Dw
          refine AnyW.regionQ (fun _ => false) 6 (fun w' => w'.rangeAt b (off + k * 11) [x0, x1, x2, x3, x4, x5, x6, x7, x8, x9, x10] ∧ w'.rangeAt n 0 [y0, y1, y2, y3, y4, y5, y6, y7, y8, y9, y10]) rfl (by kernel_rfl) (by kernel_rfl) (by (repeat (with_reducible (first | refine quiet_then ?_ | refine quiet_block ?_))); exact quiet_body) ⟨(rx), (fun j u hj => by rw [Nat.zero_add]; exact (S0.1 j u hj).1)⟩ (fun Q' hQK hq hns hHeld => ?_)
          generalize wc.drew = w9 at *
          refine AnyW.nextT (i := 0) (v := ?_) hq hns (.inr hHeld) rfl rfl (by kernel_rfl) (Or.inl ⟨by rfl, ?_⟩) ?_
          rotate_left
          · intro w' _; go_simp <;> with_reducible rfl
          try simp only [List.setIfInBounds_toArray, List.set_cons_zero, List.set_cons_succ]
          refine AnyW.nextT (i := 1) (v := ?_) hq hns (.inr hHeld) rfl rfl (by kernel_rfl) (Or.inl ⟨by rfl, ?_⟩) ?_
          rotate_left
          · intro w' _; go_simp <;> with_reducible rfl
          try simp only [List.setIfInBounds_toArray, List.set_cons_zero, List.set_cons_succ]
          refine AnyW.nextT (i := 2) (v := ?_) hq hns (.inr hHeld) rfl rfl (by kernel_rfl) (Or.inl ⟨by rfl, ?_⟩) ?_
          rotate_left
          · intro w' _; go_simp <;> with_reducible rfl
          try simp only [List.setIfInBounds_toArray, List.set_cons_zero, List.set_cons_succ]
          refine AnyW.next (i := 3) (v := .agg [x0, x1, x2, x3, x4, x5, x6, x7, x8, x9, x10].toArray) hq hns hHeld rfl rfl (by kernel_rfl) (yieldsIf_load_mid (by rfl) 31 (.tmp 119) rfl b (off + k * 11) rfl [x0, x1, x2, x3, x4, x5, x6, x7, x8, x9, x10] _ (fun w' h => h.1) Tryd.underlying31 rfl (infoD.trans (by rfl))) ?_
          try simp only [List.setIfInBounds_toArray, List.set_cons_zero, List.set_cons_succ]
          refine AnyW.next (i := 4) (v := .agg [y0, y1, y2, y3, y4, y5, y6, y7, y8, y9, y10].toArray) hq hns hHeld rfl rfl (by kernel_rfl) (yieldsIf_load_mid (by rfl) 31 (.tmp 3) rfl n 0 rfl [y0, y1, y2, y3, y4, y5, y6, y7, y8, y9, y10] _ (fun w' h => h.2) Tryd.underlying31 rfl (infoD.trans (by rfl))) ?_
          try simp only [List.setIfInBounds_toArray, List.set_cons_zero, List.set_cons_succ]
          refine AnyW.one 5 (by kernel_rfl) rfl (fun K' hK => ?_)
          go_simp
          refine (oeq_any (Rx.rd (fun z hz => hz.lt hP (by omega))) (R0.rd (fun z hz => by have := hP z hz; omega)) (hT.go hn BB).vs hz.out).mono ?_
          rintro e w5 ⟨rfl, B5⟩
          go_wp2_with fail
          have S0 := S0.nx B5
          have R0 := R0.keeps hP (by omega) B5
          have L0 := L0.keeps hP (by omega) B5
          have L1 := L1.go hP (by omega) B5
          have Rx := Rx.go hP (by omega) B5
          have rx := range_nx rx B5 (by omega)
          have hb := Nat.lt_of_lt_of_le hb B5.size
          have BB := BB.trans (B5.mono (by omega))
          have hN := Nat.le_trans hN B5.size
          refine hK.out _ _ (.inr ⟨(rx), (fun j u hj => by rw [Nat.zero_add]; exact (S0.1 j u hj).1)⟩) (fun hG => ?_)
          have hHeld := hG.resolve_left (notGone.spec (by rfl))
          clear hK K' hG
          try simp only [List.setIfInBounds_toArray, List.set_cons_zero, List.set_cons_succ]
          refine AnyW.done (by kernel_rfl) (hQK.out _ _ ?_)
          clear hQK hq hns hHeld
          go_wp2_with fail
          go_meet
          exact ⟨rfl, S0, R0, L0, L1, BB, hN⟩
        case rest =>
        clear S0 R0 L0 L1 BB hN Rx rx hb hA
        obtain ⟨rfl, S0, R0, L0, L1, BB, hN⟩ := hcut
        obtain ⟨nx, hnx⟩ : ∃ nx, cntK x m (k + 1) = nx := ⟨_, rfl⟩
        obtain ⟨nk, hnk⟩ : ∃ nk, cntK x m k = nk := ⟨_, rfl⟩
        have hst := hst.out
        rw [hnx, hnk] at hst
        rw [hnk] at hcl
        rw [hnk]
        replace hnx := Lib.hid hnx
        replace hst := Lib.hid hst
        clear hnk
        go_upto_if 122 with fail
        go_cut [16] (fun sI wx => sI = .int .i64 (nx : Int) ∧ SB wx n [y0, y1, y2, y3, y4, y5, y6, y7, y8, y9, y10] ∧ RDP wx P x (.agg #[y0, y1, y2, y3, y4, y5, y6, y7, y8, y9, y10]) ∧ RLs wx P A c m0 ∧ RLs wx (Out P n wx) A1 c1 m ∧ Below n w wx ∧ n + 1 ≤ wx.heap.size)
        case first =>
          cases z with
          | true =>
            have hzw : IntKind.i64.wrap ((nk : Int) + 1) = (nx : Int) := (IntWalk.i64_in _ (by omega)).trans (by have := hst.out; simp at this; omega)
            go_wp2_with fail
            go_meet
            exact ⟨rfl, S0, R0, L0, L1, BB, hN⟩
          | false =>
            have hzw : nk = nx := by have := hst.out; simp at this; omega
            go_wp2_with fail
            go_meet
            exact ⟨by rw [hzw], S0, R0, L0, L1, BB, hN⟩
        case rest =>
        clear S0 R0 L0 L1 BB hN hst hcl hz hkm
        obtain ⟨rfl, S0, R0, L0, L1, BB, hN⟩ := hcut
        obtain ⟨n16, h16⟩ : ∃ q, q = nx := ⟨_, rfl⟩
        rw [← h16]
        rw [← h16] at hnx
        have hnx16 := hnx
        clear h16 hnx
        have hkm : k < m0.length := by have := hlm0.out; omega
        have hst := cntK_step x m0 hkm
        obtain ⟨b, off, hA, hPb, cs, cl, _, Rx, rx⟩ := L0.at_ hkm
        rw [getD_get hkm] at hst
        obtain ⟨dk, hdk⟩ : ∃ d, m0[k] = d := ⟨_, rfl⟩
        rw [hdk] at Rx hst
        clear hdk
        obtain ⟨z, hz⟩ : ∃ z, eqD vU dk x = z := ⟨_, rfl⟩
        rw [hz] at hst
        replace hz := Lib.hid hz
        replace hst := Lib.hid hst
        have hcl := cntK_le x m0 k
        have hb : b < wc.heap.size := by have := hP b hPb; omega
        clear hPb
        match cs, cl with
        | [x0, x1, x2, x3, x4, x5, x6, x7, x8, x9, x10], _ =>
        go_upto_region 21 with fail
        go_cut [130] (fun sI wx => sI = .bool z ∧ SB wx n [y0, y1, y2, y3, y4, y5, y6, y7, y8, y9, y10] ∧ RDP wx P x (.agg #[y0, y1, y2, y3, y4, y5, y6, y7, y8, y9, y10]) ∧ RLs wx P A c m0 ∧ RLs wx (Out P n wx) A1 c1 m ∧ Below n w wx ∧ n + 1 ≤ wx.heap.size)
        case first =>
          subst hA
          have Dw := (Below.refl wc.heap.size wc).drew
          have S0 := S0.nx Dw
          have R0 := R0.keeps hP (by omega) Dw
          have L0 := L0.keeps hP (by omega) Dw
          have L1 := L1.go hP (by omega) Dw
          have Rx := Rx.keeps hP (by omega) Dw
          have rx := range_nx rx Dw (by omega)
          have hb := Nat.lt_of_lt_of_le hb Dw.size
          have BB := BB.trans (Dw.mono (by omega))
          have hN := Nat.le_trans hN Dw.size
          clear Dw
          refine AnyW.regionQ (fun _ => false) 6 (fun w' => w'.rangeAt b (off + k * 11) [x0, x1, x2, x3, x4, x5, x6, x7, x8, x9, x10] ∧ w'.rangeAt n 0 [y0, y1, y2, y3, y4, y5, y6, y7, y8, y9, y10]) rfl (by kernel_rfl) (by kernel_rfl) (by (repeat (with_reducible (first | refine quiet_then ?_ | refine quiet_block ?_))); exact quiet_body) ⟨(rx), (fun j u hj => by rw [Nat.zero_add]; exact (S0.1 j u hj).1)⟩ (fun Q' hQK hq hns hHeld => ?_)
          generalize wc.drew = w9 at *
          refine AnyW.nextT (i := 0) (v := ?_) hq hns (.inr hHeld) rfl rfl (by kernel_rfl) (Or.inl ⟨by rfl, ?_⟩) ?_
          rotate_left
          · intro w' _; go_simp <;> with_reducible rfl
          try simp only [List.setIfInBounds_toArray, List.set_cons_zero, List.set_cons_succ]
          refine AnyW.nextT (i := 1) (v := ?_) hq hns (.inr hHeld) rfl rfl (by kernel_rfl) (Or.inl ⟨by rfl, ?_⟩) ?_
          rotate_left
          · intro w' _; go_simp <;> with_reducible rfl
          try simp only [List.setIfInBounds_toArray, List.set_cons_zero, List.set_cons_succ]
          refine AnyW.nextT (i := 2) (v := ?_) hq hns (.inr hHeld) rfl rfl (by kernel_rfl) (Or.inl ⟨by rfl, ?_⟩) ?_
          rotate_left
          · intro w' _; go_simp <;> with_reducible rfl
          try simp only [List.setIfInBounds_toArray, List.set_cons_zero, List.set_cons_succ]
          refine AnyW.next (i := 3) (v := .agg [x0, x1, x2, x3, x4, x5, x6, x7, x8, x9, x10].toArray) hq hns hHeld rfl rfl (by kernel_rfl) (yieldsIf_load_mid (by rfl) 31 (.tmp 127) rfl b (off + k * 11) rfl [x0, x1, x2, x3, x4, x5, x6, x7, x8, x9, x10] _ (fun w' h => h.1) Tryd.underlying31 rfl (infoD.trans (by rfl))) ?_
          try simp only [List.setIfInBounds_toArray, List.set_cons_zero, List.set_cons_succ]
          refine AnyW.next (i := 4) (v := .agg [y0, y1, y2, y3, y4, y5, y6, y7, y8, y9, y10].toArray) hq hns hHeld rfl rfl (by kernel_rfl) (yieldsIf_load_mid (by rfl) 31 (.tmp 3) rfl n 0 rfl [y0, y1, y2, y3, y4, y5, y6, y7, y8, y9, y10] _ (fun w' h => h.2) Tryd.underlying31 rfl (infoD.trans (by rfl))) ?_
          try simp only [List.setIfInBounds_toArray, List.set_cons_zero, List.set_cons_succ]
          refine AnyW.one 5 (by kernel_rfl) rfl (fun K' hK => ?_)
          go_simp
          refine (oeq_any (Rx.rd (fun z hz => by have := hP z hz; omega)) (R0.rd (fun z hz => by have := hP z hz; omega)) (hT.go hn BB).vs hz.out).mono ?_
          rintro e w5 ⟨rfl, B5⟩
          go_wp2_with fail
          have S0 := S0.nx B5
          have R0 := R0.keeps hP (by omega) B5
          have L0 := L0.keeps hP (by omega) B5
          have L1 := L1.go hP (by omega) B5
          have Rx := Rx.keeps hP (by omega) B5
          have rx := range_nx rx B5 (by omega)
          have hb := Nat.lt_of_lt_of_le hb B5.size
          have BB := BB.trans (B5.mono (by omega))
          have hN := Nat.le_trans hN B5.size
          refine hK.out _ _ (.inr ⟨(rx), (fun j u hj => by rw [Nat.zero_add]; exact (S0.1 j u hj).1)⟩) (fun hG => ?_)
          have hHeld := hG.resolve_left (notGone.spec (by rfl))
          clear hK K' hG
          try simp only [List.setIfInBounds_toArray, List.set_cons_zero, List.set_cons_succ]
          refine AnyW.done (by kernel_rfl) (hQK.out _ _ ?_)
          clear hQK hq hns hHeld
          go_wp2_with fail
          go_meet
          exact ⟨rfl, S0, R0, L0, L1, BB, hN⟩
        case rest =>
        clear S0 R0 L0 L1 BB hN Rx rx hb hA
        obtain ⟨rfl, S0, R0, L0, L1, BB, hN⟩ := hcut
        obtain ⟨nx, hnx⟩ : ∃ nx, cntK x m0 (k + 1) = nx := ⟨_, rfl⟩
        obtain ⟨nk, hnk⟩ : ∃ nk, cntK x m0 k = nk := ⟨_, rfl⟩
        have hst := hst.out
        rw [hnx, hnk] at hst
        rw [hnk] at hcl
        rw [hnk]
        replace hnx := Lib.hid hnx
        replace hst := Lib.hid hst
        clear hnk
        cases z with
        | true =>
          have hzw : IntKind.i64.wrap ((nk : Int) + 1) = (nx : Int) := (IntWalk.i64_in _ (by omega)).trans (by have := hst.out; simp at this; omega)
          go_upto_region 15 with fail
          go_roundg (m0.length - (k + 1))
          case measure => have := hgk.out; omega
          case rel => exact ⟨k + 1, by rw [hnx16.out], by rw [hnx.out], by simp, Lib.hid (by omega), S0, R0, L0, L1, BB, hN⟩
        | false =>
          have hzw : nk = nx := by have := hst.out; simp at this; omega
          go_upto_region 15 with fail
          go_roundg (m0.length - (k + 1))
          case measure => have := hgk.out; omega
          case rel => exact ⟨k + 1, by rw [hnx16.out], by rw [hnx.out, hzw], by simp, Lib.hid (by omega), S0, R0, L0, L1, BB, hN⟩
      · have hkz : ¬ (k : Int) < (m0.length : Int) := by omega
        have hkk : k = m0.length := by have := hgk.out; omega
        have hcp := cntK_perm x hpm.out
        rw [hlm0.out, ← hkk] at hcp
        rw [hcp]
        clear hcp
        go_wp2_with fail
        go_ret
        try rw [hn]
        exact ⟨by simp, BB⟩
  · have hez : (es != 0) = true := by simpa using he
    have hun := order_no (by rw [hes.out]; exact he)
    replace hun := Lib.hid hun
    go_upto_region 6 with fail
    go_wp2_with fail
    refine (awake11_any v5_ (hT.go hn BB)).mono ?_
    rintro e w8 ⟨rfl, B8⟩
    have L0 := L0.keeps hP (by omega) B8
    have R0 := R0.keeps hP (by omega) B8
    have S0 := S0.nx B8
    have BB := BB.trans (B8.mono (by omega))
    have RD := RD.go hP (by omega) B8
    have S5 := S5.nx B8
    have RS := RS.go hP (by omega) B8
    have S6 := S6.nx B8
    have hN := Nat.le_trans hN B8.size
    have kd_0 := S5.cell 0; have kd_1 := S5.cell 1; have kd_2 := S5.cell 2; have kd_3 := S5.cell 3; have kd_4 := S5.cell 4; have kd_5 := S5.cell 5; have kd_6 := S5.cell 6; have kd_7 := S5.cell 7; have kd_8 := S5.cell 8; have kd_9 := S5.cell 9; have kd_10 := S5.cell 10
    go_wp2_with fail
    refine (rdsound_any vU (ofD m0) _ w8 (RD.rd (fun z hz => hz.lt hP (by omega))) (RVS.of _ _)).mono ?_
    rintro e w9 ⟨rfl, B9⟩
    rw [hun.out]
    have BB := BB.trans (B9.mono (by omega))
    go_wp2_with fail
    go_ret
    rw [hn]
    exact ⟨rfl, BB⟩

theorem order_card (A : Option Addr) (c : Nat) (l : List Dat) (x : Dat) (vx : Value) (w : World) (hL : RLs w (fun b => b < w.heap.size) A c l) (_ : l.length ≤ 1048576) (hX : RD w w.heap.size x vx) (hT : Lib.Utf8Tabs (Tryd.lays196_ren.g 3) (Tryd.lays196_ren.g 4) w) :
    Calls Tryd.prog 5 #[.slice A l.length c, vx] w fun e w' => e = .returned (.bool true) ∧ Below w.heap.size w w' := order_walk A c l x vx w _ (fun _ h => h) hL hX.rdp hT

end Go.Proofs.YtilhnjecnhpmlaaDoor
