/- Merged texts: EqB. -/
import Derived.Test.YtccgmeomecjihaaDoorGL
namespace Go.Proofs.YtccgmeomecjihaaDoor
open Go.RowKit

/-- Cmp of any data -/
theorem cmpD_any {a b : Dat} {va vb : Value} {w : World} (hR : RD w w.heap.size a va) (hS : RD w w.heap.size b vb) (hV : VS vU w.heap.size w) :
    Calls Tryd.prog 9 #[va, vb] w fun e w' => e = .returned (.int .i64 (cmpD vU a b)) ∧ Below w.heap.size w w' := ecmpd_any vU hR hS hV
theorem eqD_any {a b : Dat} {va vb : Value} {w : World} (hR : RD w w.heap.size a va) (hS : RD w w.heap.size b vb) (hV : VS vU w.heap.size w) :
    Calls Tryd.prog 7 #[va, vb] w fun e w' => e = .returned (.bool (eqD vU a b)) ∧ Below w.heap.size w w' := eequal_any vU hR hS hV
theorem cmpD_bet (a b : Dat) : bet (cmpD vU a b) := by
  unfold cmpD
  split
  · exact ord_bet a b
  · unfold bet; omega
theorem cmpD_turn (a b : Dat) : cmpD vU b a = -cmpD vU a b := by
  unfold cmpD
  by_cases h : a.sound vU = true ∧ b.sound vU = true
  · rw [if_pos h, if_pos ⟨h.2, h.1⟩]
    exact ord_turn numOrd a b (Dat.sound_good h.1) (Dat.sound_good h.2)
  · rw [if_neg h, if_neg (fun e => h ⟨e.2, e.1⟩)]
    rfl
theorem cmpD_self (a : Dat) : cmpD vU a a = 0 := by
  have := cmpD_turn a a
  omega
theorem cmpD_not {a b : Dat} (h : (a.sound vU && b.sound vU) = false) : cmpD vU a b = 0 := by
  unfold cmpD
  rw [if_neg (fun e => by rw [e.1, e.2] at h; cases h)]
theorem cmpD_tr {a b c : Dat} (ha : a.sound vU = true) (hb : b.sound vU = true) (hc : c.sound vU = true) : TR (cmpD vU a b) (cmpD vU b c) (cmpD vU a c) := by
  unfold cmpD
  rw [if_pos ⟨ha, hb⟩, if_pos ⟨hb, hc⟩, if_pos ⟨ha, hc⟩]
  exact ord_tr numOrd a b c (Dat.sound_good ha) (Dat.sound_good hb) (Dat.sound_good hc)
theorem eqD_cmp {a b : Dat} (ha : a.sound vU = true) (hb : b.sound vU = true) : eqD vU a b = decide (cmpD vU a b = 0) := by
  unfold eqD cmpD
  rw [ha, hb, if_pos ⟨rfl, rfl⟩]
  simp

set_option maxRecDepth 100000 in
set_option maxHeartbeats 16000000 in
theorem orders_walk (a b c : Dat) (va vb vc : Value) (w : World) (ha : RD w w.heap.size a va) (hb : RD w w.heap.size b vb) (hc : RD w w.heap.size c vc) (hV : VS vU w.heap.size w) :
    Calls Tryd.prog 4 #[va, vb, vc] w fun e w' => e = .returned (.bool true) ∧ Below w.heap.size w w' := by
  obtain ⟨X, hX⟩ : ∃ X, cmpD vU a b = X := ⟨_, rfl⟩
  obtain ⟨Y, hY⟩ : ∃ Y, cmpD vU b c = Y := ⟨_, rfl⟩
  obtain ⟨Z, hZ⟩ : ∃ Z, cmpD vU a c = Z := ⟨_, rfl⟩
  have bX : bet X := hX ▸ cmpD_bet a b
  have bY : bet Y := hY ▸ cmpD_bet b c
  have bZ : bet Z := hZ ▸ cmpD_bet a c
  have hT : cmpD vU b a = -X := by rw [cmpD_turn, hX]
  have hS := cmpD_self a
  have cX := fun (w : World) (va vb : Value) h1 h2 h3 => cmpD_any (a := a) (b := b) (va := va) (vb := vb) (w := w) h1 h2 h3
  have cY := fun (w : World) (va vb : Value) h1 h2 h3 => cmpD_any (a := b) (b := c) (va := va) (vb := vb) (w := w) h1 h2 h3
  have cZ := fun (w : World) (va vb : Value) h1 h2 h3 => cmpD_any (a := a) (b := c) (va := va) (vb := vb) (w := w) h1 h2 h3
  have cT := fun (w : World) (va vb : Value) h1 h2 h3 => cmpD_any (a := b) (b := a) (va := va) (vb := vb) (w := w) h1 h2 h3
  have cS := fun (w : World) (va vb : Value) h1 h2 h3 => cmpD_any (a := a) (b := a) (va := va) (vb := vb) (w := w) h1 h2 h3
  rw [hX] at cX
  rw [hY] at cY
  rw [hZ] at cZ
  rw [hT] at cT
  rw [hS] at cS
  have uX : (a.sound vU && b.sound vU) = false → X = 0 := fun h => hX ▸ cmpD_not h
  have uY : (b.sound vU && c.sound vU) = false → Y = 0 := fun h => hY ▸ cmpD_not h
  have hTR : a.sound vU = true → b.sound vU = true → c.sound vU = true → TR X Y Z := fun h1 h2 h3 => hX ▸ hY ▸ hZ ▸ cmpD_tr h1 h2 h3
  have eX : a.sound vU = true → b.sound vU = true → eqD vU a b = decide (X = 0) := fun h1 h2 => (eqD_cmp (a := a) (b := b) h1 h2).trans (by rw [hX])
  have eZ : a.sound vU = true → c.sound vU = true → eqD vU a c = decide (Z = 0) := fun h1 h2 => (eqD_cmp (a := a) (b := c) h1 h2).trans (by rw [hZ])
  clear hX hY hZ hT hS
  obtain ⟨la, rfl, hla, -⟩ := ha.agg
  obtain ⟨lb, rfl, hlb, -⟩ := hb.agg
  obtain ⟨lc, rfl, hlc, -⟩ := hc.agg
  match la, hla, lb, hlb, lc, hlc with
  | [x0, x1, x2, x3, x4, x5, x6, x7, x8, x9, x10], _, [y0, y1, y2, y3, y4, y5, y6, y7, y8, y9, y10], _, [z0, z1, z2, z3, z4, z5, z6, z7, z8, z9, z10], _ =>
  have SA := SB.new (w) [x0, x1, x2, x3, x4, x5, x6, x7, x8, x9, x10] 30
  have Ba := bal (w) (.cells #[x0, x1, x2, x3, x4, x5, x6, x7, x8, x9, x10] 30)
  have SB_ := SB.new ((w).alloc (.cells #[x0, x1, x2, x3, x4, x5, x6, x7, x8, x9, x10] 30)) [y0, y1, y2, y3, y4, y5, y6, y7, y8, y9, y10] 30
  have Bb := bal ((w).alloc (.cells #[x0, x1, x2, x3, x4, x5, x6, x7, x8, x9, x10] 30)) (.cells #[y0, y1, y2, y3, y4, y5, y6, y7, y8, y9, y10] 30)
  have SC := SB.new (((w).alloc (.cells #[x0, x1, x2, x3, x4, x5, x6, x7, x8, x9, x10] 30)).alloc (.cells #[y0, y1, y2, y3, y4, y5, y6, y7, y8, y9, y10] 30)) [z0, z1, z2, z3, z4, z5, z6, z7, z8, z9, z10] 30
  have Bc := bal (((w).alloc (.cells #[x0, x1, x2, x3, x4, x5, x6, x7, x8, x9, x10] 30)).alloc (.cells #[y0, y1, y2, y3, y4, y5, y6, y7, y8, y9, y10] 30)) (.cells #[z0, z1, z2, z3, z4, z5, z6, z7, z8, z9, z10] 30)
  replace SA := SA.nx Bb
  replace SA := SA.nx Bc
  replace SB_ := SB_.nx Bc
  have BB := Ba
  replace BB := bt BB Bb
  replace BB := bt BB Bc
  have RA := ha.st BB
  have RB_ := hb.st BB
  have RC_ := hc.st BB
  have V := (hV.st BB).more BB.size
  have z1_ : ((w).alloc (.cells #[x0, x1, x2, x3, x4, x5, x6, x7, x8, x9, x10] 30)).heap.size = w.heap.size + 1 := by simp
  rw [z1_] at SB_
  have z2_ : (((w).alloc (.cells #[x0, x1, x2, x3, x4, x5, x6, x7, x8, x9, x10] 30)).alloc (.cells #[y0, y1, y2, y3, y4, y5, y6, y7, y8, y9, y10] 30)).heap.size = w.heap.size + 2 := by simp
  rw [z2_] at SC
  go_enter Tryd.func4, Tryd.ntmps4
  go_upto_region 1 with fail
  obtain ⟨W0, hW0⟩ : ∃ W0, W0 = (((w).alloc (.cells #[x0, x1, x2, x3, x4, x5, x6, x7, x8, x9, x10] 30)).alloc (.cells #[y0, y1, y2, y3, y4, y5, y6, y7, y8, y9, y10] 30)).alloc (.cells #[z0, z1, z2, z3, z4, z5, z6, z7, z8, z9, z10] 30) := ⟨_, rfl⟩
  rw [← hW0] at SA SB_ SC BB RA RB_ RC_ V ⊢
  clear hW0 Ba Bb Bc ha hb hc hV z1_ z2_
  generalize hn : w.heap.size = n at *
  have hnw : n < W0.heap.size := Nat.lt_of_le_of_lt (Nat.le_of_eq hn.symm) (by rw [hn]; exact SA.2)
  have D := (Below.refl W0.heap.size W0).drew
  have BD : Below n w W0.drew := bdN BB 1
  replace SA := SA.nx D
  replace SB_ := SB_.nx D
  replace SC := SC.nx D
  replace RA := RA.st D
  replace RB_ := RB_.st D
  replace RC_ := RC_.st D
  replace V := (V.st D).more D.size
  refine AnyV.regionQ 12 12 (fun w' => w'.rangeAt n 0 [x0, x1, x2, x3, x4, x5, x6, x7, x8, x9, x10] ∧ w'.rangeAt (n + 1) 0 [y0, y1, y2, y3, y4, y5, y6, y7, y8, y9, y10] ∧ w'.rangeAt (n + 2) 0 [z0, z1, z2, z3, z4, z5, z6, z7, z8, z9, z10]) rfl (by kernel_rfl) (by kernel_rfl) (by repeat (first | refine quiet_then ?_ | refine quiet_block ?_ | exact quiet_body)) ⟨(fun j u hj => by rw [Nat.zero_add]; exact (SA.1 j u hj).1), (fun j u hj => by rw [Nat.zero_add]; exact (SB_.1 j u hj).1), (fun j u hj => by rw [Nat.zero_add]; exact (SC.1 j u hj).1)⟩ (fun Q hQK hq hns hHeld => ?_)
  replace hnw : n < W0.drew.heap.size := SA.2
  clear D BB
  have BB := BD
  clear BD
  generalize W0.drew = w9 at *
  refine AnyV.next (i := 0) (v := .agg [x0, x1, x2, x3, x4, x5, x6, x7, x8, x9, x10].toArray) hq hns hHeld rfl rfl (by kernel_rfl) (yieldsIf_load_mid (by rfl) 30 (.tmp 3) rfl n 0 rfl [x0, x1, x2, x3, x4, x5, x6, x7, x8, x9, x10] _ (fun w' h => h.1) Tryd.underlying30 rfl (infoD.trans (by rfl))) ?_
  try simp only [List.setIfInBounds_toArray, List.set_cons_zero, List.set_cons_succ]
  refine AnyV.next (i := 1) (v := .agg [y0, y1, y2, y3, y4, y5, y6, y7, y8, y9, y10].toArray) hq hns hHeld rfl rfl (by kernel_rfl) (yieldsIf_load_mid (by rfl) 30 (.tmp 4) rfl (n + 1) 0 rfl [y0, y1, y2, y3, y4, y5, y6, y7, y8, y9, y10] _ (fun w' h => h.2.1) Tryd.underlying30 rfl (infoD.trans (by rfl))) ?_
  try simp only [List.setIfInBounds_toArray, List.set_cons_zero, List.set_cons_succ]
  refine AnyV.next (i := 3) (v := .agg [y0, y1, y2, y3, y4, y5, y6, y7, y8, y9, y10].toArray) hq hns hHeld rfl rfl (by kernel_rfl) (yieldsIf_load_mid (by rfl) 30 (.tmp 4) rfl (n + 1) 0 rfl [y0, y1, y2, y3, y4, y5, y6, y7, y8, y9, y10] _ (fun w' h => h.2.1) Tryd.underlying30 rfl (infoD.trans (by rfl))) ?_
  try simp only [List.setIfInBounds_toArray, List.set_cons_zero, List.set_cons_succ]
  refine AnyV.next (i := 4) (v := .agg [z0, z1, z2, z3, z4, z5, z6, z7, z8, z9, z10].toArray) hq hns hHeld rfl rfl (by kernel_rfl) (yieldsIf_load_mid (by rfl) 30 (.tmp 5) rfl (n + 2) 0 rfl [z0, z1, z2, z3, z4, z5, z6, z7, z8, z9, z10] _ (fun w' h => h.2.2) Tryd.underlying30 rfl (infoD.trans (by rfl))) ?_
  try simp only [List.setIfInBounds_toArray, List.set_cons_zero, List.set_cons_succ]
  refine AnyV.next (i := 6) (v := .agg [x0, x1, x2, x3, x4, x5, x6, x7, x8, x9, x10].toArray) hq hns hHeld rfl rfl (by kernel_rfl) (yieldsIf_load_mid (by rfl) 30 (.tmp 3) rfl n 0 rfl [x0, x1, x2, x3, x4, x5, x6, x7, x8, x9, x10] _ (fun w' h => h.1) Tryd.underlying30 rfl (infoD.trans (by rfl))) ?_
  try simp only [List.setIfInBounds_toArray, List.set_cons_zero, List.set_cons_succ]
  refine AnyV.next (i := 7) (v := .agg [z0, z1, z2, z3, z4, z5, z6, z7, z8, z9, z10].toArray) hq hns hHeld rfl rfl (by kernel_rfl) (yieldsIf_load_mid (by rfl) 30 (.tmp 5) rfl (n + 2) 0 rfl [z0, z1, z2, z3, z4, z5, z6, z7, z8, z9, z10] _ (fun w' h => h.2.2) Tryd.underlying30 rfl (infoD.trans (by rfl))) ?_
  try simp only [List.setIfInBounds_toArray, List.set_cons_zero, List.set_cons_succ]
  refine AnyV.one 2 (by kernel_rfl) rfl (fun K hK => ?_)
  go_simp
  refine (cX _ _ _ RA RB_ V).mono ?_; rintro e w10 ⟨rfl, B10⟩
  go_wp2_with fail
  replace SA := SA.nx B10
  replace SB_ := SB_.nx B10
  replace SC := SC.nx B10
  replace RA := RA.st B10
  replace RB_ := RB_.st B10
  replace RC_ := RC_.st B10
  replace V := (V.st B10).more B10.size
  have BN := BB.trans (B10.mono (Nat.le_of_lt hnw))
  clear BB B10
  have BB := BN
  clear BN
  replace hnw : n < w10.heap.size := SA.2
  refine hK.out _ _ (.inr ⟨(fun j u hj => by rw [Nat.zero_add]; exact (SA.1 j u hj).1), (fun j u hj => by rw [Nat.zero_add]; exact (SB_.1 j u hj).1), (fun j u hj => by rw [Nat.zero_add]; exact (SC.1 j u hj).1)⟩) (fun hHeld => ?_)
  have hHeld := hHeld.resolve_left (by decide)
  clear hK K
  try simp only [List.setIfInBounds_toArray, List.set_cons_zero, List.set_cons_succ]
  refine AnyV.one 5 (by kernel_rfl) rfl (fun K hK => ?_)
  go_simp
  refine (cY _ _ _ RB_ RC_ V).mono ?_; rintro e w11 ⟨rfl, B11⟩
  go_wp2_with fail
  replace SA := SA.nx B11
  replace SB_ := SB_.nx B11
  replace SC := SC.nx B11
  replace RA := RA.st B11
  replace RB_ := RB_.st B11
  replace RC_ := RC_.st B11
  replace V := (V.st B11).more B11.size
  have BN := BB.trans (B11.mono (Nat.le_of_lt hnw))
  clear BB B11
  have BB := BN
  clear BN
  replace hnw : n < w11.heap.size := SA.2
  refine hK.out _ _ (.inr ⟨(fun j u hj => by rw [Nat.zero_add]; exact (SA.1 j u hj).1), (fun j u hj => by rw [Nat.zero_add]; exact (SB_.1 j u hj).1), (fun j u hj => by rw [Nat.zero_add]; exact (SC.1 j u hj).1)⟩) (fun hHeld => ?_)
  have hHeld := hHeld.resolve_left (by decide)
  clear hK K
  try simp only [List.setIfInBounds_toArray, List.set_cons_zero, List.set_cons_succ]
  refine AnyV.one 8 (by kernel_rfl) rfl (fun K hK => ?_)
  go_simp
  refine (cZ _ _ _ RA RC_ V).mono ?_; rintro e w12 ⟨rfl, B12⟩
  go_wp2_with fail
  replace SA := SA.nx B12
  replace SB_ := SB_.nx B12
  replace SC := SC.nx B12
  replace RA := RA.st B12
  replace RB_ := RB_.st B12
  replace RC_ := RC_.st B12
  replace V := (V.st B12).more B12.size
  have BN := BB.trans (B12.mono (Nat.le_of_lt hnw))
  clear BB B12
  have BB := BN
  clear BN
  replace hnw : n < w12.heap.size := SA.2
  refine hK.out _ _ (.inr ⟨(fun j u hj => by rw [Nat.zero_add]; exact (SA.1 j u hj).1), (fun j u hj => by rw [Nat.zero_add]; exact (SB_.1 j u hj).1), (fun j u hj => by rw [Nat.zero_add]; exact (SC.1 j u hj).1)⟩) (fun hHeld => ?_)
  have hHeld := hHeld.resolve_left (by decide)
  clear hK K
  try simp only [List.setIfInBounds_toArray, List.set_cons_zero, List.set_cons_succ]
  refine AnyV.one 9 (by kernel_rfl) rfl (fun K hK => ?_)
  go_simp
  refine hK.out _ _ (.inr hHeld) (fun _ => ?_)
  clear hK K
  try simp only [List.setIfInBounds_toArray, List.set_cons_zero, List.set_cons_succ]
  refine AnyV.one 10 (by kernel_rfl) rfl (fun K hK => ?_)
  go_simp
  refine hK.out _ _ (.inr hHeld) (fun _ => ?_)
  clear hK K
  try simp only [List.setIfInBounds_toArray, List.set_cons_zero, List.set_cons_succ]
  refine AnyV.one 11 (by kernel_rfl) rfl (fun K hK => ?_)
  go_simp
  refine hK.out _ _ (.inr hHeld) (fun _ => ?_)
  clear hK K
  try simp only [List.setIfInBounds_toArray, List.set_cons_zero, List.set_cons_succ]
  refine AnyV.done (by kernel_rfl) (hQK.out _ _ ?_)
  clear hQK hq hns hHeld cX cY cZ
  have hnX : IntKind.i64.wrap (-X) = -X := IntWalk.i64_in _ (by unfold bet at bX; omega)
  have tX : ((-X : Int) != -X) = false := by simp
  go_wp2_with fail
  refine (awake10_any _ V).mono ?_; rintro e w13 ⟨rfl, B13⟩
  replace SA := SA.nx B13
  replace SB_ := SB_.nx B13
  replace SC := SC.nx B13
  replace RA := RA.st B13
  replace RB_ := RB_.st B13
  replace RC_ := RC_.st B13
  replace V := (V.st B13).more B13.size
  have BN := BB.trans (B13.mono (Nat.le_of_lt hnw))
  clear BB B13
  have BB := BN
  clear BN
  replace hnw : n < w13.heap.size := SA.2
  have i0 := SA.cell 0; have i1 := SA.cell 1; have i2 := SA.cell 2; have i3 := SA.cell 3; have i4 := SA.cell 4; have i5 := SA.cell 5; have i6 := SA.cell 6; have i7 := SA.cell 7; have i8 := SA.cell 8; have i9 := SA.cell 9; have i10 := SA.cell 10
  have j0 := SB_.cell 0; have j1 := SB_.cell 1; have j2 := SB_.cell 2; have j3 := SB_.cell 3; have j4 := SB_.cell 4; have j5 := SB_.cell 5; have j6 := SB_.cell 6; have j7 := SB_.cell 7; have j8 := SB_.cell 8; have j9 := SB_.cell 9; have j10 := SB_.cell 10
  go_wp2_with fail
  refine (cT _ _ _ RB_ RA V).mono ?_; rintro e w14 ⟨rfl, B14⟩
  clear i0 i1 i2 i3 i4 i5 i6 i7 i8 i9 i10 j0 j1 j2 j3 j4 j5 j6 j7 j8 j9 j10
  replace SA := SA.nx B14
  replace SB_ := SB_.nx B14
  replace SC := SC.nx B14
  replace RA := RA.st B14
  replace RB_ := RB_.st B14
  replace RC_ := RC_.st B14
  replace V := (V.st B14).more B14.size
  have BN := BB.trans (B14.mono (Nat.le_of_lt hnw))
  clear BB B14
  have BB := BN
  clear BN
  replace hnw : n < w14.heap.size := SA.2
  have i0 := SA.cell 0; have i1 := SA.cell 1; have i2 := SA.cell 2; have i3 := SA.cell 3; have i4 := SA.cell 4; have i5 := SA.cell 5; have i6 := SA.cell 6; have i7 := SA.cell 7; have i8 := SA.cell 8; have i9 := SA.cell 9; have i10 := SA.cell 10
  go_wp2_with fail
  refine (cS _ _ _ RA RA V).mono ?_; rintro e w15 ⟨rfl, B15⟩
  clear i0 i1 i2 i3 i4 i5 i6 i7 i8 i9 i10
  replace SA := SA.nx B15
  replace SB_ := SB_.nx B15
  replace SC := SC.nx B15
  replace RA := RA.st B15
  replace RB_ := RB_.st B15
  replace RC_ := RC_.st B15
  replace V := (V.st B15).more B15.size
  have BN := BB.trans (B15.mono (Nat.le_of_lt hnw))
  clear BB B15
  have BB := BN
  clear BN
  replace hnw : n < w15.heap.size := SA.2
  clear cT cS hnX tX
  go_upto_region 4 with fail
  cases ha2 : a.sound vU with
  | false =>
    have hX0 : X = 0 := uX (by rw [ha2]; rfl)
    have t0 : (X == 0) = true := by rw [hX0]; rfl
    replace ha2 := Lib.hid ha2
    cases hb2 : b.sound vU with
    | false =>
      have hY0 : Y = 0 := uY (by rw [hb2]; rfl)
      have t1 : (Y == 0) = true := by rw [hY0]; rfl
      replace hb2 := Lib.hid hb2
      clear hX0 hY0 uX uY hTR eX eZ
      have i0 := SA.cell 0; have i1 := SA.cell 1; have i2 := SA.cell 2; have i3 := SA.cell 3; have i4 := SA.cell 4; have i5 := SA.cell 5; have i6 := SA.cell 6; have i7 := SA.cell 7; have i8 := SA.cell 8; have i9 := SA.cell 9; have i10 := SA.cell 10
      go_wp2_with fail
      have cq := rdsound_any vU a _ _ RA (RVS.of _ _)
      rw [ha2.out] at cq
      refine (cq).mono ?_; rintro e w16 ⟨rfl, B16⟩
      clear cq
      clear i0 i1 i2 i3 i4 i5 i6 i7 i8 i9 i10
      replace SA := SA.nx B16
      replace SB_ := SB_.nx B16
      replace SC := SC.nx B16
      replace RA := RA.st B16
      replace RB_ := RB_.st B16
      replace RC_ := RC_.st B16
      replace V := (V.st B16).more B16.size
      have BN := BB.trans (B16.mono (Nat.le_of_lt hnw))
      clear BB B16
      have BB := BN
      clear BN
      replace hnw : n < w16.heap.size := SA.2
      have i0 := SA.cell 0; have i1 := SA.cell 1; have i2 := SA.cell 2; have i3 := SA.cell 3; have i4 := SA.cell 4; have i5 := SA.cell 5; have i6 := SA.cell 6; have i7 := SA.cell 7; have i8 := SA.cell 8; have i9 := SA.cell 9; have i10 := SA.cell 10
      go_wp2_with fail
      have cq := rdsound_any vU a _ _ RA (RVS.of _ _)
      rw [ha2.out] at cq
      refine (cq).mono ?_; rintro e w17 ⟨rfl, B17⟩
      clear cq
      clear i0 i1 i2 i3 i4 i5 i6 i7 i8 i9 i10
      replace SA := SA.nx B17
      replace SB_ := SB_.nx B17
      replace SC := SC.nx B17
      replace RA := RA.st B17
      replace RB_ := RB_.st B17
      replace RC_ := RC_.st B17
      replace V := (V.st B17).more B17.size
      have BN := BB.trans (B17.mono (Nat.le_of_lt hnw))
      clear BB B17
      have BB := BN
      clear BN
      replace hnw : n < w17.heap.size := SA.2
      have j0 := SB_.cell 0; have j1 := SB_.cell 1; have j2 := SB_.cell 2; have j3 := SB_.cell 3; have j4 := SB_.cell 4; have j5 := SB_.cell 5; have j6 := SB_.cell 6; have j7 := SB_.cell 7; have j8 := SB_.cell 8; have j9 := SB_.cell 9; have j10 := SB_.cell 10
      go_wp2_with fail
      have cq := rdsound_any vU b _ _ RB_ (RVS.of _ _)
      rw [hb2.out] at cq
      refine (cq).mono ?_; rintro e w18 ⟨rfl, B18⟩
      clear cq
      clear j0 j1 j2 j3 j4 j5 j6 j7 j8 j9 j10
      replace SA := SA.nx B18
      replace SB_ := SB_.nx B18
      replace SC := SC.nx B18
      replace RA := RA.st B18
      replace RB_ := RB_.st B18
      replace RC_ := RC_.st B18
      replace V := (V.st B18).more B18.size
      have BN := BB.trans (B18.mono (Nat.le_of_lt hnw))
      clear BB B18
      have BB := BN
      clear BN
      replace hnw : n < w18.heap.size := SA.2
      go_wp2_with fail
      go_ret
      exact ⟨rfl, by rw [hn]; exact BB⟩
    | true =>
      replace hb2 := Lib.hid hb2
      cases hc2 : c.sound vU with
      | false =>
        have hY0 : Y = 0 := uY (by rw [hc2]; simp)
        have t1 : (Y == 0) = true := by rw [hY0]; rfl
        replace hc2 := Lib.hid hc2
        clear hX0 hY0 uX uY hTR eX eZ
        have i0 := SA.cell 0; have i1 := SA.cell 1; have i2 := SA.cell 2; have i3 := SA.cell 3; have i4 := SA.cell 4; have i5 := SA.cell 5; have i6 := SA.cell 6; have i7 := SA.cell 7; have i8 := SA.cell 8; have i9 := SA.cell 9; have i10 := SA.cell 10
        go_wp2_with fail
        have cq := rdsound_any vU a _ _ RA (RVS.of _ _)
        rw [ha2.out] at cq
        refine (cq).mono ?_; rintro e w19 ⟨rfl, B19⟩
        clear cq
        clear i0 i1 i2 i3 i4 i5 i6 i7 i8 i9 i10
        replace SA := SA.nx B19
        replace SB_ := SB_.nx B19
        replace SC := SC.nx B19
        replace RA := RA.st B19
        replace RB_ := RB_.st B19
        replace RC_ := RC_.st B19
        replace V := (V.st B19).more B19.size
        have BN := BB.trans (B19.mono (Nat.le_of_lt hnw))
        clear BB B19
        have BB := BN
        clear BN
        replace hnw : n < w19.heap.size := SA.2
        have i0 := SA.cell 0; have i1 := SA.cell 1; have i2 := SA.cell 2; have i3 := SA.cell 3; have i4 := SA.cell 4; have i5 := SA.cell 5; have i6 := SA.cell 6; have i7 := SA.cell 7; have i8 := SA.cell 8; have i9 := SA.cell 9; have i10 := SA.cell 10
        go_wp2_with fail
        have cq := rdsound_any vU a _ _ RA (RVS.of _ _)
        rw [ha2.out] at cq
        refine (cq).mono ?_; rintro e w20 ⟨rfl, B20⟩
        clear cq
        clear i0 i1 i2 i3 i4 i5 i6 i7 i8 i9 i10
        replace SA := SA.nx B20
        replace SB_ := SB_.nx B20
        replace SC := SC.nx B20
        replace RA := RA.st B20
        replace RB_ := RB_.st B20
        replace RC_ := RC_.st B20
        replace V := (V.st B20).more B20.size
        have BN := BB.trans (B20.mono (Nat.le_of_lt hnw))
        clear BB B20
        have BB := BN
        clear BN
        replace hnw : n < w20.heap.size := SA.2
        have j0 := SB_.cell 0; have j1 := SB_.cell 1; have j2 := SB_.cell 2; have j3 := SB_.cell 3; have j4 := SB_.cell 4; have j5 := SB_.cell 5; have j6 := SB_.cell 6; have j7 := SB_.cell 7; have j8 := SB_.cell 8; have j9 := SB_.cell 9; have j10 := SB_.cell 10
        go_wp2_with fail
        have cq := rdsound_any vU b _ _ RB_ (RVS.of _ _)
        rw [hb2.out] at cq
        refine (cq).mono ?_; rintro e w21 ⟨rfl, B21⟩
        clear cq
        clear j0 j1 j2 j3 j4 j5 j6 j7 j8 j9 j10
        replace SA := SA.nx B21
        replace SB_ := SB_.nx B21
        replace SC := SC.nx B21
        replace RA := RA.st B21
        replace RB_ := RB_.st B21
        replace RC_ := RC_.st B21
        replace V := (V.st B21).more B21.size
        have BN := BB.trans (B21.mono (Nat.le_of_lt hnw))
        clear BB B21
        have BB := BN
        clear BN
        replace hnw : n < w21.heap.size := SA.2
        have k0 := SC.cell 0; have k1 := SC.cell 1; have k2 := SC.cell 2; have k3 := SC.cell 3; have k4 := SC.cell 4; have k5 := SC.cell 5; have k6 := SC.cell 6; have k7 := SC.cell 7; have k8 := SC.cell 8; have k9 := SC.cell 9; have k10 := SC.cell 10
        go_wp2_with fail
        have cq := rdsound_any vU c _ _ RC_ (RVS.of _ _)
        rw [hc2.out] at cq
        refine (cq).mono ?_; rintro e w22 ⟨rfl, B22⟩
        clear cq
        clear k0 k1 k2 k3 k4 k5 k6 k7 k8 k9 k10
        replace SA := SA.nx B22
        replace SB_ := SB_.nx B22
        replace SC := SC.nx B22
        replace RA := RA.st B22
        replace RB_ := RB_.st B22
        replace RC_ := RC_.st B22
        replace V := (V.st B22).more B22.size
        have BN := BB.trans (B22.mono (Nat.le_of_lt hnw))
        clear BB B22
        have BB := BN
        clear BN
        replace hnw : n < w22.heap.size := SA.2
        go_wp2_with fail
        go_ret
        exact ⟨rfl, by rw [hn]; exact BB⟩
      | true =>
        replace hc2 := Lib.hid hc2
        clear hX0 uX uY hTR eX eZ
        have i0 := SA.cell 0; have i1 := SA.cell 1; have i2 := SA.cell 2; have i3 := SA.cell 3; have i4 := SA.cell 4; have i5 := SA.cell 5; have i6 := SA.cell 6; have i7 := SA.cell 7; have i8 := SA.cell 8; have i9 := SA.cell 9; have i10 := SA.cell 10
        go_wp2_with fail
        have cq := rdsound_any vU a _ _ RA (RVS.of _ _)
        rw [ha2.out] at cq
        refine (cq).mono ?_; rintro e w23 ⟨rfl, B23⟩
        clear cq
        clear i0 i1 i2 i3 i4 i5 i6 i7 i8 i9 i10
        replace SA := SA.nx B23
        replace SB_ := SB_.nx B23
        replace SC := SC.nx B23
        replace RA := RA.st B23
        replace RB_ := RB_.st B23
        replace RC_ := RC_.st B23
        replace V := (V.st B23).more B23.size
        have BN := BB.trans (B23.mono (Nat.le_of_lt hnw))
        clear BB B23
        have BB := BN
        clear BN
        replace hnw : n < w23.heap.size := SA.2
        have i0 := SA.cell 0; have i1 := SA.cell 1; have i2 := SA.cell 2; have i3 := SA.cell 3; have i4 := SA.cell 4; have i5 := SA.cell 5; have i6 := SA.cell 6; have i7 := SA.cell 7; have i8 := SA.cell 8; have i9 := SA.cell 9; have i10 := SA.cell 10
        go_wp2_with fail
        have cq := rdsound_any vU a _ _ RA (RVS.of _ _)
        rw [ha2.out] at cq
        refine (cq).mono ?_; rintro e w24 ⟨rfl, B24⟩
        clear cq
        clear i0 i1 i2 i3 i4 i5 i6 i7 i8 i9 i10
        replace SA := SA.nx B24
        replace SB_ := SB_.nx B24
        replace SC := SC.nx B24
        replace RA := RA.st B24
        replace RB_ := RB_.st B24
        replace RC_ := RC_.st B24
        replace V := (V.st B24).more B24.size
        have BN := BB.trans (B24.mono (Nat.le_of_lt hnw))
        clear BB B24
        have BB := BN
        clear BN
        replace hnw : n < w24.heap.size := SA.2
        have j0 := SB_.cell 0; have j1 := SB_.cell 1; have j2 := SB_.cell 2; have j3 := SB_.cell 3; have j4 := SB_.cell 4; have j5 := SB_.cell 5; have j6 := SB_.cell 6; have j7 := SB_.cell 7; have j8 := SB_.cell 8; have j9 := SB_.cell 9; have j10 := SB_.cell 10
        go_wp2_with fail
        have cq := rdsound_any vU b _ _ RB_ (RVS.of _ _)
        rw [hb2.out] at cq
        refine (cq).mono ?_; rintro e w25 ⟨rfl, B25⟩
        clear cq
        clear j0 j1 j2 j3 j4 j5 j6 j7 j8 j9 j10
        replace SA := SA.nx B25
        replace SB_ := SB_.nx B25
        replace SC := SC.nx B25
        replace RA := RA.st B25
        replace RB_ := RB_.st B25
        replace RC_ := RC_.st B25
        replace V := (V.st B25).more B25.size
        have BN := BB.trans (B25.mono (Nat.le_of_lt hnw))
        clear BB B25
        have BB := BN
        clear BN
        replace hnw : n < w25.heap.size := SA.2
        have k0 := SC.cell 0; have k1 := SC.cell 1; have k2 := SC.cell 2; have k3 := SC.cell 3; have k4 := SC.cell 4; have k5 := SC.cell 5; have k6 := SC.cell 6; have k7 := SC.cell 7; have k8 := SC.cell 8; have k9 := SC.cell 9; have k10 := SC.cell 10
        go_wp2_with fail
        have cq := rdsound_any vU c _ _ RC_ (RVS.of _ _)
        rw [hc2.out] at cq
        refine (cq).mono ?_; rintro e w26 ⟨rfl, B26⟩
        clear cq
        clear k0 k1 k2 k3 k4 k5 k6 k7 k8 k9 k10
        replace SA := SA.nx B26
        replace SB_ := SB_.nx B26
        replace SC := SC.nx B26
        replace RA := RA.st B26
        replace RB_ := RB_.st B26
        replace RC_ := RC_.st B26
        replace V := (V.st B26).more B26.size
        have BN := BB.trans (B26.mono (Nat.le_of_lt hnw))
        clear BB B26
        have BB := BN
        clear BN
        replace hnw : n < w26.heap.size := SA.2
        go_wp2_with fail
        go_ret
        exact ⟨rfl, by rw [hn]; exact BB⟩
  | true =>
    cases hb2 : b.sound vU with
    | false =>
      have hX0 : X = 0 := uX (by rw [hb2]; simp)
      have t0 : (X == 0) = true := by rw [hX0]; rfl
      have hY0 : Y = 0 := uY (by rw [hb2]; rfl)
      have t1 : (Y == 0) = true := by rw [hY0]; rfl
      replace ha2 := Lib.hid ha2
      replace hb2 := Lib.hid hb2
      clear hX0 hY0 uX uY hTR eX eZ
      have i0 := SA.cell 0; have i1 := SA.cell 1; have i2 := SA.cell 2; have i3 := SA.cell 3; have i4 := SA.cell 4; have i5 := SA.cell 5; have i6 := SA.cell 6; have i7 := SA.cell 7; have i8 := SA.cell 8; have i9 := SA.cell 9; have i10 := SA.cell 10
      go_wp2_with fail
      have cq := rdsound_any vU a _ _ RA (RVS.of _ _)
      rw [ha2.out] at cq
      refine (cq).mono ?_; rintro e w27 ⟨rfl, B27⟩
      clear cq
      clear i0 i1 i2 i3 i4 i5 i6 i7 i8 i9 i10
      replace SA := SA.nx B27
      replace SB_ := SB_.nx B27
      replace SC := SC.nx B27
      replace RA := RA.st B27
      replace RB_ := RB_.st B27
      replace RC_ := RC_.st B27
      replace V := (V.st B27).more B27.size
      have BN := BB.trans (B27.mono (Nat.le_of_lt hnw))
      clear BB B27
      have BB := BN
      clear BN
      replace hnw : n < w27.heap.size := SA.2
      have j0 := SB_.cell 0; have j1 := SB_.cell 1; have j2 := SB_.cell 2; have j3 := SB_.cell 3; have j4 := SB_.cell 4; have j5 := SB_.cell 5; have j6 := SB_.cell 6; have j7 := SB_.cell 7; have j8 := SB_.cell 8; have j9 := SB_.cell 9; have j10 := SB_.cell 10
      go_wp2_with fail
      have cq := rdsound_any vU b _ _ RB_ (RVS.of _ _)
      rw [hb2.out] at cq
      refine (cq).mono ?_; rintro e w28 ⟨rfl, B28⟩
      clear cq
      clear j0 j1 j2 j3 j4 j5 j6 j7 j8 j9 j10
      replace SA := SA.nx B28
      replace SB_ := SB_.nx B28
      replace SC := SC.nx B28
      replace RA := RA.st B28
      replace RB_ := RB_.st B28
      replace RC_ := RC_.st B28
      replace V := (V.st B28).more B28.size
      have BN := BB.trans (B28.mono (Nat.le_of_lt hnw))
      clear BB B28
      have BB := BN
      clear BN
      replace hnw : n < w28.heap.size := SA.2
      have i0 := SA.cell 0; have i1 := SA.cell 1; have i2 := SA.cell 2; have i3 := SA.cell 3; have i4 := SA.cell 4; have i5 := SA.cell 5; have i6 := SA.cell 6; have i7 := SA.cell 7; have i8 := SA.cell 8; have i9 := SA.cell 9; have i10 := SA.cell 10
      go_wp2_with fail
      have cq := rdsound_any vU a _ _ RA (RVS.of _ _)
      rw [ha2.out] at cq
      refine (cq).mono ?_; rintro e w29 ⟨rfl, B29⟩
      clear cq
      clear i0 i1 i2 i3 i4 i5 i6 i7 i8 i9 i10
      replace SA := SA.nx B29
      replace SB_ := SB_.nx B29
      replace SC := SC.nx B29
      replace RA := RA.st B29
      replace RB_ := RB_.st B29
      replace RC_ := RC_.st B29
      replace V := (V.st B29).more B29.size
      have BN := BB.trans (B29.mono (Nat.le_of_lt hnw))
      clear BB B29
      have BB := BN
      clear BN
      replace hnw : n < w29.heap.size := SA.2
      have j0 := SB_.cell 0; have j1 := SB_.cell 1; have j2 := SB_.cell 2; have j3 := SB_.cell 3; have j4 := SB_.cell 4; have j5 := SB_.cell 5; have j6 := SB_.cell 6; have j7 := SB_.cell 7; have j8 := SB_.cell 8; have j9 := SB_.cell 9; have j10 := SB_.cell 10
      go_wp2_with fail
      have cq := rdsound_any vU b _ _ RB_ (RVS.of _ _)
      rw [hb2.out] at cq
      refine (cq).mono ?_; rintro e w30 ⟨rfl, B30⟩
      clear cq
      clear j0 j1 j2 j3 j4 j5 j6 j7 j8 j9 j10
      replace SA := SA.nx B30
      replace SB_ := SB_.nx B30
      replace SC := SC.nx B30
      replace RA := RA.st B30
      replace RB_ := RB_.st B30
      replace RC_ := RC_.st B30
      replace V := (V.st B30).more B30.size
      have BN := BB.trans (B30.mono (Nat.le_of_lt hnw))
      clear BB B30
      have BB := BN
      clear BN
      replace hnw : n < w30.heap.size := SA.2
      have j0 := SB_.cell 0; have j1 := SB_.cell 1; have j2 := SB_.cell 2; have j3 := SB_.cell 3; have j4 := SB_.cell 4; have j5 := SB_.cell 5; have j6 := SB_.cell 6; have j7 := SB_.cell 7; have j8 := SB_.cell 8; have j9 := SB_.cell 9; have j10 := SB_.cell 10
      go_wp2_with fail
      have cq := rdsound_any vU b _ _ RB_ (RVS.of _ _)
      rw [hb2.out] at cq
      refine (cq).mono ?_; rintro e w31 ⟨rfl, B31⟩
      clear cq
      clear j0 j1 j2 j3 j4 j5 j6 j7 j8 j9 j10
      replace SA := SA.nx B31
      replace SB_ := SB_.nx B31
      replace SC := SC.nx B31
      replace RA := RA.st B31
      replace RB_ := RB_.st B31
      replace RC_ := RC_.st B31
      replace V := (V.st B31).more B31.size
      have BN := BB.trans (B31.mono (Nat.le_of_lt hnw))
      clear BB B31
      have BB := BN
      clear BN
      replace hnw : n < w31.heap.size := SA.2
      go_wp2_with fail
      go_ret
      exact ⟨rfl, by rw [hn]; exact BB⟩
    | true =>
      cases hc2 : c.sound vU with
      | false =>
        have hY0 : Y = 0 := uY (by rw [hc2]; simp)
        have t1 : (Y == 0) = true := by rw [hY0]; rfl
        replace ha2 := Lib.hid ha2
        replace hb2 := Lib.hid hb2
        replace hc2 := Lib.hid hc2
        clear hY0 uX uY hTR eX eZ
        have i0 := SA.cell 0; have i1 := SA.cell 1; have i2 := SA.cell 2; have i3 := SA.cell 3; have i4 := SA.cell 4; have i5 := SA.cell 5; have i6 := SA.cell 6; have i7 := SA.cell 7; have i8 := SA.cell 8; have i9 := SA.cell 9; have i10 := SA.cell 10
        go_wp2_with fail
        have cq := rdsound_any vU a _ _ RA (RVS.of _ _)
        rw [ha2.out] at cq
        refine (cq).mono ?_; rintro e w32 ⟨rfl, B32⟩
        clear cq
        clear i0 i1 i2 i3 i4 i5 i6 i7 i8 i9 i10
        replace SA := SA.nx B32
        replace SB_ := SB_.nx B32
        replace SC := SC.nx B32
        replace RA := RA.st B32
        replace RB_ := RB_.st B32
        replace RC_ := RC_.st B32
        replace V := (V.st B32).more B32.size
        have BN := BB.trans (B32.mono (Nat.le_of_lt hnw))
        clear BB B32
        have BB := BN
        clear BN
        replace hnw : n < w32.heap.size := SA.2
        have j0 := SB_.cell 0; have j1 := SB_.cell 1; have j2 := SB_.cell 2; have j3 := SB_.cell 3; have j4 := SB_.cell 4; have j5 := SB_.cell 5; have j6 := SB_.cell 6; have j7 := SB_.cell 7; have j8 := SB_.cell 8; have j9 := SB_.cell 9; have j10 := SB_.cell 10
        go_wp2_with fail
        have cq := rdsound_any vU b _ _ RB_ (RVS.of _ _)
        rw [hb2.out] at cq
        refine (cq).mono ?_; rintro e w33 ⟨rfl, B33⟩
        clear cq
        clear j0 j1 j2 j3 j4 j5 j6 j7 j8 j9 j10
        replace SA := SA.nx B33
        replace SB_ := SB_.nx B33
        replace SC := SC.nx B33
        replace RA := RA.st B33
        replace RB_ := RB_.st B33
        replace RC_ := RC_.st B33
        replace V := (V.st B33).more B33.size
        have BN := BB.trans (B33.mono (Nat.le_of_lt hnw))
        clear BB B33
        have BB := BN
        clear BN
        replace hnw : n < w33.heap.size := SA.2
        have k0 := SC.cell 0; have k1 := SC.cell 1; have k2 := SC.cell 2; have k3 := SC.cell 3; have k4 := SC.cell 4; have k5 := SC.cell 5; have k6 := SC.cell 6; have k7 := SC.cell 7; have k8 := SC.cell 8; have k9 := SC.cell 9; have k10 := SC.cell 10
        go_wp2_with fail
        have cq := rdsound_any vU c _ _ RC_ (RVS.of _ _)
        rw [hc2.out] at cq
        refine (cq).mono ?_; rintro e w34 ⟨rfl, B34⟩
        clear cq
        clear k0 k1 k2 k3 k4 k5 k6 k7 k8 k9 k10
        replace SA := SA.nx B34
        replace SB_ := SB_.nx B34
        replace SC := SC.nx B34
        replace RA := RA.st B34
        replace RB_ := RB_.st B34
        replace RC_ := RC_.st B34
        replace V := (V.st B34).more B34.size
        have BN := BB.trans (B34.mono (Nat.le_of_lt hnw))
        clear BB B34
        have BB := BN
        clear BN
        replace hnw : n < w34.heap.size := SA.2
        have i0 := SA.cell 0; have i1 := SA.cell 1; have i2 := SA.cell 2; have i3 := SA.cell 3; have i4 := SA.cell 4; have i5 := SA.cell 5; have i6 := SA.cell 6; have i7 := SA.cell 7; have i8 := SA.cell 8; have i9 := SA.cell 9; have i10 := SA.cell 10
        go_wp2_with fail
        have cq := rdsound_any vU a _ _ RA (RVS.of _ _)
        rw [ha2.out] at cq
        refine (cq).mono ?_; rintro e w35 ⟨rfl, B35⟩
        clear cq
        clear i0 i1 i2 i3 i4 i5 i6 i7 i8 i9 i10
        replace SA := SA.nx B35
        replace SB_ := SB_.nx B35
        replace SC := SC.nx B35
        replace RA := RA.st B35
        replace RB_ := RB_.st B35
        replace RC_ := RC_.st B35
        replace V := (V.st B35).more B35.size
        have BN := BB.trans (B35.mono (Nat.le_of_lt hnw))
        clear BB B35
        have BB := BN
        clear BN
        replace hnw : n < w35.heap.size := SA.2
        have j0 := SB_.cell 0; have j1 := SB_.cell 1; have j2 := SB_.cell 2; have j3 := SB_.cell 3; have j4 := SB_.cell 4; have j5 := SB_.cell 5; have j6 := SB_.cell 6; have j7 := SB_.cell 7; have j8 := SB_.cell 8; have j9 := SB_.cell 9; have j10 := SB_.cell 10
        go_wp2_with fail
        have cq := rdsound_any vU b _ _ RB_ (RVS.of _ _)
        rw [hb2.out] at cq
        refine (cq).mono ?_; rintro e w36 ⟨rfl, B36⟩
        clear cq
        clear j0 j1 j2 j3 j4 j5 j6 j7 j8 j9 j10
        replace SA := SA.nx B36
        replace SB_ := SB_.nx B36
        replace SC := SC.nx B36
        replace RA := RA.st B36
        replace RB_ := RB_.st B36
        replace RC_ := RC_.st B36
        replace V := (V.st B36).more B36.size
        have BN := BB.trans (B36.mono (Nat.le_of_lt hnw))
        clear BB B36
        have BB := BN
        clear BN
        replace hnw : n < w36.heap.size := SA.2
        have j0 := SB_.cell 0; have j1 := SB_.cell 1; have j2 := SB_.cell 2; have j3 := SB_.cell 3; have j4 := SB_.cell 4; have j5 := SB_.cell 5; have j6 := SB_.cell 6; have j7 := SB_.cell 7; have j8 := SB_.cell 8; have j9 := SB_.cell 9; have j10 := SB_.cell 10
        go_wp2_with fail
        have cq := rdsound_any vU b _ _ RB_ (RVS.of _ _)
        rw [hb2.out] at cq
        refine (cq).mono ?_; rintro e w37 ⟨rfl, B37⟩
        clear cq
        clear j0 j1 j2 j3 j4 j5 j6 j7 j8 j9 j10
        replace SA := SA.nx B37
        replace SB_ := SB_.nx B37
        replace SC := SC.nx B37
        replace RA := RA.st B37
        replace RB_ := RB_.st B37
        replace RC_ := RC_.st B37
        replace V := (V.st B37).more B37.size
        have BN := BB.trans (B37.mono (Nat.le_of_lt hnw))
        clear BB B37
        have BB := BN
        clear BN
        replace hnw : n < w37.heap.size := SA.2
        have k0 := SC.cell 0; have k1 := SC.cell 1; have k2 := SC.cell 2; have k3 := SC.cell 3; have k4 := SC.cell 4; have k5 := SC.cell 5; have k6 := SC.cell 6; have k7 := SC.cell 7; have k8 := SC.cell 8; have k9 := SC.cell 9; have k10 := SC.cell 10
        go_wp2_with fail
        have cq := rdsound_any vU c _ _ RC_ (RVS.of _ _)
        rw [hc2.out] at cq
        refine (cq).mono ?_; rintro e w38 ⟨rfl, B38⟩
        clear cq
        clear k0 k1 k2 k3 k4 k5 k6 k7 k8 k9 k10
        replace SA := SA.nx B38
        replace SB_ := SB_.nx B38
        replace SC := SC.nx B38
        replace RA := RA.st B38
        replace RB_ := RB_.st B38
        replace RC_ := RC_.st B38
        replace V := (V.st B38).more B38.size
        have BN := BB.trans (B38.mono (Nat.le_of_lt hnw))
        clear BB B38
        have BB := BN
        clear BN
        replace hnw : n < w38.heap.size := SA.2
        go_wp2_with fail
        go_ret
        exact ⟨rfl, by rw [hn]; exact BB⟩
      | true =>
        have hTR := Lib.hid (hTR ha2 hb2 hc2)
        have eX := Lib.hid (eX ha2 hb2)
        have eZ := Lib.hid (eZ ha2 hc2)
        replace ha2 := Lib.hid ha2
        replace hb2 := Lib.hid hb2
        replace hc2 := Lib.hid hc2
        clear uX uY
        have i0 := SA.cell 0; have i1 := SA.cell 1; have i2 := SA.cell 2; have i3 := SA.cell 3; have i4 := SA.cell 4; have i5 := SA.cell 5; have i6 := SA.cell 6; have i7 := SA.cell 7; have i8 := SA.cell 8; have i9 := SA.cell 9; have i10 := SA.cell 10
        go_wp2_with fail
        have cq := rdsound_any vU a _ _ RA (RVS.of _ _)
        rw [ha2.out] at cq
        refine (cq).mono ?_; rintro e w39 ⟨rfl, B39⟩
        clear cq
        clear i0 i1 i2 i3 i4 i5 i6 i7 i8 i9 i10
        replace SA := SA.nx B39
        replace SB_ := SB_.nx B39
        replace SC := SC.nx B39
        replace RA := RA.st B39
        replace RB_ := RB_.st B39
        replace RC_ := RC_.st B39
        replace V := (V.st B39).more B39.size
        have BN := BB.trans (B39.mono (Nat.le_of_lt hnw))
        clear BB B39
        have BB := BN
        clear BN
        replace hnw : n < w39.heap.size := SA.2
        have j0 := SB_.cell 0; have j1 := SB_.cell 1; have j2 := SB_.cell 2; have j3 := SB_.cell 3; have j4 := SB_.cell 4; have j5 := SB_.cell 5; have j6 := SB_.cell 6; have j7 := SB_.cell 7; have j8 := SB_.cell 8; have j9 := SB_.cell 9; have j10 := SB_.cell 10
        go_wp2_with fail
        have cq := rdsound_any vU b _ _ RB_ (RVS.of _ _)
        rw [hb2.out] at cq
        refine (cq).mono ?_; rintro e w40 ⟨rfl, B40⟩
        clear cq
        clear j0 j1 j2 j3 j4 j5 j6 j7 j8 j9 j10
        replace SA := SA.nx B40
        replace SB_ := SB_.nx B40
        replace SC := SC.nx B40
        replace RA := RA.st B40
        replace RB_ := RB_.st B40
        replace RC_ := RC_.st B40
        replace V := (V.st B40).more B40.size
        have BN := BB.trans (B40.mono (Nat.le_of_lt hnw))
        clear BB B40
        have BB := BN
        clear BN
        replace hnw : n < w40.heap.size := SA.2
        have k0 := SC.cell 0; have k1 := SC.cell 1; have k2 := SC.cell 2; have k3 := SC.cell 3; have k4 := SC.cell 4; have k5 := SC.cell 5; have k6 := SC.cell 6; have k7 := SC.cell 7; have k8 := SC.cell 8; have k9 := SC.cell 9; have k10 := SC.cell 10
        go_wp2_with fail
        have cq := rdsound_any vU c _ _ RC_ (RVS.of _ _)
        rw [hc2.out] at cq
        refine (cq).mono ?_; rintro e w41 ⟨rfl, B41⟩
        clear cq
        clear k0 k1 k2 k3 k4 k5 k6 k7 k8 k9 k10
        replace SA := SA.nx B41
        replace SB_ := SB_.nx B41
        replace SC := SC.nx B41
        replace RA := RA.st B41
        replace RB_ := RB_.st B41
        replace RC_ := RC_.st B41
        replace V := (V.st B41).more B41.size
        have BN := BB.trans (B41.mono (Nat.le_of_lt hnw))
        clear BB B41
        have BB := BN
        clear BN
        replace hnw : n < w41.heap.size := SA.2
        go_upto_region 6 with fail
        go_cut [103] (fun s103 wx => s103 = .bool false ∧ wx = w41)
        case first =>
          have h := hTR.out
          unfold TR at h
          unfold bet at bX bY bZ
          by_cases x0 : X = 0
          · by_cases y0 : Y ≤ 0
            · have z0 : Z ≤ 0 := h.1 (by omega) y0
              by_cases y1 : Y < 0
              · have z1 : Z < 0 := h.2.2 (by omega) y1
                have c1 : X ≤ 0 := by omega
                have c2 : ¬ X < 0 := by omega
                have c3 : ¬ 0 < Z := by omega
                have c4 : ¬ 0 ≤ Z := by omega
                clear x0 h hTR
                go_wp2_with fail
                go_meet
                exact ⟨rfl, rfl⟩
              · have c1 : X ≤ 0 := by omega
                have c2 : ¬ X < 0 := by omega
                have c3 : ¬ 0 < Z := by omega
                clear x0 h hTR
                go_wp2_with fail
                go_meet
                exact ⟨rfl, rfl⟩
            · have c1 : X ≤ 0 := by omega
              have c2 : ¬ X < 0 := by omega
              have c3 : ¬ Y < 0 := by omega
              clear x0 h hTR
              go_wp2_with fail
              go_meet
              exact ⟨rfl, rfl⟩
          · by_cases x1 : X < 0
            · have c1 : X ≤ 0 := by omega
              by_cases y0 : Y ≤ 0
              · have z1 : Z < 0 := h.2.1 x1 y0
                have c3 : ¬ 0 < Z := by omega
                have c4 : ¬ 0 ≤ Z := by omega
                by_cases y1 : Y < 0
                · clear x0 h hTR
                  go_wp2_with fail
                  go_meet
                  exact ⟨rfl, rfl⟩
                · clear x0 h hTR
                  go_wp2_with fail
                  go_meet
                  exact ⟨rfl, rfl⟩
              · have c3 : ¬ Y < 0 := by omega
                clear x0 h hTR
                go_wp2_with fail
                go_meet
                exact ⟨rfl, rfl⟩
            · have c1 : ¬ X ≤ 0 := by omega
              clear x0 h hTR
              go_wp2_with fail
              go_meet
              exact ⟨rfl, rfl⟩
        case rest =>
          obtain ⟨rfl, rfl⟩ := hcut
          have hwc : n < wc.heap.size := hnw
          have qX := eqD_any RA RB_ V
          rw [eX.out] at qX
          have tX : (X == 0) = decide (X = 0) := rfl
          have tZ : (Z == 0) = decide (Z = 0) := rfl
          generalize decide (X = 0) = dX at *
          clear hTR
          have i0 := SA.cell 0; have i1 := SA.cell 1; have i2 := SA.cell 2; have i3 := SA.cell 3; have i4 := SA.cell 4; have i5 := SA.cell 5; have i6 := SA.cell 6; have i7 := SA.cell 7; have i8 := SA.cell 8; have i9 := SA.cell 9; have i10 := SA.cell 10
          have j0 := SB_.cell 0; have j1 := SB_.cell 1; have j2 := SB_.cell 2; have j3 := SB_.cell 3; have j4 := SB_.cell 4; have j5 := SB_.cell 5; have j6 := SB_.cell 6; have j7 := SB_.cell 7; have j8 := SB_.cell 8; have j9 := SB_.cell 9; have j10 := SB_.cell 10
          go_wp2_with fail
          refine (qX).mono ?_; rintro e w42 ⟨rfl, B42⟩
          clear i0 i1 i2 i3 i4 i5 i6 i7 i8 i9 i10 j0 j1 j2 j3 j4 j5 j6 j7 j8 j9 j10
          clear qX hwc
          replace SA := SA.nx B42
          replace SB_ := SB_.nx B42
          replace SC := SC.nx B42
          replace RA := RA.st B42
          replace RB_ := RB_.st B42
          replace RC_ := RC_.st B42
          replace V := (V.st B42).more B42.size
          have BN := BB.trans (B42.mono (Nat.le_of_lt hnw))
          clear BB B42
          have BB := BN
          clear BN
          replace hnw : n < w42.heap.size := SA.2
          have qZ := eqD_any RA RC_ V
          rw [eZ.out] at qZ
          generalize decide (Z = 0) = dZ at *
          have tt : (dX == dX) = true := by simp
          have tu : (dZ == dZ) = true := by simp
          have i0 := SA.cell 0; have i1 := SA.cell 1; have i2 := SA.cell 2; have i3 := SA.cell 3; have i4 := SA.cell 4; have i5 := SA.cell 5; have i6 := SA.cell 6; have i7 := SA.cell 7; have i8 := SA.cell 8; have i9 := SA.cell 9; have i10 := SA.cell 10
          have k0 := SC.cell 0; have k1 := SC.cell 1; have k2 := SC.cell 2; have k3 := SC.cell 3; have k4 := SC.cell 4; have k5 := SC.cell 5; have k6 := SC.cell 6; have k7 := SC.cell 7; have k8 := SC.cell 8; have k9 := SC.cell 9; have k10 := SC.cell 10
          go_wp2_with fail
          refine (qZ).mono ?_; rintro e w43 ⟨rfl, B43⟩
          clear i0 i1 i2 i3 i4 i5 i6 i7 i8 i9 i10 k0 k1 k2 k3 k4 k5 k6 k7 k8 k9 k10
          clear qZ
          replace SA := SA.nx B43
          replace SB_ := SB_.nx B43
          replace SC := SC.nx B43
          replace RA := RA.st B43
          replace RB_ := RB_.st B43
          replace RC_ := RC_.st B43
          replace V := (V.st B43).more B43.size
          have BN := BB.trans (B43.mono (Nat.le_of_lt hnw))
          clear BB B43
          have BB := BN
          clear BN
          replace hnw : n < w43.heap.size := SA.2
          go_wp2_with fail
          go_ret
          exact ⟨rfl, by rw [hn]; exact BB⟩
end Go.Proofs.YtccgmeomecjihaaDoor
