/- Merged texts: LisI, LisJ, LisK. -/
import Derived.Test.YtilhnjecnhpmlaaDoorGM
namespace Go.Proofs.YtilhnjecnhpmlaaDoor
open Go.RowKit

set_option maxRecDepth 100000 in
set_option maxHeartbeats 8000000 in
theorem rparts_any (l : List Dat) (last : Dat) (hk : last.k ≠ 8) (hlen : l.length ≤ 1000000) (v : Value) (w : World) (P : Nat → Prop) (hP : ∀ b, P b → b < w.heap.size) (hR : RDP w P (joinD l last) v) :
    Calls Tryd.prog 34 #[v] w fun e w' => ∃ A c v', e = .returned (.tuple #[.slice A l.length c, v']) ∧ ROw w' (w.heap.size + 2) P A c l ∧ RDP w' P last v' ∧ Below w.heap.size w w' := by
  obtain ⟨ls, rfl, ll, lo⟩ := hR.agg
  match ls, ll, lo with
  | [y0, y1, y2, y3, y4, y5, y6, y7, y8, y9, y10], _, lo =>
  have S0 := SB.new w [y0, y1, y2, y3, y4, y5, y6, y7, y8, y9, y10] 31
  have S1 := SB.new (w.alloc (.cells #[y0, y1, y2, y3, y4, y5, y6, y7, y8, y9, y10] 31)) [.int .i64 0, .int .i64 0, .bool false, .slice none 0 0, .slice none 0 0, .bool false, .slice none 0 0, .slice none 0 0, .string { data := #[] }, .slice none 0 0, .slice none 0 0] 31
  have z1 : (w.alloc (.cells #[y0, y1, y2, y3, y4, y5, y6, y7, y8, y9, y10] 31)).heap.size = w.heap.size + 1 := by simp
  have B0 := bal w (.cells #[y0, y1, y2, y3, y4, y5, y6, y7, y8, y9, y10] 31)
  have B1 := bal (w.alloc (.cells #[y0, y1, y2, y3, y4, y5, y6, y7, y8, y9, y10] 31)) (.cells #[.int .i64 0, .int .i64 0, .bool false, .slice none 0 0, .slice none 0 0, .bool false, .slice none 0 0, .slice none 0 0, .string { data := #[] }, .slice none 0 0, .slice none 0 0] 31)
  have S0 := S0.nx B1
  have BB := bt B0 B1
  rw [z1] at S1
  have R0 : RDP _ P (joinD l last) _ := hR.step (fun z hz => BB.block z (hP z hz)) (fun z hz => hz)
  obtain ⟨W0, hW0⟩ : ∃ W0, W0 = (w.alloc (.cells #[y0, y1, y2, y3, y4, y5, y6, y7, y8, y9, y10] 31)).alloc (.cells #[.int .i64 0, .int .i64 0, .bool false, .slice none 0 0, .slice none 0 0, .bool false, .slice none 0 0, .slice none 0 0, .string { data := #[] }, .slice none 0 0, .slice none 0 0] 31) := ⟨_, rfl⟩
  have hN : W0.heap.size = w.heap.size + 2 := by rw [hW0]; simp
  rw [← hW0] at S0 S1 BB R0
  clear z1 B0 B1
  go_enter Tryd.func34, Tryd.ntmps34
  go_upto_region 1 with fail
  rw [← hW0]
  clear hW0 hR
  generalize hn : w.heap.size = n at *
  have O0 := ROw.empty W0 P
  have Ba := bal W0 (.cells #[] 31)
  have S0 := S0.nx Ba
  have S1 := S1.nx Ba
  have BB := BB.trans (Ba.mono (by omega))
  have R0 : RDP _ P (joinD l last) _ := R0.step (fun z hz => Ba.block z (by have := hP z hz; omega)) (fun z hz => hz)
  rw [hN] at O0
  go_upto_region 2 with fail
  try rw [hN]
  obtain ⟨W1, hW1⟩ : ∃ W1, W1 = W0.alloc (.cells #[] 31) := ⟨_, rfl⟩
  have hN : n + 2 ≤ W1.heap.size := by rw [hW1]; simp; omega
  rw [← hW1] at S0 S1 BB R0 O0 ⊢
  clear hW1 Ba
  go_loopg [4] l.length (fun gk s4 wx => ∃ (l1 l2 : List Dat) (A : Option Addr) (c : Nat) (cs : List Value), l = l1 ++ l2 ∧ l2.length = gk ∧ s4 = .slice A l1.length c ∧ ROw wx (n + 2) P A c l1 ∧ cs.length = 11 ∧ SB wx n cs ∧ SB wx (n + 1) [.int .i64 0, .int .i64 0, .bool false, .slice none 0 0, .slice none 0 0, .bool false, .slice none 0 0, .slice none 0 0, .string { data := #[] }, .slice none 0 0, .slice none 0 0] ∧ RDP wx P (joinD l2 last) (.agg cs.toArray) ∧ Below n w wx ∧ n + 2 ≤ wx.heap.size)
  case atStart => exact ⟨[], l, _, _, _, rfl, rfl, rfl, O0, rfl, S0, S1, R0, BB, hN⟩
  case round =>
    clear S0 S1 R0 BB hN O0
    obtain ⟨l1, l2, A, c, cs, hl, hgk, rfl, O1, cl, S0, S1, R1, B1, hN⟩ := hrel
    cases l2 with
    | nil =>
      have hk0 : (last.k == 8) = false := by simpa using hk
      have R1 : RDP wr P last (.agg cs.toArray) := R1
      obtain ⟨y1, y2, y3, y4, y5, y6, y7, y8, y9, y10, rfl, oy⟩ := R1.head
      have k0 := S0.cell 0
      simp only [List.append_nil] at hl
      subst hl
      go_upto_region 5 with fail
      clear k0 hk0
      generalize Value.int .i64 last.k = y0 at *
      have Dw := (Below.refl wr.heap.size wr).drew
      have S0 := S0.nx Dw
      have S1 := S1.nx Dw
      have R1 := R1.keeps hP (by omega) Dw
      have B1 := B1.trans (Dw.mono (by omega))
      have O1 := O1.below (fun b hb => Nat.lt_of_lt_of_le (hP b hb) (by omega)) Dw
      have hN := Nat.le_trans hN Dw.size
      clear Dw
      refine AnyW.regionQ (fun _ => false) 4 (fun w' => w'.rangeAt n 0 [y0, y1, y2, y3, y4, y5, y6, y7, y8, y9, y10]) rfl (by kernel_rfl) (by kernel_rfl) (by repeat (first | refine quiet_then ?_ | refine quiet_block ?_ | exact quiet_body)) (fun j u hj => by rw [Nat.zero_add]; exact (S0.1 j u hj).1) (fun Q' hQK hq hns hHeld => ?_)
      generalize wr.drew = w9 at *
      refine AnyW.nextT (i := 0) (v := ?_) hq hns (.inr hHeld) rfl rfl (by kernel_rfl) (Or.inl ⟨by rfl, ?_⟩) ?_
      rotate_left
      · intro w' _; go_simp <;> with_reducible rfl
      try simp only [List.setIfInBounds_toArray, List.set_cons_zero, List.set_cons_succ]
      refine AnyW.next (i := 1) (v := .agg [y0, y1, y2, y3, y4, y5, y6, y7, y8, y9, y10].toArray) hq hns hHeld rfl rfl (by kernel_rfl) (yieldsIf_load_mid (by rfl) 31 (.tmp 1) rfl n 0 rfl [y0, y1, y2, y3, y4, y5, y6, y7, y8, y9, y10] _ (fun w' h => h) Tryd.underlying31 rfl (infoD.trans (by rfl))) ?_
      try simp only [List.setIfInBounds_toArray, List.set_cons_zero, List.set_cons_succ]
      refine AnyW.nextT (i := 2) (v := ?_) hq hns (.inr hHeld) rfl rfl (by kernel_rfl) (Or.inl ⟨by rfl, ?_⟩) ?_
      rotate_left
      · intro w' _; go_simp <;> with_reducible rfl
      try simp only [List.setIfInBounds_toArray, List.set_cons_zero, List.set_cons_succ]
      refine AnyW.one 3 (by kernel_rfl) rfl (fun K' hK => ?_)
      refine step_stDo rfl rfl (.tmp 3) (.tmp 21) rfl (n + 1) 0 rfl [y0, y1, y2, y3, y4, y5, y6, y7, y8, y9, y10] rfl rfl S1.th oy ?_
      obtain ⟨w8, hw8⟩ : ∃ w8, w8 = w9.setCells (n + 1) 0 [y0, y1, y2, y3, y4, y5, y6, y7, y8, y9, y10] := ⟨_, rfl⟩
      have S0 := S0.cells_far (g := n + 1) (by omega) [y0, y1, y2, y3, y4, y5, y6, y7, y8, y9, y10]; rw [← hw8] at S0
      have S1 : SB w8 (n + 1) [y0, y1, y2, y3, y4, y5, y6, y7, y8, y9, y10] := by rw [hw8]; exact S1.cells [y0, y1, y2, y3, y4, y5, y6, y7, y8, y9, y10] rfl
      have R1 := R1.scP hP (by omega) (g := n + 1) (by omega) 0 [y0, y1, y2, y3, y4, y5, y6, y7, y8, y9, y10]; rw [← hw8] at R1
      have B1 := below_cso B1 (b := n + 1) (by omega) 0 [y0, y1, y2, y3, y4, y5, y6, y7, y8, y9, y10]; rw [← hw8] at B1
      have O1 := O1.sc hP (by omega) (by omega) (g := n + 1) (by omega) 0 [y0, y1, y2, y3, y4, y5, y6, y7, y8, y9, y10]; rw [← hw8] at O1
      have hN : n + 2 ≤ w8.heap.size := by rw [hw8, size_sc]; exact hN
      rw [← hw8]
      clear hw8
      refine hK.out _ _ (.inr (fun j u hj => by rw [Nat.zero_add]; exact (S0.1 j u hj).1)) (fun hG => ?_)
      have hHeld := hG.resolve_left (notGone.spec (by rfl))
      clear hK K' hG
      try simp only [List.setIfInBounds_toArray, List.set_cons_zero, List.set_cons_succ]
      refine AnyW.done (by kernel_rfl) (hQK.out _ _ ?_)
      clear hQK hq hns hHeld
      have r0 := S1.cell 0; have r1 := S1.cell 1; have r2 := S1.cell 2; have r3 := S1.cell 3; have r4 := S1.cell 4; have r5 := S1.cell 5; have r6 := S1.cell 6; have r7 := S1.cell 7; have r8 := S1.cell 8; have r9 := S1.cell 9; have r10 := S1.cell 10
      go_wp2_with fail
      refine bodyPost_ret (v := .tuple #[.slice A l.length c, .agg #[y0, y1, y2, y3, y4, y5, y6, y7, y8, y9, y10]]) (by simp [results, r0, r1, r2, r3, r4, r5, r6, r7, r8, r9, r10, go_sem]) rfl ?_
      try rw [hn]
      exact ⟨A, c, _, rfl, O1, R1, B1⟩
    | cons x l3 =>
      obtain ⟨A1, c1, D1, d1, A2, c2, D2, d2, R, rc, b, off, lc, e, hPb, hlc, cx, cy, lx, ly, ox, Rx, Ry, kx, ky⟩ := pairD_view (show RDP wr P (pairD x (joinD l3 last)) _ from R1)
      obtain rfl := congrArg Array.toList (Value.agg.inj e)
      obtain ⟨_, e2, _, oy⟩ := Ry.agg
      obtain rfl := congrArg Array.toList (Value.agg.inj e2)
      match cx, lx, ox, cy, ly, oy with
      | [x0, x1, x2, x3, x4, x5, x6, x7, x8, x9, x10], _, ox, [z0, z1, z2, z3, z4, z5, z6, z7, z8, z9, z10], _, oy =>
      clear e e2 R1
      have hbn := hP b hPb
      have hlen1 : l1.length + 1 + l3.length = l.length := by rw [hl]; simp; omega
      have c0 := S0.cell 0
      go_upto_region 3 with fail
      clear c0
      have c10 := S0.cell 10

      have k0 := kx 0 _ rfl; have k1 := kx 1 _ rfl; have k2 := kx 2 _ rfl; have k3 := kx 3 _ rfl; have k4 := kx 4 _ rfl; have k5 := kx 5 _ rfl; have k6 := kx 6 _ rfl; have k7 := kx 7 _ rfl; have k8 := kx 8 _ rfl; have k9 := kx 9 _ rfl; have k10 := kx 10 _ rfl
      simp only [Nat.add_zero] at k0
      obtain ⟨ls1, O, hl2, h3⟩ := O1
      have S5 := SB.new wr [x0, x1, x2, x3, x4, x5, x6, x7, x8, x9, x10] 31
      have Ba := bal wr (.cells #[x0, x1, x2, x3, x4, x5, x6, x7, x8, x9, x10] 31)
      have hz1 : (wr.alloc (.cells #[x0, x1, x2, x3, x4, x5, x6, x7, x8, x9, x10] 31)).heap.size = wr.heap.size + 1 := by simp
      go_upto_region 4 with (at_builtin; refine wp_appD _ rfl _ _ rfl (n + 2) _ _ _ ls1 rfl hl2.symm (O.alloc _) wr.heap.size _ ⟨[x0, x1, x2, x3, x4, x5, x6, x7, x8, x9, x10], rfl, ox⟩ rfl (fun j u hj => (S5.1 j u hj).1) (by omega) (by omega) ?_; intro A3 c3 w2 O2 G2)
      clear k0 k1 k2 k3 k4 k5 k6 k7 k8 k9 k10 c10
      have Bw : Below (n + 2) wr w2 := (Ba.mono hN).trans G2
      have hbw : b < n + 2 := by omega
      have S0 := S0.lo Bw (by omega)
      have S1 := S1.lo Bw (by omega)
      have hP2 : ∀ b, P b → b < n + 2 := fun b hb => by have := hP b hb; omega
      have Rx : RDP w2 P x _ := Rx.keep hP2 Bw
      have Ry : RDP w2 P (joinD l3 last) _ := Ry.keep hP2 Bw
      have ky : w2.rangeAt b (off + 11) [z0, z1, z2, z3, z4, z5, z6, z7, z8, z9, z10] := fun j u hj => (Bw.cell (p := ⟨b, off + 11 + j, none⟩) hbw).trans (ky j u hj)
      have BB2 : Below n w w2 := B1.trans (Bw.mono (by omega))
      have h3 : ∀ (i : Nat) (y : Dat), l1[i]? = some y → ∃ cs : C11, ls1[i]? = some cs ∧ RDP w2 P y (.agg cs.1.toArray) := fun i y hy => by
        obtain ⟨cs, e, h4⟩ := h3 i y hy
        exact ⟨cs, e, h4.keep hP2 Bw⟩
      have OO : ROw w2 (n + 2) P A3 c3 (l1 ++ [x]) := ROw.push O2 hl2 h3 Rx
      have hN2 : n + 2 ≤ w2.heap.size := by have := Bw.size; omega
      clear O O2 S5 Ba Bw G2 B1 Rx
      have c10 := S0.cell 10

      have k0 := ky 0 _ rfl; have k1 := ky 1 _ rfl; have k2 := ky 2 _ rfl; have k3 := ky 3 _ rfl; have k4 := ky 4 _ rfl; have k5 := ky 5 _ rfl; have k6 := ky 6 _ rfl; have k7 := ky 7 _ rfl; have k8 := ky 8 _ rfl; have k9 := ky 9 _ rfl; have k10 := ky 10 _ rfl
      simp only [Nat.add_zero] at k0
      go_upto_region 2 with (refine wp_stD rfl rfl (.tmp 1) (.tmp 19) rfl n rfl [z0, z1, z2, z3, z4, z5, z6, z7, z8, z9, z10] rfl rfl _ S0 rfl oy ?_)
      clear k0 k1 k2 k3 k4 k5 k6 k7 k8 k9 k10 c10
      have OO := OO.sc hP (by omega) (Nat.le_refl _) (by omega) 0 [z0, z1, z2, z3, z4, z5, z6, z7, z8, z9, z10]
      have S1 := S1.cells_far (g := n) (by omega) [z0, z1, z2, z3, z4, z5, z6, z7, z8, z9, z10]
      have S0 := S0.cells [z0, z1, z2, z3, z4, z5, z6, z7, z8, z9, z10] rfl
      have Ry := Ry.scP hP (by omega) (Nat.le_refl n) 0 [z0, z1, z2, z3, z4, z5, z6, z7, z8, z9, z10]
      have BB2 := below_cso BB2 (Nat.le_refl n) 0 [z0, z1, z2, z3, z4, z5, z6, z7, z8, z9, z10]
      have hN2 : n + 2 ≤ (w2.setCells n 0 [z0, z1, z2, z3, z4, z5, z6, z7, z8, z9, z10]).heap.size := by rw [size_sc]; exact hN2
      generalize w2.setCells n 0 [z0, z1, z2, z3, z4, z5, z6, z7, z8, z9, z10] = w3 at *
      go_roundg l3.length
      case measure => simp only [List.length_cons] at hgk; omega
      case rel => exact ⟨l1 ++ [x], l3, A3, c3, _, by rw [hl]; simp, rfl, by simp, OO, rfl, S0, S1, Ry, BB2, hN2⟩

set_option maxRecDepth 100000 in
set_option maxHeartbeats 8000000 in
theorem ritemsAll_any (d : Dat) (v : Value) (w : World) (P : Nat → Prop) (hP : ∀ b, P b → b < w.heap.size) (hR : RDP w P d v) :
    Calls Tryd.prog 14 #[v] w fun e w' => ∃ A c, e = .returned (.tuple #[.slice A (listL d).length c, .int .i64 (listE d)]) ∧ ROw w' w.heap.size P A c (listL d) ∧ Below w.heap.size w w' := by
  obtain ⟨ls, rfl, ll, lo⟩ := hR.agg
  match ls, ll, lo with
  | [y0, y1, y2, y3, y4, y5, y6, y7, y8, y9, y10], _, lo =>
  have S0 := SB.new w [y0, y1, y2, y3, y4, y5, y6, y7, y8, y9, y10] 31
  have BB := bal w (.cells #[y0, y1, y2, y3, y4, y5, y6, y7, y8, y9, y10] 31)
  have R0 : RDP _ P d _ := hR.step (fun z hz => BB.block z (hP z hz)) (fun z hz => hz)
  obtain ⟨W0, hW0⟩ : ∃ W0, W0 = w.alloc (.cells #[y0, y1, y2, y3, y4, y5, y6, y7, y8, y9, y10] 31) := ⟨_, rfl⟩
  have hN : w.heap.size + 1 ≤ W0.heap.size := by rw [hW0]; simp
  rw [← hW0] at S0 BB R0
  go_enter Tryd.func14, Tryd.ntmps14
  go_upto_region 1 with fail
  rw [← hW0]
  clear hW0 hR
  generalize hn : w.heap.size = n at *
  have k0 := S0.cell 0; have k1 := S0.cell 1; have k2 := S0.cell 2; have k3 := S0.cell 3; have k4 := S0.cell 4; have k5 := S0.cell 5; have k6 := S0.cell 6; have k7 := S0.cell 7; have k8 := S0.cell 8; have k9 := S0.cell 9; have k10 := S0.cell 10
  go_wp2_with fail
  refine (rdsound_any vU d _ W0 (R0.snd hP (by omega)) (RVS.of _ _)).mono ?_
  rintro e w2 ⟨rfl, B2⟩
  clear k0 k1 k2 k3 k4 k5 k6 k7 k8 k9 k10
  have S0 := S0.nx B2
  have R0 := R0.keeps hP (by omega) B2
  have BB := BB.trans (B2.mono (by omega))
  have hN := Nat.le_trans hN B2.size
  obtain ⟨z, hz⟩ : ∃ z, Hid (d.sound vU = z) := ⟨_, Lib.hid rfl⟩
  rw [hz.out]
  cases z with
  | false =>
    go_wp2_with fail
    go_ret2
    rw [(list_no hz.out).1, (list_no hz.out).2]
    try rw [hn]
    exact ⟨_, _, rfl, ROw.nil _ _ _, BB⟩
  | true =>
    have hd := hz.out
    obtain ⟨hj, hk8⟩ := join_parts hd
    have hlen := join_len vU_nil (hj ▸ hd)
    have R0 : RDP w2 P (joinD d.parts.1 d.parts.2) _ := hj ▸ R0
    clear hj
    have k0 := S0.cell 0; have k1 := S0.cell 1; have k2 := S0.cell 2; have k3 := S0.cell 3; have k4 := S0.cell 4; have k5 := S0.cell 5; have k6 := S0.cell 6; have k7 := S0.cell 7; have k8 := S0.cell 8; have k9 := S0.cell 9; have k10 := S0.cell 10
    go_wp2_with fail
    refine (rparts_any d.parts.1 d.parts.2 hk8 (by omega) _ w2 P (fun z hz => by have := hP z hz; omega) R0).mono ?_
    rintro e w3 ⟨A, c, v', rfl, O3, R3, B3⟩
    clear k0 k1 k2 k3 k4 k5 k6 k7 k8 k9 k10
    obtain ⟨zs, rfl, zl, zo⟩ := R3.agg
    obtain ⟨y1, y2, y3, y4, y5, y6, y7, y8, y9, y10, rfl, -⟩ := R3.head
    have hok := list_ok (d := d) hd
    have hbad := list_bad (d := d) hd
    have hN2 := B3.size
    have BB := BB.trans (B3.mono (by omega))
    have hN : n + 1 ≤ w3.heap.size := by omega
    have O3 := O3.base_le (B := n) (by omega)
    clear R3 R0
    generalize d.parts.2.k = y0 at *
    generalize d.parts.1 = l at *
    replace hok := Lib.hid hok
    replace hbad := Lib.hid hbad
    have Sg := SB.new w3 [.int .i64 0, .int .i64 0, .bool false, .slice none 0 0, .slice none 0 0, .bool false, .slice none 0 0, .slice none 0 0, .string { data := #[] }, .slice none 0 0, .slice none 0 0] 31
    obtain ⟨w4, hw4⟩ : ∃ w4, w4 = (w3.alloc (.cells #[.int .i64 0, .int .i64 0, .bool false, .slice none 0 0, .slice none 0 0, .bool false, .slice none 0 0, .slice none 0 0, .string { data := #[] }, .slice none 0 0, .slice none 0 0] 31)).setCells w3.heap.size 0 [.int .i64 y0, y1, y2, y3, y4, y5, y6, y7, y8, y9, y10] := ⟨_, rfl⟩
    have Bw4 : Below w3.heap.size w3 w4 := by rw [hw4]; exact below_cso (bal w3 _) (Nat.le_refl _) 0 [.int .i64 y0, y1, y2, y3, y4, y5, y6, y7, y8, y9, y10]
    have S4 : SB w4 w3.heap.size [.int .i64 y0, y1, y2, y3, y4, y5, y6, y7, y8, y9, y10] := by rw [hw4]; exact Sg.cells [.int .i64 y0, y1, y2, y3, y4, y5, y6, y7, y8, y9, y10] rfl
    have hgw3 : n + 1 ≤ w3.heap.size := hN
    replace hw4 := Lib.hid hw4
    go_upto_region 4 with (refine wp_stD rfl rfl (.tmp 5) (.tmp 13) rfl w3.heap.size rfl [.int .i64 y0, y1, y2, y3, y4, y5, y6, y7, y8, y9, y10] rfl rfl _ Sg rfl zo ?_; rw [← hw4.out]; clear hw4)
    clear Sg
    have BB := BB.trans (Bw4.mono (by omega))
    have O3 := O3.below (fun b hb => Nat.lt_of_lt_of_le (hP b hb) (by omega)) Bw4
    have hN := Nat.le_trans hN Bw4.size
    have k0 := S4.cell 0
    by_cases hy : y0 = 1
    · subst hy
      go_upto_region 6 with fail
      go_wp2_with fail
      go_ret2
      rw [(hok.out (by decide)).1, (hok.out (by decide)).2]
      try rw [hn]
      exact ⟨_, _, rfl, O3, BB⟩
    · have hyb : (y0 == 1) = false := by simpa using hy
      have hyn : (y0 != 1) = true := by simpa using hy
      go_upto_region 5 with fail
      go_wp2_with fail
      go_ret2
      rw [(hbad.out hyb).1, (hbad.out hyb).2]
      try rw [hn]
      exact ⟨_, _, rfl, ROw.nil _ _ _, BB⟩

/-- the reference's answers: without a look at their size -/
def ransD (d : Dat) (m : Dat) : Dat := if listE d = 0 then m else zeroD
theorem rans_err {d m : Dat} (h : listE d ≠ 0) : ransD d m = zeroD := by unfold ransD; simp [h]
theorem rans_ok {d m : Dat} (h : listE d = 0) : ransD d m = m := by unfold ransD; simp [h]
theorem RLs.one {w : World} {P : Nat → Prop} {g : Nat} {x : Dat} {cs : List Value} (S : SB w g cs) (hx : RDP w P x (.agg cs.toArray)) (hg : P g) : RLs w P (some ⟨g, 0, none⟩) 1 [x] :=
  ⟨Nat.le_refl _, by simp, fun _ => ⟨g, 0, rfl, hg, RDPs.of [x] 0 fun i y hy => by
    cases i with
    | zero =>
      obtain rfl : x = y := by simpa using hy
      obtain ⟨_, e, hl, _⟩ := hx.agg
      obtain rfl := congrArg Array.toList (Value.agg.inj e)
      exact ⟨cs, hl, hx, fun j u hj => by have := S.cell j hj; simpa using this⟩
    | succ i => simp at hy⟩⟩
theorem rev_step {l : List Dat} {i : Nat} (hi : i < l.length) : joinD [l[i]] (joinD (l.take i).reverse nilD) = joinD (l.take (i + 1)).reverse nilD := by
  rw [List.take_succ_eq_append_getElem hi, List.reverse_append]; rfl
set_option maxRecDepth 100000 in
set_option maxHeartbeats 8000000 in
theorem rreverse_any (d : Dat) (v : Value) (w : World) (P : Nat → Prop) (hP : ∀ b, P b → b < w.heap.size) (hR : RDP w P d v) :
    Calls Tryd.prog 16 #[v] w fun e w' => ∃ v', e = .returned (.tuple #[v', .int .i64 (listE d)]) ∧ RDP w' (Out P w.heap.size w') (ransD d (revD d)) v' ∧ Below w.heap.size w w' := by
  obtain ⟨ls, rfl, ll, lo⟩ := hR.agg
  match ls, ll, lo with
  | [y0, y1, y2, y3, y4, y5, y6, y7, y8, y9, y10], _, lo =>
  have S0 := SB.new w [y0, y1, y2, y3, y4, y5, y6, y7, y8, y9, y10] 31
  have BB := bal w (.cells #[y0, y1, y2, y3, y4, y5, y6, y7, y8, y9, y10] 31)
  have S1 := SB.new (w.alloc (.cells #[y0, y1, y2, y3, y4, y5, y6, y7, y8, y9, y10] 31)) [.int .i64 0, .int .i64 0, .bool false, .slice none 0 0, .slice none 0 0, .bool false, .slice none 0 0, .slice none 0 0, .string { data := #[] }, .slice none 0 0, .slice none 0 0] 31
  have z1 : (w.alloc (.cells #[y0, y1, y2, y3, y4, y5, y6, y7, y8, y9, y10] 31)).heap.size = w.heap.size + 1 := by simp
  have B1 := bal (w.alloc (.cells #[y0, y1, y2, y3, y4, y5, y6, y7, y8, y9, y10] 31)) (.cells #[.int .i64 0, .int .i64 0, .bool false, .slice none 0 0, .slice none 0 0, .bool false, .slice none 0 0, .slice none 0 0, .string { data := #[] }, .slice none 0 0, .slice none 0 0] 31)
  have S0 := S0.nx B1
  have BB := bt BB B1
  rw [z1] at S1
  clear B1 z1
  have R0 : RDP _ P d _ := hR.step (fun z hz => BB.block z (hP z hz)) (fun z hz => hz)
  obtain ⟨W0, hW0⟩ : ∃ W0, W0 = (w.alloc (.cells #[y0, y1, y2, y3, y4, y5, y6, y7, y8, y9, y10] 31)).alloc (.cells #[.int .i64 0, .int .i64 0, .bool false, .slice none 0 0, .slice none 0 0, .bool false, .slice none 0 0, .slice none 0 0, .string { data := #[] }, .slice none 0 0, .slice none 0 0] 31) := ⟨_, rfl⟩
  have hN : w.heap.size + 2 ≤ W0.heap.size := by rw [hW0]; simp
  rw [← hW0] at S0 S1 BB R0
  go_enter Tryd.func16, Tryd.ntmps16
  go_upto_region 1 with fail
  rw [← hW0]
  clear hW0 hR
  generalize hn : w.heap.size = n at *
  have k0 := S0.cell 0; have k1 := S0.cell 1; have k2 := S0.cell 2; have k3 := S0.cell 3; have k4 := S0.cell 4; have k5 := S0.cell 5; have k6 := S0.cell 6; have k7 := S0.cell 7; have k8 := S0.cell 8; have k9 := S0.cell 9; have k10 := S0.cell 10
  go_wp2_with fail
  refine (ritemsAll_any d _ W0 P (fun z hz => by have := hP z hz; omega) R0).mono ?_
  rintro e w2 ⟨A, c, rfl, O2, B2⟩
  clear k0 k1 k2 k3 k4 k5 k6 k7 k8 k9 k10
  have S1 := S1.nx B2
  have BB := BB.trans (B2.mono (by omega))
  have hlc := O2.len
  obtain ⟨g, hg1, hg, M0⟩ := O2.mut'
  have hform := O2.form
  have hg1 : n + 2 ≤ g := by omega
  have hN := Nat.le_trans hN B2.size
  have hlen := listL_len d
  have L2 := O2.rls (by omega)
  have L2 : RLs w2 (Out P (n + 2) w2) A c (listL d) := L2.step (fun _ _ => rfl) (fun b hb => hb.up (by omega) (Nat.le_refl _))
  clear S0 R0 O2 B2
  rcases listE_cases d with he | he | he
  · rw [he]
    go_wp2_with (refine wp_stD rfl rfl (.tmp 2) (.tmp 15) rfl (n + 1) rfl [.int .i64 0, .int .i64 0, .bool false, .slice none 0 0, .slice none 0 0, .bool false, .slice none 0 0, .slice none 0 0, .string { data := #[] }, .slice none 0 0, .slice none 0 0] rfl rfl _ S1 rfl (by simp [Value.oneCell']) ?_)
    have S2 := S1.cells [.int .i64 0, .int .i64 0, .bool false, .slice none 0 0, .slice none 0 0, .bool false, .slice none 0 0, .slice none 0 0, .string { data := #[] }, .slice none 0 0, .slice none 0 0] rfl
    have r0 := S2.cell 0; have r1 := S2.cell 1; have r2 := S2.cell 2; have r3 := S2.cell 3; have r4 := S2.cell 4; have r5 := S2.cell 5; have r6 := S2.cell 6; have r7 := S2.cell 7; have r8 := S2.cell 8; have r9 := S2.cell 9; have r10 := S2.cell 10
    refine bodyPost_ret (v := .tuple #[.agg #[.int .i64 0, .int .i64 0, .bool false, .slice none 0 0, .slice none 0 0, .bool false, .slice none 0 0, .slice none 0 0, .string { data := #[] }, .slice none 0 0, .slice none 0 0], .int .i64 2]) (by simp [results, r0, r1, r2, r3, r4, r5, r6, r7, r8, r9, r10, go_sem]) rfl ?_
    try rw [hn]
    rw [rans_err (by rw [he]; decide), he]
    exact ⟨_, rfl, rd_zeroD _ _, below_cso BB (by omega) 0 [.int .i64 0, .int .i64 0, .bool false, .slice none 0 0, .slice none 0 0, .bool false, .slice none 0 0, .slice none 0 0, .string { data := #[] }, .slice none 0 0, .slice none 0 0]⟩
  · rw [he]
    go_wp2_with (refine wp_stD rfl rfl (.tmp 2) (.tmp 15) rfl (n + 1) rfl [.int .i64 0, .int .i64 0, .bool false, .slice none 0 0, .slice none 0 0, .bool false, .slice none 0 0, .slice none 0 0, .string { data := #[] }, .slice none 0 0, .slice none 0 0] rfl rfl _ S1 rfl (by simp [Value.oneCell']) ?_)
    have S2 := S1.cells [.int .i64 0, .int .i64 0, .bool false, .slice none 0 0, .slice none 0 0, .bool false, .slice none 0 0, .slice none 0 0, .string { data := #[] }, .slice none 0 0, .slice none 0 0] rfl
    have r0 := S2.cell 0; have r1 := S2.cell 1; have r2 := S2.cell 2; have r3 := S2.cell 3; have r4 := S2.cell 4; have r5 := S2.cell 5; have r6 := S2.cell 6; have r7 := S2.cell 7; have r8 := S2.cell 8; have r9 := S2.cell 9; have r10 := S2.cell 10
    refine bodyPost_ret (v := .tuple #[.agg #[.int .i64 0, .int .i64 0, .bool false, .slice none 0 0, .slice none 0 0, .bool false, .slice none 0 0, .slice none 0 0, .string { data := #[] }, .slice none 0 0, .slice none 0 0], .int .i64 10]) (by simp [results, r0, r1, r2, r3, r4, r5, r6, r7, r8, r9, r10, go_sem]) rfl ?_
    try rw [hn]
    rw [rans_err (by rw [he]; decide), he]
    exact ⟨_, rfl, rd_zeroD _ _, below_cso BB (by omega) 0 [.int .i64 0, .int .i64 0, .bool false, .slice none 0 0, .slice none 0 0, .bool false, .slice none 0 0, .slice none 0 0, .string { data := #[] }, .slice none 0 0, .slice none 0 0]⟩
  · rw [he]
    generalize hl0 : listL d = l at *
    replace hl0 := Lib.hid hl0
    replace he := Lib.hid he
    clear hform M0
    go_upto_region 4 with fail
    go_wp2_with fail
    refine (rNil_any w2).mono ?_
    rintro e w3 ⟨vn, rfl, Rn, B3⟩
    have S1 := S1.nx B3
    have BB := BB.trans (B3.mono (by omega))
    have L2 := L2.go hP (by omega) B3
    have hN := Nat.le_trans hN B3.size
    have Rn := Rn w3 (Out P (n + 2) w3)
    obtain ⟨cs, rfl, cl, co⟩ := Rn.agg
    match cs, cl, co with
    | [x0, x1, x2, x3, x4, x5, x6, x7, x8, x9, x10], _, co =>
    obtain ⟨P2, hP2, hPo, L2, Rn⟩ : ∃ P2 : Nat → Prop, (∀ b, P2 b → b < w3.heap.size) ∧ (∀ b, P2 b → P b ∨ (n + 2 ≤ b ∧ b < w3.heap.size)) ∧ RLs w3 P2 A c l ∧ RDP w3 P2 nilD (.agg #[x0, x1, x2, x3, x4, x5, x6, x7, x8, x9, x10]) :=
      ⟨Out P (n + 2) w3, Out.all hP (by omega), fun b h => h, L2, Rn⟩
    have hP0 := hP
    have hP := hP2
    have Sg := SB.new w3 [.int .i64 0, .int .i64 0, .bool false, .slice none 0 0, .slice none 0 0, .bool false, .slice none 0 0, .slice none 0 0, .string { data := #[] }, .slice none 0 0, .slice none 0 0] 31
    obtain ⟨w4, hw4⟩ : ∃ w4, w4 = (w3.alloc (.cells #[.int .i64 0, .int .i64 0, .bool false, .slice none 0 0, .slice none 0 0, .bool false, .slice none 0 0, .slice none 0 0, .string { data := #[] }, .slice none 0 0, .slice none 0 0] 31)).setCells w3.heap.size 0 [x0, x1, x2, x3, x4, x5, x6, x7, x8, x9, x10] := ⟨_, rfl⟩
    have Bw4 : Below w3.heap.size w3 w4 := by rw [hw4]; exact below_cso (bal w3 _) (Nat.le_refl _) 0 [x0, x1, x2, x3, x4, x5, x6, x7, x8, x9, x10]
    have S4 : SB w4 w3.heap.size [x0, x1, x2, x3, x4, x5, x6, x7, x8, x9, x10] := by rw [hw4]; exact Sg.cells [x0, x1, x2, x3, x4, x5, x6, x7, x8, x9, x10] rfl
    have hgw3 : n + 2 ≤ w3.heap.size := hN
    replace hw4 := Lib.hid hw4
    go_upto_region 5 with (refine wp_stD rfl rfl (.tmp 6) (.tmp 17) rfl w3.heap.size rfl [x0, x1, x2, x3, x4, x5, x6, x7, x8, x9, x10] rfl rfl _ Sg rfl co ?_; rw [← hw4.out]; clear hw4)
    clear Sg
    have S1 := S1.nx Bw4
    have L2 := L2.keeps hP (by omega) Bw4
    have Rn := Rn.keeps hP (by omega) Bw4
    have BB := BB.trans (Bw4.mono (by omega))
    have hN := Nat.le_trans hN Bw4.size
    have hNq := S4.2
    have hnq := hgw3
    clear hgw3 Bw4 B3 hP2
    generalize w3.heap.size = q at *
    have hN : q + 1 ≤ w4.heap.size := hNq
    clear hNq hg hg1 hlc
    go_upto_region 6 with fail
    go_loopg [7] l.length (fun gk s7 wx => ∃ (i : Nat) (cs : List Value), s7 = .int .i64 (i : Int) ∧ i + gk = l.length ∧ cs.length = 11 ∧ SB wx (n + 1) [.int .i64 0, .int .i64 0, .bool false, .slice none 0 0, .slice none 0 0, .bool false, .slice none 0 0, .slice none 0 0, .string { data := #[] }, .slice none 0 0, .slice none 0 0] ∧ SB wx q cs ∧ RLs wx P2 A c l ∧ RDP wx (Out P2 (q + 1) wx) (joinD (l.take i).reverse nilD) (.agg cs.toArray) ∧ Below n w wx ∧ q + 1 ≤ wx.heap.size)
    case atStart => exact ⟨0, _, rfl, by omega, rfl, S1, S4, L2, Rn.out _, BB, hN⟩
    case round =>
      clear S1 S4 L2 Rn BB hN
      obtain ⟨i, cs, rfl, hgk, cl, S1, S6, L2, R2, BB, hN⟩ := hrel
      obtain ⟨_, e2, _, oy⟩ := R2.agg
      obtain rfl := congrArg Array.toList (Value.agg.inj e2)
      clear e2
      match cs, cl, oy with
      | [x0, x1, x2, x3, x4, x5, x6, x7, x8, x9, x10], _, oy =>
      by_cases hi : i < l.length
      · obtain ⟨b, off, rfl, hPb, cz, lz, oz, Rx, rz⟩ := L2.at_ hi
        match cz, lz, oz with
        | [z0, z1, z2, z3, z4, z5, z6, z7, z8, z9, z10], _, oz =>
        have hst := rev_step hi
        have hbq := hP b hPb
        have hiz : (i : Int) < (l.length : Int) := by omega
        generalize l[i] = x at *
        generalize joinD (l.take i).reverse nilD = y at *
        replace hst := Lib.hid hst
        go_upto_region 8 with fail
        have Dw := (Below.refl wr.heap.size wr).drew
        have S1 := S1.nx Dw
        have S6 := S6.nx Dw
        have L2 := L2.keeps hP (by omega) Dw
        have R2 := R2.go hP (by omega) Dw
        have Rx := Rx.keeps hP (by omega) Dw
        have rz := range_nx rz Dw (by omega)
        have BB := BB.trans (Dw.mono (by omega))
        have hN := Nat.le_trans hN Dw.size
        clear Dw
        refine AnyW.regionQ (fun j => j == 7) 8 (fun w' => w'.rangeAt b (off + i * 11) [z0, z1, z2, z3, z4, z5, z6, z7, z8, z9, z10] ∧ w'.rangeAt q 0 [x0, x1, x2, x3, x4, x5, x6, x7, x8, x9, x10]) rfl (by kernel_rfl) (by kernel_rfl) (by repeat (first | refine quiet_then ?_ | refine quiet_block ?_ | exact quiet_body)) ⟨(rz), (fun j u hj => by rw [Nat.zero_add]; exact (S6.1 j u hj).1)⟩ (fun Q' hQK hq hns hHeld => ?_)
        generalize wr.drew = w9 at *
        refine AnyW.nextT (i := 0) (v := ?_) hq hns (.inr hHeld) rfl rfl (by kernel_rfl) (Or.inl ⟨by rfl, ?_⟩) ?_
        rotate_left
        · intro w' _; go_simp <;> with_reducible rfl
        try simp only [List.setIfInBounds_toArray, List.set_cons_zero, List.set_cons_succ]
        refine AnyW.nextT (i := 1) (v := ?_) hq hns (.inr hHeld) rfl rfl (by kernel_rfl) (Or.inl ⟨by rfl, ?_⟩) ?_
        rotate_left
        · intro w' _; go_simp <;> with_reducible rfl
        try simp only [List.setIfInBounds_toArray, List.set_cons_zero, List.set_cons_succ]
        refine AnyW.nextT (i := 2) (v := ?_) hq hns (.inr hHeld) rfl rfl (by kernel_rfl) (Or.inl ⟨by rfl, ?_⟩) ?_
        rotate_left
        · intro w' _; go_simp <;> with_reducible rfl
        try simp only [List.setIfInBounds_toArray, List.set_cons_zero, List.set_cons_succ]
        refine AnyW.next (i := 3) (v := .agg [z0, z1, z2, z3, z4, z5, z6, z7, z8, z9, z10].toArray) hq hns hHeld rfl rfl (by kernel_rfl) (yieldsIf_load_mid (by rfl) 31 (.tmp 26) rfl b (off + i * 11) rfl [z0, z1, z2, z3, z4, z5, z6, z7, z8, z9, z10] _ (fun w' h => h.1) Tryd.underlying31 rfl (infoD.trans (by rfl))) ?_
        try simp only [List.setIfInBounds_toArray, List.set_cons_zero, List.set_cons_succ]
        refine AnyW.next (i := 5) (v := .agg [x0, x1, x2, x3, x4, x5, x6, x7, x8, x9, x10].toArray) hq hns hHeld rfl rfl (by kernel_rfl) (yieldsIf_load_mid (by rfl) 31 (.tmp 6) rfl q 0 rfl [x0, x1, x2, x3, x4, x5, x6, x7, x8, x9, x10] _ (fun w' h => h.2) Tryd.underlying31 rfl (infoD.trans (by rfl))) ?_
        try simp only [List.setIfInBounds_toArray, List.set_cons_zero, List.set_cons_succ]
        obtain ⟨g, hg⟩ : ∃ g, w9.heap.size = g := ⟨_, rfl⟩
        have Ba := bal w9 (.cells #[z0, z1, z2, z3, z4, z5, z6, z7, z8, z9, z10] 31)
        obtain ⟨w5, hw5⟩ : ∃ w5, w5 = w9.alloc (.cells #[z0, z1, z2, z3, z4, z5, z6, z7, z8, z9, z10] 31) := ⟨_, rfl⟩
        have Sg : SB w5 g [z0, z1, z2, z3, z4, z5, z6, z7, z8, z9, z10] := by rw [hw5, ← hg]; exact SB.new w9 _ _
        have hg1 : q + 1 ≤ g := by omega
        rw [← hw5] at Ba
        have S1 := S1.nx Ba
        have S6 := S6.nx Ba
        have L2 := L2.keeps hP (by omega) Ba
        have R2 := R2.go hP (by omega) Ba
        have Rx := Rx.keeps hP (by omega) Ba
        have rz := range_nx rz Ba (by omega)
        have BB := BB.trans (Ba.mono (by omega))
        have hN := Nat.le_trans hN Ba.size
        refine AnyW.one 4 (by kernel_rfl) rfl (fun K' hK => ?_)
        go_simp
        rw [← hw5]
        clear hw5 hg Ba
        have hg2 : g < w5.heap.size := Sg.2
        refine hK.out _ _ (.inr ⟨(rz), (fun j u hj => by rw [Nat.zero_add]; exact (S6.1 j u hj).1)⟩) (fun hG => ?_)
        have hHeld := hG.resolve_left (notGone.spec (by rfl))
        clear hK K' hG
        try simp only [List.setIfInBounds_toArray, List.set_cons_zero, List.set_cons_succ]
        refine AnyW.one 6 (by kernel_rfl) rfl (fun K' hK => ?_)
        go_simp
        refine (rList_any (some ⟨g, 0, none⟩) 1 [x] y _ w5 (Out P2 (q + 1) w5) (Out.all hP (by omega)) (RLs.one Sg (Rx.out _) (.inr ⟨hg1, hg2⟩)) R2).mono ?_
        rintro e w6 ⟨vj, rfl, Rj, B6⟩
        have Rj := Rj.res hN B6.size
        go_wp2_with fail
        have S1 := S1.nx B6
        have S6 := S6.nx B6
        have L2 := L2.keeps hP (by omega) B6
        have R2 := R2.go hP (by omega) B6
        have Rx := Rx.keeps hP (by omega) B6
        have rz := range_nx rz B6 (by omega)
        have BB := BB.trans (B6.mono (by omega))
        have hN := Nat.le_trans hN B6.size
        refine hK.out _ _ (.inr ⟨(rz), (fun j u hj => by rw [Nat.zero_add]; exact (S6.1 j u hj).1)⟩) (fun hG => ?_)
        have hHeld := hG.resolve_left (notGone.spec (by rfl))
        clear hK K' hG
        try simp only [List.setIfInBounds_toArray, List.set_cons_zero, List.set_cons_succ]
        obtain ⟨cs, rfl, cl, co⟩ := Rj.agg
        match cs, cl, co with
        | [m0, m1, m2, m3, m4, m5, m6, m7, m8, m9, m10], _, co =>
        refine AnyW.one 7 (by kernel_rfl) rfl (fun K' hK => ?_)
        refine step_stDo rfl rfl (.tmp 6) (.tmp 30) rfl (q) 0 rfl [m0, m1, m2, m3, m4, m5, m6, m7, m8, m9, m10] rfl rfl S6.th co ?_
        obtain ⟨w7, hw7⟩ : ∃ w7, w7 = w6.setCells (q) 0 [m0, m1, m2, m3, m4, m5, m6, m7, m8, m9, m10] := ⟨_, rfl⟩
        have S1 := S1.cells_far (g := q) (by omega) [m0, m1, m2, m3, m4, m5, m6, m7, m8, m9, m10]; rw [← hw7] at S1
        have S6 : SB w7 (q) [m0, m1, m2, m3, m4, m5, m6, m7, m8, m9, m10] := by rw [hw7]; exact S6.cells [m0, m1, m2, m3, m4, m5, m6, m7, m8, m9, m10] rfl
        have L2 := L2.scP hP (by omega) (g := q) (by omega) 0 [m0, m1, m2, m3, m4, m5, m6, m7, m8, m9, m10]; rw [← hw7] at L2
        have Rj := Rj.scO hP (by omega) (g := q) (by omega) (by omega) 0 [m0, m1, m2, m3, m4, m5, m6, m7, m8, m9, m10]; rw [← hw7] at Rj
        have BB := below_cso BB (b := q) (by omega) 0 [m0, m1, m2, m3, m4, m5, m6, m7, m8, m9, m10]; rw [← hw7] at BB
        have hN : q + 1 ≤ w7.heap.size := by rw [hw7, size_sc]; exact hN
        rw [← hw7]
        clear hw7
        refine hK.out _ _ (.inl ⟨7, rfl, rfl⟩) (fun hG => ?_)
        clear hK K' hG
        try simp only [List.setIfInBounds_toArray, List.set_cons_zero, List.set_cons_succ]
        refine AnyW.done (by kernel_rfl) (hQK.out _ _ ?_)
        clear hQK hq hns hHeld
        go_wp2_with fail
        go_roundg (l.length - (i + 1))
        case measure => omega
        case rel => exact ⟨i + 1, _, by simp, by omega, rfl, S1, S6, L2, by rw [← hst.out]; exact Rj, BB, hN⟩
      · have hiz : ¬ (i : Int) < (l.length : Int) := by omega
        have k0 := S6.cell 0; have k1 := S6.cell 1; have k2 := S6.cell 2; have k3 := S6.cell 3; have k4 := S6.cell 4; have k5 := S6.cell 5; have k6 := S6.cell 6; have k7 := S6.cell 7; have k8 := S6.cell 8; have k9 := S6.cell 9; have k10 := S6.cell 10
        go_upto_region 9 with fail
        go_wp2_with (refine wp_stD rfl rfl (.tmp 2) (.tmp 31) rfl (n + 1) rfl [x0, x1, x2, x3, x4, x5, x6, x7, x8, x9, x10] rfl rfl _ S1 rfl oy ?_)
        have S2 := S1.cells [x0, x1, x2, x3, x4, x5, x6, x7, x8, x9, x10] rfl
        clear k0 k1 k2 k3 k4 k5 k6 k7 k8 k9 k10
        have r0 := S2.cell 0; have r1 := S2.cell 1; have r2 := S2.cell 2; have r3 := S2.cell 3; have r4 := S2.cell 4; have r5 := S2.cell 5; have r6 := S2.cell 6; have r7 := S2.cell 7; have r8 := S2.cell 8; have r9 := S2.cell 9; have r10 := S2.cell 10
        refine bodyPost_ret (v := .tuple #[.agg #[x0, x1, x2, x3, x4, x5, x6, x7, x8, x9, x10], .int .i64 0]) (by simp [results, r0, r1, r2, r3, r4, r5, r6, r7, r8, r9, r10, go_sem]) rfl ?_
        try rw [hn]
        rw [rans_ok he.out, he.out]
        unfold revD
        rw [hl0.out]
        rw [List.take_of_length_le (by omega)] at R2
        have hne : ∀ z, Out P2 (q + 1) wr z → z ≠ n + 1 ∧ z < wr.heap.size ∧ (P z ∨ n ≤ z) := fun z hz => by
          have h1 := hz.lt hP (by omega)
          rcases hz with h | h
          · rcases hPo z h with h2 | h2
            · have := hP0 z h2; exact ⟨by omega, h1, .inl h2⟩
            · exact ⟨by omega, h1, .inr (by omega)⟩
          · exact ⟨by omega, h1, .inr (by omega)⟩
        have R2 : RDP _ (Out P n (wr.setCells (n + 1) 0 [x0, x1, x2, x3, x4, x5, x6, x7, x8, x9, x10])) _ _ := R2.step (fun z hz => World.heap_setCells_other wr (n + 1) 0 [x0, x1, x2, x3, x4, x5, x6, x7, x8, x9, x10] (hne z hz).2.1 (hne z hz).1) (fun z hz => (hne z hz).2.2.imp id (fun h => ⟨h, by rw [size_sc]; exact (hne z hz).2.1⟩))
        exact ⟨_, rfl, R2, below_cso BB (by omega) 0 [x0, x1, x2, x3, x4, x5, x6, x7, x8, x9, x10]⟩

/-- the reference's answer of Tail -/
def rtailD (d : Dat) (k : Int) : Dat := if listE d = 0 then if k < 0 ∨ ((listL d).length : Int) < k then zeroD else joinD ((listL d).drop k.toNat) nilD else zeroD
def rtailE (d : Dat) (k : Int) : Int := if listE d = 0 then if k < 0 ∨ ((listL d).length : Int) < k then 1 else 0 else listE d
theorem rtail_err {d : Dat} {k : Int} (h : listE d ≠ 0) : rtailD d k = zeroD ∧ rtailE d k = listE d := by unfold rtailD rtailE; simp [h]
theorem rtail_arg {d : Dat} {k : Int} (h : listE d = 0) (hk : k < 0 ∨ ((listL d).length : Int) < k) : rtailD d k = zeroD ∧ rtailE d k = 1 := by unfold rtailD rtailE; rw [if_pos h, if_pos h, if_pos hk, if_pos hk]; exact ⟨rfl, rfl⟩
theorem rtail_ok {d : Dat} {k : Nat} (h : listE d = 0) (hk : k ≤ (listL d).length) : rtailD d k = joinD ((listL d).drop k) nilD ∧ rtailE d k = 0 := by
  unfold rtailD rtailE
  rw [if_pos h, if_pos h, if_neg (by omega), if_neg (by omega)]
  exact ⟨rfl, rfl⟩
set_option maxRecDepth 100000 in
set_option maxHeartbeats 8000000 in
theorem rtailAll_any (d : Dat) (v : Value) (k : Int) (w : World) (P : Nat → Prop) (hP : ∀ b, P b → b < w.heap.size) (hR : RDP w P d v) :
    Calls Tryd.prog 17 #[v, .int .i64 k] w fun e w' => ∃ v', e = .returned (.tuple #[v', .int .i64 (rtailE d k)]) ∧ RDP w' (Out P w.heap.size w') (rtailD d k) v' ∧ Below w.heap.size w w' := by
  obtain ⟨ls, rfl, ll, lo⟩ := hR.agg
  match ls, ll, lo with
  | [y0, y1, y2, y3, y4, y5, y6, y7, y8, y9, y10], _, lo =>
  have S0 := SB.new w [y0, y1, y2, y3, y4, y5, y6, y7, y8, y9, y10] 31
  have BB := bal w (.cells #[y0, y1, y2, y3, y4, y5, y6, y7, y8, y9, y10] 31)
  have S1 := SB.new (w.alloc (.cells #[y0, y1, y2, y3, y4, y5, y6, y7, y8, y9, y10] 31)) [.int .i64 0, .int .i64 0, .bool false, .slice none 0 0, .slice none 0 0, .bool false, .slice none 0 0, .slice none 0 0, .string { data := #[] }, .slice none 0 0, .slice none 0 0] 31
  have z1 : (w.alloc (.cells #[y0, y1, y2, y3, y4, y5, y6, y7, y8, y9, y10] 31)).heap.size = w.heap.size + 1 := by simp
  have B1 := bal (w.alloc (.cells #[y0, y1, y2, y3, y4, y5, y6, y7, y8, y9, y10] 31)) (.cells #[.int .i64 0, .int .i64 0, .bool false, .slice none 0 0, .slice none 0 0, .bool false, .slice none 0 0, .slice none 0 0, .string { data := #[] }, .slice none 0 0, .slice none 0 0] 31)
  have S0 := S0.nx B1
  have BB := bt BB B1
  rw [z1] at S1
  clear B1 z1
  have R0 : RDP _ P d _ := hR.step (fun z hz => BB.block z (hP z hz)) (fun z hz => hz)
  obtain ⟨W0, hW0⟩ : ∃ W0, W0 = (w.alloc (.cells #[y0, y1, y2, y3, y4, y5, y6, y7, y8, y9, y10] 31)).alloc (.cells #[.int .i64 0, .int .i64 0, .bool false, .slice none 0 0, .slice none 0 0, .bool false, .slice none 0 0, .slice none 0 0, .string { data := #[] }, .slice none 0 0, .slice none 0 0] 31) := ⟨_, rfl⟩
  have hN : w.heap.size + 2 ≤ W0.heap.size := by rw [hW0]; simp
  rw [← hW0] at S0 S1 BB R0
  go_enter Tryd.func17, Tryd.ntmps17
  go_upto_region 1 with fail
  rw [← hW0]
  clear hW0 hR
  generalize hn : w.heap.size = n at *
  have k0 := S0.cell 0; have k1 := S0.cell 1; have k2 := S0.cell 2; have k3 := S0.cell 3; have k4 := S0.cell 4; have k5 := S0.cell 5; have k6 := S0.cell 6; have k7 := S0.cell 7; have k8 := S0.cell 8; have k9 := S0.cell 9; have k10 := S0.cell 10
  go_wp2_with fail
  refine (ritemsAll_any d _ W0 P (fun z hz => by have := hP z hz; omega) R0).mono ?_
  rintro e w2 ⟨A, c, rfl, O2, B2⟩
  clear k0 k1 k2 k3 k4 k5 k6 k7 k8 k9 k10
  have S1 := S1.nx B2
  have BB := BB.trans (B2.mono (by omega))
  have hlc := O2.len
  obtain ⟨g, hg1, hg, M0⟩ := O2.mut'
  have hform := O2.form
  have hg1 : n + 2 ≤ g := by omega
  have hN := Nat.le_trans hN B2.size
  have hlen := listL_len d
  have L2 := O2.rls (by omega)
  have L2 : RLs w2 (Out P (n + 2) w2) A c (listL d) := L2.step (fun _ _ => rfl) (fun b hb => hb.up (by omega) (Nat.le_refl _))
  clear S0 R0 O2 B2
  rcases listE_cases d with he | he | he
  all_goals clear L2
  · rw [he]
    go_upto_region 3 with fail
    go_wp2_with (refine wp_stD rfl rfl (.tmp 4) (.tmp 15) rfl (n + 1) rfl [.int .i64 0, .int .i64 0, .bool false, .slice none 0 0, .slice none 0 0, .bool false, .slice none 0 0, .slice none 0 0, .string { data := #[] }, .slice none 0 0, .slice none 0 0] rfl rfl _ S1 rfl (by simp [Value.oneCell']) ?_)
    have S2 := S1.cells [.int .i64 0, .int .i64 0, .bool false, .slice none 0 0, .slice none 0 0, .bool false, .slice none 0 0, .slice none 0 0, .string { data := #[] }, .slice none 0 0, .slice none 0 0] rfl
    have r0 := S2.cell 0; have r1 := S2.cell 1; have r2 := S2.cell 2; have r3 := S2.cell 3; have r4 := S2.cell 4; have r5 := S2.cell 5; have r6 := S2.cell 6; have r7 := S2.cell 7; have r8 := S2.cell 8; have r9 := S2.cell 9; have r10 := S2.cell 10
    refine bodyPost_ret (v := .tuple #[.agg #[.int .i64 0, .int .i64 0, .bool false, .slice none 0 0, .slice none 0 0, .bool false, .slice none 0 0, .slice none 0 0, .string { data := #[] }, .slice none 0 0, .slice none 0 0], .int .i64 2]) (by simp [results, r0, r1, r2, r3, r4, r5, r6, r7, r8, r9, r10, go_sem]) rfl ?_
    try rw [hn]
    rw [(rtail_err (by rw [he]; decide)).1, (rtail_err (by rw [he]; decide)).2, he]
    exact ⟨_, rfl, rd_zeroD _ _, below_cso BB (by omega) 0 [.int .i64 0, .int .i64 0, .bool false, .slice none 0 0, .slice none 0 0, .bool false, .slice none 0 0, .slice none 0 0, .string { data := #[] }, .slice none 0 0, .slice none 0 0]⟩
  · rw [he]
    go_upto_region 3 with fail
    go_wp2_with (refine wp_stD rfl rfl (.tmp 4) (.tmp 15) rfl (n + 1) rfl [.int .i64 0, .int .i64 0, .bool false, .slice none 0 0, .slice none 0 0, .bool false, .slice none 0 0, .slice none 0 0, .string { data := #[] }, .slice none 0 0, .slice none 0 0] rfl rfl _ S1 rfl (by simp [Value.oneCell']) ?_)
    have S2 := S1.cells [.int .i64 0, .int .i64 0, .bool false, .slice none 0 0, .slice none 0 0, .bool false, .slice none 0 0, .slice none 0 0, .string { data := #[] }, .slice none 0 0, .slice none 0 0] rfl
    have r0 := S2.cell 0; have r1 := S2.cell 1; have r2 := S2.cell 2; have r3 := S2.cell 3; have r4 := S2.cell 4; have r5 := S2.cell 5; have r6 := S2.cell 6; have r7 := S2.cell 7; have r8 := S2.cell 8; have r9 := S2.cell 9; have r10 := S2.cell 10
    refine bodyPost_ret (v := .tuple #[.agg #[.int .i64 0, .int .i64 0, .bool false, .slice none 0 0, .slice none 0 0, .bool false, .slice none 0 0, .slice none 0 0, .string { data := #[] }, .slice none 0 0, .slice none 0 0], .int .i64 10]) (by simp [results, r0, r1, r2, r3, r4, r5, r6, r7, r8, r9, r10, go_sem]) rfl ?_
    try rw [hn]
    rw [(rtail_err (by rw [he]; decide)).1, (rtail_err (by rw [he]; decide)).2, he]
    exact ⟨_, rfl, rd_zeroD _ _, below_cso BB (by omega) 0 [.int .i64 0, .int .i64 0, .bool false, .slice none 0 0, .slice none 0 0, .bool false, .slice none 0 0, .slice none 0 0, .string { data := #[] }, .slice none 0 0, .slice none 0 0]⟩
  · rw [he]
    by_cases hka : k < 0 ∨ ((listL d).length : Int) < k
    · have hta := rtail_arg he hka
      replace hta := Lib.hid hta
      generalize listL d = l at *
      clear he hform
      by_cases hk0 : k < 0
      · clear hka
        go_upto_region 5 with fail
        go_wp2_with (refine wp_stD rfl rfl (.tmp 4) (.tmp 25) rfl (n + 1) rfl [.int .i64 0, .int .i64 0, .bool false, .slice none 0 0, .slice none 0 0, .bool false, .slice none 0 0, .slice none 0 0, .string { data := #[] }, .slice none 0 0, .slice none 0 0] rfl rfl _ S1 rfl (by simp [Value.oneCell']) ?_)
        have S2 := S1.cells [.int .i64 0, .int .i64 0, .bool false, .slice none 0 0, .slice none 0 0, .bool false, .slice none 0 0, .slice none 0 0, .string { data := #[] }, .slice none 0 0, .slice none 0 0] rfl
        have r0 := S2.cell 0; have r1 := S2.cell 1; have r2 := S2.cell 2; have r3 := S2.cell 3; have r4 := S2.cell 4; have r5 := S2.cell 5; have r6 := S2.cell 6; have r7 := S2.cell 7; have r8 := S2.cell 8; have r9 := S2.cell 9; have r10 := S2.cell 10
        refine bodyPost_ret (v := .tuple #[.agg #[.int .i64 0, .int .i64 0, .bool false, .slice none 0 0, .slice none 0 0, .bool false, .slice none 0 0, .slice none 0 0, .string { data := #[] }, .slice none 0 0, .slice none 0 0], .int .i64 1]) (by simp [results, r0, r1, r2, r3, r4, r5, r6, r7, r8, r9, r10, go_sem]) rfl ?_
        try rw [hn]
        rw [hta.out.1, hta.out.2]
        exact ⟨_, rfl, rd_zeroD _ _, below_cso BB (by omega) 0 [.int .i64 0, .int .i64 0, .bool false, .slice none 0 0, .slice none 0 0, .bool false, .slice none 0 0, .slice none 0 0, .string { data := #[] }, .slice none 0 0, .slice none 0 0]⟩
      · have hk1 : (l.length : Int) < k := hka.resolve_left hk0
        clear hka
        go_upto_region 5 with fail
        go_wp2_with (refine wp_stD rfl rfl (.tmp 4) (.tmp 25) rfl (n + 1) rfl [.int .i64 0, .int .i64 0, .bool false, .slice none 0 0, .slice none 0 0, .bool false, .slice none 0 0, .slice none 0 0, .string { data := #[] }, .slice none 0 0, .slice none 0 0] rfl rfl _ S1 rfl (by simp [Value.oneCell']) ?_)
        have S2 := S1.cells [.int .i64 0, .int .i64 0, .bool false, .slice none 0 0, .slice none 0 0, .bool false, .slice none 0 0, .slice none 0 0, .string { data := #[] }, .slice none 0 0, .slice none 0 0] rfl
        have r0 := S2.cell 0; have r1 := S2.cell 1; have r2 := S2.cell 2; have r3 := S2.cell 3; have r4 := S2.cell 4; have r5 := S2.cell 5; have r6 := S2.cell 6; have r7 := S2.cell 7; have r8 := S2.cell 8; have r9 := S2.cell 9; have r10 := S2.cell 10
        refine bodyPost_ret (v := .tuple #[.agg #[.int .i64 0, .int .i64 0, .bool false, .slice none 0 0, .slice none 0 0, .bool false, .slice none 0 0, .slice none 0 0, .string { data := #[] }, .slice none 0 0, .slice none 0 0], .int .i64 1]) (by simp [results, r0, r1, r2, r3, r4, r5, r6, r7, r8, r9, r10, go_sem]) rfl ?_
        try rw [hn]
        rw [hta.out.1, hta.out.2]
        exact ⟨_, rfl, rd_zeroD _ _, below_cso BB (by omega) 0 [.int .i64 0, .int .i64 0, .bool false, .slice none 0 0, .slice none 0 0, .bool false, .slice none 0 0, .slice none 0 0, .string { data := #[] }, .slice none 0 0, .slice none 0 0]⟩
    · obtain ⟨q, rfl⟩ : ∃ q : Nat, k = q := ⟨k.toNat, by omega⟩
      have hql : q ≤ (listL d).length := by omega
      have hta := rtail_ok he hql
      replace hta := Lib.hid hta
      generalize hl0 : listL d = l at *
      replace hl0 := Lib.hid hl0
      clear he
      have hk0 : ¬ (q : Int) < 0 := by omega
      have hk1 : ¬ (l.length : Int) < (q : Int) := by omega
      go_upto_region 6 with fail
      have L2 : ∀ A' c', (0 < (l.drop q).length → A' = some ⟨g, 0 + q * 11, none⟩) → (l.drop q).length ≤ c' → RLs w2 (Out P (n + 2) w2) A' c' (l.drop q) := fun A' c' h1 h2 => (M0.drop q).rls' h2 (by rw [List.length_drop]; omega) h1 (fun b hb => .inl hb) (fun h => .inr ⟨by omega, (hg (by rw [List.length_drop] at h; omega)).2⟩)
      obtain ⟨A', c', hA', hsl, hc'⟩ : ∃ (A' : Option Addr) (c' : Nat), (0 < (l.drop q).length → A' = some ⟨g, 0 + q * 11, none⟩) ∧ Hid ((A = none ∧ c = 0 ∧ l = [] ∧ A' = none ∧ c' = 0) ∨ ∃ b : Nat, A = some (⟨b, 0, none⟩ : Addr) ∧ A' = (if c = q then some ⟨b, 0, none⟩ else some ⟨b, q * 11, none⟩) ∧ c' = c - q) ∧ (l.drop q).length ≤ c' := by
        rcases hform with ⟨rfl, rfl, rfl⟩ | ⟨b, rfl⟩
        · exact ⟨none, 0, fun h => by simp at h, .inl ⟨rfl, rfl, rfl, rfl, rfl⟩, by simp⟩
        · refine ⟨if c = q then some ⟨b, 0, none⟩ else some ⟨b, q * 11, none⟩, c - q, fun h => ?_, .inr ⟨b, rfl, rfl, rfl⟩, by rw [List.length_drop]; omega⟩
          rw [List.length_drop] at h
          have := (hg (by omega)).1
          simp only [Option.some.injEq, Addr.mk.injEq, and_true] at this
          rw [if_neg (by omega), this, Nat.zero_add]
      have L2 := L2 A' c' hA' hc'
      have hlq : (l.drop q).length = l.length - q := List.length_drop
      replace hlq := Lib.hid hlq
      generalize l.drop q = m at *
      have Dw := (Below.refl w2.heap.size w2).drew
      have S1 := S1.nx Dw
      have L2 := L2.go hP (by omega) Dw
      have BB := BB.trans (Dw.mono (by omega))
      have hN := Nat.le_trans hN Dw.size
      clear Dw
      refine AnyW.regionQ (fun _ => false) 7 (fun w' => True) rfl (by kernel_rfl) (by kernel_rfl) (by repeat (first | refine quiet_then ?_ | refine quiet_block ?_ | exact quiet_body)) trivial (fun Q' hQK hq hns hHeld => ?_)
      generalize w2.drew = w9 at *
      refine AnyW.nextT (i := 0) (v := ?_) hq hns (.inr hHeld) rfl rfl (by kernel_rfl) (Or.inl ⟨by rfl, ?_⟩) ?_
      rotate_left
      · intro w' _; go_simp <;> with_reducible rfl
      try simp only [List.setIfInBounds_toArray, List.set_cons_zero, List.set_cons_succ]
      refine AnyW.nextT (i := 1) (v := ?_) hq hns (.inr hHeld) rfl rfl (by kernel_rfl) (Or.inl ⟨by rfl, ?_⟩) ?_
      rotate_left
      · intro w' _; go_simp <;> with_reducible rfl
      try simp only [List.setIfInBounds_toArray, List.set_cons_zero, List.set_cons_succ]
      refine AnyW.nextT (i := 2) (v := .slice A' m.length c') hq hns (.inr hHeld) rfl rfl (by kernel_rfl) (Or.inl ⟨by rfl, ?_⟩) ?_
      · intro w' _
        rcases hsl.out with ⟨rfl, rfl, rfl, rfl, rfl⟩ | ⟨b, rfl, rfl, rfl⟩
        · obtain rfl : q = 0 := by simpa using hql
          rw [hlq.out]
          go_simp
        · rw [hlq.out]
          go_simp
      try simp only [List.setIfInBounds_toArray, List.set_cons_zero, List.set_cons_succ]
      refine AnyW.one 3 (by kernel_rfl) rfl (fun K' hK => ?_)
      go_simp
      refine (rNil_any w9).mono ?_
      rintro e w4 ⟨vn, rfl, Rn, B4⟩
      have Rn := Rn w4 (Out P (n + 2) w4)
      go_wp2_with fail
      have S1 := S1.nx B4
      have L2 := L2.go hP (by omega) B4
      have BB := BB.trans (B4.mono (by omega))
      have hN := Nat.le_trans hN B4.size
      refine hK.out _ _ (.inr trivial) (fun hG => ?_)
      have hHeld := hG.resolve_left (notGone.spec (by rfl))
      clear hK K' hG
      try simp only [List.setIfInBounds_toArray, List.set_cons_zero, List.set_cons_succ]
      refine AnyW.one 4 (by kernel_rfl) rfl (fun K' hK => ?_)
      go_simp
      refine (rList_any A' c' m nilD vn w4 (Out P (n + 2) w4) (Out.all hP (by omega)) L2 Rn).mono ?_
      rintro e w5 ⟨vf, rfl, Rf, B5⟩
      have Rf := Rf.res hN B5.size
      go_wp2_with fail
      have S1 := S1.nx B5
      have L2 := L2.go hP (by omega) B5
      have BB := BB.trans (B5.mono (by omega))
      have hN := Nat.le_trans hN B5.size
      refine hK.out _ _ (.inr trivial) (fun hG => ?_)
      have hHeld := hG.resolve_left (notGone.spec (by rfl))
      clear hK K' hG
      try simp only [List.setIfInBounds_toArray, List.set_cons_zero, List.set_cons_succ]
      obtain ⟨cs, rfl, cl, co⟩ := Rf.agg
      match cs, cl, co with
      | [x0, x1, x2, x3, x4, x5, x6, x7, x8, x9, x10], _, co =>
      refine AnyW.one 5 (by kernel_rfl) rfl (fun K' hK => ?_)
      refine step_stDo rfl rfl (.tmp 4) (.tmp 30) rfl (n + 1) 0 rfl [x0, x1, x2, x3, x4, x5, x6, x7, x8, x9, x10] rfl rfl S1.th co ?_
      obtain ⟨w7, hw7⟩ : ∃ w7, w7 = w5.setCells (n + 1) 0 [x0, x1, x2, x3, x4, x5, x6, x7, x8, x9, x10] := ⟨_, rfl⟩
      have S1 : SB w7 (n + 1) [x0, x1, x2, x3, x4, x5, x6, x7, x8, x9, x10] := by rw [hw7]; exact S1.cells [x0, x1, x2, x3, x4, x5, x6, x7, x8, x9, x10] rfl
      have BB := below_cso BB (b := n + 1) (by omega) 0 [x0, x1, x2, x3, x4, x5, x6, x7, x8, x9, x10]; rw [← hw7] at BB
      have Rf := Rf.scO hP (by omega) (g := n + 1) (by omega) (by omega) 0 [x0, x1, x2, x3, x4, x5, x6, x7, x8, x9, x10]; rw [← hw7] at Rf
      have hN : n + 2 ≤ w7.heap.size := by rw [hw7, size_sc]; exact hN
      rw [← hw7]
      clear hw7
      refine hK.out _ _ (.inr trivial) (fun hG => ?_)
      have hHeld := hG.resolve_left (notGone.spec (by rfl))
      clear hK K' hG
      try simp only [List.setIfInBounds_toArray, List.set_cons_zero, List.set_cons_succ]
      refine AnyW.nextT (i := 6) (v := ?_) hq hns (.inr hHeld) rfl rfl (by kernel_rfl) (Or.inl ⟨by rfl, ?_⟩) ?_
      rotate_left
      · intro w' _; go_simp <;> with_reducible rfl
      try simp only [List.setIfInBounds_toArray, List.set_cons_zero, List.set_cons_succ]
      refine AnyW.done (by kernel_rfl) (hQK.out _ _ ?_)
      clear hQK hq hns hHeld
      go_wp2_with fail
      have r0 := S1.cell 0; have r1 := S1.cell 1; have r2 := S1.cell 2; have r3 := S1.cell 3; have r4 := S1.cell 4; have r5 := S1.cell 5; have r6 := S1.cell 6; have r7 := S1.cell 7; have r8 := S1.cell 8; have r9 := S1.cell 9; have r10 := S1.cell 10
      refine bodyPost_ret (v := .tuple #[.agg #[x0, x1, x2, x3, x4, x5, x6, x7, x8, x9, x10], .int .i64 0]) (by simp [results, r0, r1, r2, r3, r4, r5, r6, r7, r8, r9, r10, go_sem]) rfl ?_
      try rw [hn]
      rw [hta.out.1, hta.out.2]
      exact ⟨_, rfl, Rf.from_ (by omega), BB⟩

end Go.Proofs.YtilhnjecnhpmlaaDoor
namespace Go.Proofs.YtilhnjecnhpmlaaDoor
open Go.RowKit

theorem listL_sn {d : Dat} (h : d.sound vU = true) (hk : (d.parts.2.k == 1) = true) : listL d = d.parts.1 ∧ listE d = 0 := ⟨(list_ok h hk).2, (list_ok h hk).1⟩
set_option maxRecDepth 100000 in
set_option maxHeartbeats 16000000 in
theorem rappend_any (A : Option Addr) (c : Nat) (l : List Dat) (w : World) (P : Nat → Prop) (hP : ∀ b, P b → b < w.heap.size) (hL : RLs w P A c l) (hll : l.length ≤ 2000000) :
    Calls Tryd.prog 15 #[.slice A l.length c] w fun e w' => ∃ v', e = .returned (.tuple #[v', .int .i64 (appE l)]) ∧ RDP w' (Out P w.heap.size w') (appD l) v' ∧ Below w.heap.size w w' := by
  have S1 := SB.new w [.int .i64 0, .int .i64 0, .bool false, .slice none 0 0, .slice none 0 0, .bool false, .slice none 0 0, .slice none 0 0, .string { data := #[] }, .slice none 0 0, .slice none 0 0] 31
  have BB := bal w (.cells #[.int .i64 0, .int .i64 0, .bool false, .slice none 0 0, .slice none 0 0, .bool false, .slice none 0 0, .slice none 0 0, .string { data := #[] }, .slice none 0 0, .slice none 0 0] 31)
  have L0 : RLs _ P A c l := hL.step (fun z hz => BB.block z (hP z hz)) (fun z hz => hz)
  obtain ⟨W0, hW0⟩ : ∃ W0, W0 = w.alloc (.cells #[.int .i64 0, .int .i64 0, .bool false, .slice none 0 0, .slice none 0 0, .bool false, .slice none 0 0, .slice none 0 0, .string { data := #[] }, .slice none 0 0, .slice none 0 0] 31) := ⟨_, rfl⟩
  have hN : w.heap.size + 1 ≤ W0.heap.size := by rw [hW0]; simp
  rw [← hW0] at S1 BB L0
  go_enter Tryd.func15, Tryd.ntmps15
  go_upto_region 1 with fail
  rw [← hW0]
  clear hW0 hL
  generalize hn : w.heap.size = n at *
  go_upto_region 2 with fail
  go_loopg [4] l.length (fun gk s4 wx => ∃ k : Nat, s4 = .int .i64 (k : Int) ∧ k + gk = l.length ∧ SB wx n [.int .i64 0, .int .i64 0, .bool false, .slice none 0 0, .slice none 0 0, .bool false, .slice none 0 0, .slice none 0 0, .string { data := #[] }, .slice none 0 0, .slice none 0 0] ∧ RLs wx P A c l ∧ Below n w wx ∧ n + 1 ≤ wx.heap.size ∧ ∀ i (hi : i < l.length), i < k → l[i].sound vU = true)
  case atStart => exact ⟨0, rfl, by omega, S1, L0, BB, hN, fun i _ h => by omega⟩
  case round =>
    clear S1 L0 BB hN
    obtain ⟨k, rfl, hgk, S1, L1, B1, hN, hs⟩ := hrel
    by_cases hk : k < l.length
    · have hkz : (k : Int) < (l.length : Int) := by omega
      obtain ⟨b, off, rfl, hPb, cs, cl, co, Rx, rx⟩ := L1.at_ hk
      match cs, cl, co with
      | [x0, x1, x2, x3, x4, x5, x6, x7, x8, x9, x10], _, co =>
      have k0 := rx 0 _ rfl; have k1 := rx 1 _ rfl; have k2 := rx 2 _ rfl; have k3 := rx 3 _ rfl; have k4 := rx 4 _ rfl; have k5 := rx 5 _ rfl; have k6 := rx 6 _ rfl; have k7 := rx 7 _ rfl; have k8 := rx 8 _ rfl; have k9 := rx 9 _ rfl; have k10 := rx 10 _ rfl
      simp only [Nat.add_zero] at k0
      go_upto_region 4 with fail
      go_wp2_with fail
      refine (rdsound_any vU l[k] _ wr (Rx.snd hP (by omega)) (RVS.of _ _)).mono ?_
      rintro e w5 ⟨rfl, B5⟩
      clear k0 k1 k2 k3 k4 k5 k6 k7 k8 k9 k10
      clear rx
      have S1 := S1.nx B5
      have L1 := L1.keeps hP (by omega) B5
      have B1 := B1.trans (B5.mono (by omega))
      have Rx := Rx.keeps hP (by omega) B5
      have hN := Nat.le_trans hN B5.size
      obtain ⟨z, hz⟩ : ∃ z, Hid (l[k].sound vU = z) := ⟨_, Lib.hid rfl⟩
      rw [hz.out]
      cases z with
      | false =>
        have hta := app_bad hk hz.out
        replace hta := Lib.hid hta
        go_wp2_with (refine wp_stD rfl rfl (.tmp 2) (.tmp 21) rfl (n) rfl [.int .i64 0, .int .i64 0, .bool false, .slice none 0 0, .slice none 0 0, .bool false, .slice none 0 0, .slice none 0 0, .string { data := #[] }, .slice none 0 0, .slice none 0 0] rfl rfl _ S1 rfl (by simp [Value.oneCell']) ?_)
        have S2 := S1.cells [.int .i64 0, .int .i64 0, .bool false, .slice none 0 0, .slice none 0 0, .bool false, .slice none 0 0, .slice none 0 0, .string { data := #[] }, .slice none 0 0, .slice none 0 0] rfl
        have r0 := S2.cell 0; have r1 := S2.cell 1; have r2 := S2.cell 2; have r3 := S2.cell 3; have r4 := S2.cell 4; have r5 := S2.cell 5; have r6 := S2.cell 6; have r7 := S2.cell 7; have r8 := S2.cell 8; have r9 := S2.cell 9; have r10 := S2.cell 10
        refine bodyPost_ret (v := .tuple #[.agg #[.int .i64 0, .int .i64 0, .bool false, .slice none 0 0, .slice none 0 0, .bool false, .slice none 0 0, .slice none 0 0, .string { data := #[] }, .slice none 0 0, .slice none 0 0], .int .i64 2]) (by simp [results, r0, r1, r2, r3, r4, r5, r6, r7, r8, r9, r10, go_sem]) rfl ?_
        try rw [hn]
        rw [hta.out.1, hta.out.2]
        exact ⟨_, rfl, rd_zeroD _ _, below_cso B1 (by omega) 0 [.int .i64 0, .int .i64 0, .bool false, .slice none 0 0, .slice none 0 0, .bool false, .slice none 0 0, .slice none 0 0, .string { data := #[] }, .slice none 0 0, .slice none 0 0]⟩
      | true =>
        go_upto_region 3 with fail
        go_wp2_with fail
        go_roundg (l.length - (k + 1))
        case measure => omega
        case rel => exact ⟨k + 1, by simp, by omega, S1, L1, B1, hN, fun i hi h => by
          by_cases e : i = k
          · subst e; exact hz.out
          · exact hs i hi (by omega)⟩
    · have hkz : ¬ (k : Int) < (l.length : Int) := by omega
      have hsn : ∀ i (hi : i < l.length), l[i].sound vU = true := fun i hi => hs i hi (by omega)
      clear hs hgk
      by_cases h0 : l.length = 0
      · have hta := app_none h0
        replace hta := Lib.hid hta
        have h0z : ((l.length : Int) == 0) = true := by simpa using h0
        go_upto_region 7 with fail
        go_wp2_with fail
        refine (rNil_any wr).mono ?_
        rintro e w1 ⟨vn, rfl, Rn, B2⟩
        have S1 := S1.nx B2
        have B1 := B1.trans (B2.mono (by omega))
        have hN := Nat.le_trans hN B2.size
        have Rn := Rn w1 P
        obtain ⟨cs, rfl, cl, co⟩ := Rn.agg
        match cs, cl, co with
        | [x0, x1, x2, x3, x4, x5, x6, x7, x8, x9, x10], _, co =>
        go_wp2_with (refine wp_stD rfl rfl (.tmp 2) (.tmp 25) rfl (n) rfl [x0, x1, x2, x3, x4, x5, x6, x7, x8, x9, x10] rfl rfl _ S1 rfl co ?_)
        have S2 := S1.cells [x0, x1, x2, x3, x4, x5, x6, x7, x8, x9, x10] rfl
        have r0 := S2.cell 0; have r1 := S2.cell 1; have r2 := S2.cell 2; have r3 := S2.cell 3; have r4 := S2.cell 4; have r5 := S2.cell 5; have r6 := S2.cell 6; have r7 := S2.cell 7; have r8 := S2.cell 8; have r9 := S2.cell 9; have r10 := S2.cell 10
        refine bodyPost_ret (v := .tuple #[.agg #[x0, x1, x2, x3, x4, x5, x6, x7, x8, x9, x10], .int .i64 0]) (by simp [results, r0, r1, r2, r3, r4, r5, r6, r7, r8, r9, r10, go_sem]) rfl ?_
        try rw [hn]
        rw [hta.out.1, hta.out.2]
        exact ⟨_, rfl, (Rn.scP hP (by omega) (g := n) (Nat.le_refl _) 0 [x0, x1, x2, x3, x4, x5, x6, x7, x8, x9, x10]).out _ |>.from_ (Nat.le_refl _), below_cso B1 (Nat.le_refl _) 0 [x0, x1, x2, x3, x4, x5, x6, x7, x8, x9, x10]⟩
      · have h0z : ((l.length : Int) == 0) = false := by simpa using h0
        obtain ⟨q, hq⟩ : ∃ q, l.length = q + 1 := ⟨l.length - 1, by omega⟩
        obtain ⟨b, off, rfl, hPb, -⟩ := L1.at_ (i := 0) (by omega)
        have hc := L1.1
        have hwl : IntKind.i64.wrap ((l.length : Int) - 1) = (q : Int) := (IntWalk.i64_in _ (by omega)).trans (by omega)
        go_upto_region 8 with fail
        clear hkz h0z
        obtain ⟨g, hg⟩ : ∃ g, wr.heap.size = g := ⟨_, rfl⟩
        have O0 := ROw.empty wr P
        have Ba := bal wr (.cells #[] 31)
        have S1 := S1.nx Ba
        have L1 := L1.keeps hP (by omega) Ba
        have B1 := B1.trans (Ba.mono (by omega))
        rw [hg] at O0 Ba
        go_upto_region 10 with fail
        obtain ⟨W1, hW1⟩ : ∃ W1, W1 = wr.alloc (.cells #[] 31) := ⟨_, rfl⟩
        have hN : g + 1 ≤ W1.heap.size := by rw [hW1, ← hg]; simp
        have hgn : n + 1 ≤ g := by omega
        rw [← hW1] at S1 L1 B1 O0 ⊢
        clear hW1 Ba hg
        have O0 := O0.base_le (B := n + 1) (by omega)
        have hN : n + 1 ≤ W1.heap.size := by omega
        replace hq := Lib.hid hq
        go_loopg [5, 6] q (fun gk s5 s6 wx => ∃ (k : Nat) (A7 : Option Addr) (c7 : Nat) (m : List Dat), s6 = .int .i64 (k : Int) ∧ s5 = .slice A7 m.length c7 ∧ k + gk = q ∧ m = (l.take k).flatMap (fun d => d.parts.1) ∧ m.length ≤ k * 10000 ∧ ROw wx (n + 1) P A7 c7 m ∧ SB wx n [.int .i64 0, .int .i64 0, .bool false, .slice none 0 0, .slice none 0 0, .bool false, .slice none 0 0, .slice none 0 0, .string { data := #[] }, .slice none 0 0, .slice none 0 0] ∧ RLs wx P (some ⟨b, off, none⟩) c l ∧ Below n w wx ∧ n + 1 ≤ wx.heap.size ∧ ∀ i (hi : i < l.length), i < k → (l[i].parts.2.k == 1) = true)
        case atStart => exact ⟨0, _, _, [], rfl, rfl, by omega, rfl, by simp, O0, S1, L1, B1, hN, fun i _ h => by omega⟩
        case round =>
          clear S1 L1 B1 hN O0 hk
          obtain ⟨k, A7, c7, m, rfl, rfl, hgk, hm, hml, O1, S1, L1, B1, hN, ht⟩ := hrel
          replace hm := Lib.hid hm
          by_cases hk : k < q
          · have hkl : k < l.length := by have := hq.out; omega
            have hkz : (k : Int) < (q : Int) := by omega
            have hkz2 : (k : Int) < (l.length : Int) := by omega
            obtain ⟨b', off', e, _, cs, cl, co, Rx, rx⟩ := L1.at_ hkl
            obtain ⟨rfl, rfl⟩ : b' = b ∧ off' = off := by simp only [Option.some.injEq, Addr.mk.injEq, and_true] at e; exact ⟨e.1.symm, e.2.symm⟩
            clear e
            match cs, cl, co with
            | [x0, x1, x2, x3, x4, x5, x6, x7, x8, x9, x10], _, co =>
            have k0 := rx 0 _ rfl; have k1 := rx 1 _ rfl; have k2 := rx 2 _ rfl; have k3 := rx 3 _ rfl; have k4 := rx 4 _ rfl; have k5 := rx 5 _ rfl; have k6 := rx 6 _ rfl; have k7 := rx 7 _ rfl; have k8 := rx 8 _ rfl; have k9 := rx 9 _ rfl; have k10 := rx 10 _ rfl
            simp only [Nat.add_zero] at k0
            go_upto_region 12 with fail
            go_wp2_with fail
            refine (ritemsAll_any l[k] _ wr P (fun z hz => by have := hP z hz; omega) Rx).mono ?_
            rintro e w5 ⟨A9, c9, rfl, O9, B5⟩
            clear k0 k1 k2 k3 k4 k5 k6 k7 k8 k9 k10
            clear rx Rx
            have S1 := S1.nx B5
            have L1 := L1.keeps hP (by omega) B5
            have B1 := B1.trans (B5.mono (by omega))
            have O1 := O1.below (fun b hb => Nat.lt_of_lt_of_le (hP b hb) (by omega)) B5
            have hN := Nat.le_trans hN B5.size
            obtain ⟨z, hz⟩ : ∃ z, Hid ((l[k].parts.2.k == 1) = z) := ⟨_, Lib.hid rfl⟩
            cases z with
            | false =>
              have hta := app_type hsn (by have := hq.out; omega) hz.out
              rw [(list_bad (hsn k hkl) hz.out).1, (list_bad (hsn k hkl) hz.out).2]
              replace hta := Lib.hid hta
              go_upto_region 14 with fail
              go_wp2_with (refine wp_stD rfl rfl (.tmp 2) (.tmp 44) rfl (n) rfl [.int .i64 0, .int .i64 0, .bool false, .slice none 0 0, .slice none 0 0, .bool false, .slice none 0 0, .slice none 0 0, .string { data := #[] }, .slice none 0 0, .slice none 0 0] rfl rfl _ S1 rfl (by simp [Value.oneCell']) ?_)
              have S2 := S1.cells [.int .i64 0, .int .i64 0, .bool false, .slice none 0 0, .slice none 0 0, .bool false, .slice none 0 0, .slice none 0 0, .string { data := #[] }, .slice none 0 0, .slice none 0 0] rfl
              have r0 := S2.cell 0; have r1 := S2.cell 1; have r2 := S2.cell 2; have r3 := S2.cell 3; have r4 := S2.cell 4; have r5 := S2.cell 5; have r6 := S2.cell 6; have r7 := S2.cell 7; have r8 := S2.cell 8; have r9 := S2.cell 9; have r10 := S2.cell 10
              refine bodyPost_ret (v := .tuple #[.agg #[.int .i64 0, .int .i64 0, .bool false, .slice none 0 0, .slice none 0 0, .bool false, .slice none 0 0, .slice none 0 0, .string { data := #[] }, .slice none 0 0, .slice none 0 0], .int .i64 10]) (by simp [results, r0, r1, r2, r3, r4, r5, r6, r7, r8, r9, r10, go_sem]) rfl ?_
              try rw [hn]
              rw [hta.out.1, hta.out.2]
              exact ⟨_, rfl, rd_zeroD _ _, below_cso B1 (by omega) 0 [.int .i64 0, .int .i64 0, .bool false, .slice none 0 0, .slice none 0 0, .bool false, .slice none 0 0, .slice none 0 0, .string { data := #[] }, .slice none 0 0, .slice none 0 0]⟩
            | true =>
              have htk := take_step hkl
              rw [(list_ok (hsn k hkl) hz.out).1, (list_ok (hsn k hkl) hz.out).2]
              rw [(list_ok (hsn k hkl) hz.out).2] at O9
              have hplen := listL_len l[k]
              rw [(list_ok (hsn k hkl) hz.out).2] at hplen
              generalize hpp : l[k].parts.1 = pp at *
              replace htk := Lib.hid htk
              clear hpp
              go_upto_region 11 with (at_builtin; refine wp_appR _ rfl _ _ rfl (n + 1) P A7 c7 m rfl O1 _ A9 c9 pp rfl O9 (fun z hz => by have := hP z hz; omega) (by omega) (by omega) ?_; intro A3 c3 w6 O3 G3)
              have S1 := S1.lo G3 (by omega)
              have L1 : RLs w6 P _ c l := L1.step (fun z hz => G3.block z (by have := hP z hz; omega)) (fun _ h => h)
              have B1 := B1.trans (G3.mono (by omega))
              have hN := Nat.le_trans hN G3.size
              clear O9 O1 G3
              have hml2 : (m ++ pp).length ≤ (k + 1) * 10000 := by rw [List.length_append, Nat.add_mul]; omega
              have hm2 : m ++ pp = (l.take (k + 1)).flatMap (fun d => d.parts.1) := by rw [htk.out, hm.out]
              have hm2l : m.length + pp.length = (m ++ pp).length := List.length_append.symm
              generalize m ++ pp = m2 at *
              replace hm2l := Lib.hid hm2l
              replace hm2 := Lib.hid hm2
              go_wp2_with fail
              go_roundg (q - (k + 1))
              case measure => omega
              case rel => exact ⟨k + 1, A3, c3, m2, by simp, by rw [hm2l.out], by omega, hm2.out, hml2, O3, S1, L1, B1, hN, fun i hi h => by
                by_cases e : i = k
                · subst e; exact hz.out
                · exact ht i hi (by omega)⟩
          · have hkz : ¬ (k : Int) < (q : Int) := by omega
            obtain rfl : k = q := by omega
            have hkl : k < l.length := by have := hq.out; omega
            have hkz2 : (k : Int) < (l.length : Int) := by omega
            have hta := app_fit (by omega) hsn (fun i hi => ht i (by omega) (by have := hq.out; omega))
            have haj : appJ l = joinD m l[k] := by
              unfold appJ
              rw [show l.length - 1 = k by have := hq.out; omega, ← hm.out, List.getD_eq_getElem?_getD, List.getElem?_eq_getElem hkl]; rfl
            rw [haj] at hta
            replace hta := Lib.hid hta
            clear haj ht
            obtain ⟨b', off', e, _, cs, cl, co, Rx, rx⟩ := L1.at_ hkl
            obtain ⟨rfl, rfl⟩ : b' = b ∧ off' = off := by simp only [Option.some.injEq, Addr.mk.injEq, and_true] at e; exact ⟨e.1.symm, e.2.symm⟩
            clear e
            match cs, cl, co with
            | [x0, x1, x2, x3, x4, x5, x6, x7, x8, x9, x10], _, co =>
            have k0 := rx 0 _ rfl; have k1 := rx 1 _ rfl; have k2 := rx 2 _ rfl; have k3 := rx 3 _ rfl; have k4 := rx 4 _ rfl; have k5 := rx 5 _ rfl; have k6 := rx 6 _ rfl; have k7 := rx 7 _ rfl; have k8 := rx 8 _ rfl; have k9 := rx 9 _ rfl; have k10 := rx 10 _ rfl
            simp only [Nat.add_zero] at k0
            have hmL : m.length ≤ 35184372088832 := by omega
            have Lm := (O1.rls hmL : RLs wr (Out P (n + 1) wr) A7 c7 m)
            generalize hlk : l[k] = x at *
            clear hlk hmL
            go_upto_region 16 with fail
            go_wp2_with fail
            refine (rList_any A7 c7 m x _ wr (Out P (n + 1) wr) (Out.all hP (by omega)) Lm (Rx.out _)).mono ?_
            rintro e w5 ⟨vj, rfl, Rj, B5⟩
            have Rj := Rj.res hN B5.size
            clear k0 k1 k2 k3 k4 k5 k6 k7 k8 k9 k10
            have S1 := S1.nx B5
            have B1 := B1.trans (B5.mono (by omega))
            have hN := Nat.le_trans hN B5.size
            go_wp2_with fail
            refine (rlfit_any _ vj w5 _ (Out.all hP (by omega)) Rj).mono ?_
            rintro e w6 ⟨vf, rfl, Rf, B6⟩
            have Rf := Rf.res hN B6.size
            have S1 := S1.nx B6
            have B1 := B1.trans (B6.mono (by omega))
            have hN := Nat.le_trans hN B6.size
            obtain ⟨cs, rfl, cl, co⟩ := Rf.agg
            match cs, cl, co with
            | [z0, z1, z2, z3, z4, z5, z6, z7, z8, z9, z10], _, co =>
            go_wp2_with (refine wp_stD rfl rfl (.tmp 2) (.tmp 58) rfl (n) rfl [z0, z1, z2, z3, z4, z5, z6, z7, z8, z9, z10] rfl rfl _ S1 rfl co ?_)
            have S2 := S1.cells [z0, z1, z2, z3, z4, z5, z6, z7, z8, z9, z10] rfl
            have r0 := S2.cell 0; have r1 := S2.cell 1; have r2 := S2.cell 2; have r3 := S2.cell 3; have r4 := S2.cell 4; have r5 := S2.cell 5; have r6 := S2.cell 6; have r7 := S2.cell 7; have r8 := S2.cell 8; have r9 := S2.cell 9; have r10 := S2.cell 10
            refine bodyPost_ret (v := .tuple #[.agg #[z0, z1, z2, z3, z4, z5, z6, z7, z8, z9, z10], .int .i64 (fitE (joinD m x))]) (by simp [results, r0, r1, r2, r3, r4, r5, r6, r7, r8, r9, r10, go_sem]) rfl ?_
            try rw [hn]
            rw [hta.out.1, hta.out.2]
            exact ⟨_, rfl, (Rf.scO hP (by omega) (g := n) (by omega) (by omega) 0 [z0, z1, z2, z3, z4, z5, z6, z7, z8, z9, z10]).from_ (by omega), below_cso B1 (by omega) 0 [z0, z1, z2, z3, z4, z5, z6, z7, z8, z9, z10]⟩

noncomputable def sameA (l m : List Dat) : Bool := @decide (l = m) (Classical.propDecidable _)
theorem sameA_iff {l m : List Dat} : sameA l m = true ↔ l = m := by unfold sameA; simp
theorem sameA_no {l m : List Dat} (h : l ≠ m) : sameA l m = false := by unfold sameA; simp [h]
set_option maxRecDepth 100000 in
set_option maxHeartbeats 16000000 in
theorem rsameAll_any (A C : Option Addr) (c d : Nat) (l m : List Dat) (w : World) (P : Nat → Prop) (hP : ∀ b, P b → b < w.heap.size) (hL : RLs w P A c l) (hM : RLs w P C d m) :
    Calls Tryd.prog 19 #[.slice A l.length c, .slice C m.length d] w fun e w' => e = .returned (.bool (sameA l m)) ∧ Below w.heap.size w w' := by
  have hl1 := hL.2.1
  have hm1 := hM.2.1
  go_enter Tryd.func19, Tryd.ntmps19
  by_cases hne : l.length = m.length
  · have hz0 : ((l.length : Int) != (m.length : Int)) = false := by simp [hne]
    rw [← hne]
    replace hne := Lib.hid hne
    go_upto_region 4 with fail
    clear hz0
    have BB := Below.refl w.heap.size w
    generalize hn : w.heap.size = n at *
    go_loopg [5] l.length (fun gk s5 wx => ∃ k : Nat, s5 = .int .i64 (k : Int) ∧ k + gk = l.length ∧ RLs wx P A c l ∧ RLs wx P C d m ∧ Below n w wx ∧ n ≤ wx.heap.size ∧ ∀ i : Nat, i < k → l[i]? = m[i]?)
    case atStart => exact ⟨0, rfl, by omega, hL, hM, BB, by omega, fun i h => by omega⟩
    case round =>
      clear hL hM BB
      obtain ⟨k, rfl, hgk, L1, L2, B1, hN, hs⟩ := hrel
      by_cases hk : k < l.length
      · have hkm : k < m.length := by have := hne.out; omega
        have hkz : (k : Int) < (l.length : Int) := by omega
        obtain ⟨b, off, rfl, hPb, cx, lx, ox, Rx, rx⟩ := L1.at_ hk
        obtain ⟨b2, off2, rfl, hPb2, cy, ly, oy, Ry, ry⟩ := L2.at_ hkm
        match cx, lx, ox, cy, ly, oy with
        | [x0, x1, x2, x3, x4, x5, x6, x7, x8, x9, x10], _, ox, [y0, y1, y2, y3, y4, y5, y6, y7, y8, y9, y10], _, oy =>
        have hbn := hP b hPb
        have hbn2 := hP b2 hPb2
        go_upto_region 6 with fail
        have Dw := (Below.refl wr.heap.size wr).drew
        have L1 := L1.keeps hP (by omega) Dw
        have L2 := L2.keeps hP (by omega) Dw
        have B1 := B1.trans (Dw.mono (by omega))
        have Rx := Rx.keeps hP (by omega) Dw
        have Ry := Ry.keeps hP (by omega) Dw
        have rx := range_nx rx Dw (by omega)
        have ry := range_nx ry Dw (by omega)
        have hN := Nat.le_trans hN Dw.size
        clear Dw
        refine AnyW.regionQ (fun _ => false) 10 (fun w' => w'.rangeAt b (off + k * 11) [x0, x1, x2, x3, x4, x5, x6, x7, x8, x9, x10] ∧ w'.rangeAt b2 (off2 + k * 11) [y0, y1, y2, y3, y4, y5, y6, y7, y8, y9, y10]) rfl (by kernel_rfl) (by kernel_rfl) (by repeat (first | refine quiet_then ?_ | refine quiet_block ?_ | exact quiet_body)) ⟨(rx), (ry)⟩ (fun Q' hQK hq hns hHeld => ?_)
        generalize wr.drew = w9 at *
        refine AnyW.nextT (i := 0) (v := ?_) hq hns (.inr hHeld) rfl rfl (by kernel_rfl) (Or.inl ⟨by rfl, ?_⟩) ?_
        rotate_left
        · intro w' _; go_simp <;> with_reducible rfl
        try simp only [List.setIfInBounds_toArray, List.set_cons_zero, List.set_cons_succ]
        refine AnyW.nextT (i := 1) (v := ?_) hq hns (.inr hHeld) rfl rfl (by kernel_rfl) (Or.inl ⟨by rfl, ?_⟩) ?_
        rotate_left
        · intro w' _; go_simp <;> with_reducible rfl
        try simp only [List.setIfInBounds_toArray, List.set_cons_zero, List.set_cons_succ]
        refine AnyW.nextT (i := 2) (v := ?_) hq hns (.inr hHeld) rfl rfl (by kernel_rfl) (Or.inl ⟨by rfl, ?_⟩) ?_
        rotate_left
        · intro w' _; go_simp <;> with_reducible rfl
        try simp only [List.setIfInBounds_toArray, List.set_cons_zero, List.set_cons_succ]
        refine AnyW.next (i := 3) (v := .agg [x0, x1, x2, x3, x4, x5, x6, x7, x8, x9, x10].toArray) hq hns hHeld rfl rfl (by kernel_rfl) (yieldsIf_load_mid (by rfl) 31 (.tmp 19) rfl b (off + k * 11) rfl [x0, x1, x2, x3, x4, x5, x6, x7, x8, x9, x10] _ (fun w' h => h.1) Tryd.underlying31 rfl (infoD.trans (by rfl))) ?_
        try simp only [List.setIfInBounds_toArray, List.set_cons_zero, List.set_cons_succ]
        refine AnyW.nextT (i := 4) (v := ?_) hq hns (.inr hHeld) rfl rfl (by kernel_rfl) (Or.inl ⟨by rfl, ?_⟩) ?_
        rotate_left
        · intro w' _; go_simp <;> with_reducible rfl
        try simp only [List.setIfInBounds_toArray, List.set_cons_zero, List.set_cons_succ]
        refine AnyW.nextT (i := 5) (v := ?_) hq hns (.inr hHeld) rfl rfl (by kernel_rfl) (Or.inl ⟨by rfl, ?_⟩) ?_
        rotate_left
        · intro w' _; go_simp <;> with_reducible rfl
        try simp only [List.setIfInBounds_toArray, List.set_cons_zero, List.set_cons_succ]
        refine AnyW.nextT (i := 6) (v := ?_) hq hns (.inr hHeld) rfl rfl (by kernel_rfl) (Or.inl ⟨by rfl, ?_⟩) ?_
        rotate_left
        · intro w' _; go_simp <;> with_reducible rfl
        try simp only [List.setIfInBounds_toArray, List.set_cons_zero, List.set_cons_succ]
        refine AnyW.next (i := 7) (v := .agg [y0, y1, y2, y3, y4, y5, y6, y7, y8, y9, y10].toArray) hq hns hHeld rfl rfl (by kernel_rfl) (yieldsIf_load_mid (by rfl) 31 (.tmp 23) rfl b2 (off2 + k * 11) rfl [y0, y1, y2, y3, y4, y5, y6, y7, y8, y9, y10] _ (fun w' h => h.2) Tryd.underlying31 rfl (infoD.trans (by rfl))) ?_
        try simp only [List.setIfInBounds_toArray, List.set_cons_zero, List.set_cons_succ]
        refine AnyW.one 8 (by kernel_rfl) rfl (fun K' hK => ?_)
        go_simp
        refine (rsame_go _ l[k] m[k] (Nat.le_refl _) _ _ w9 (Rx.snd hP (by omega)) (Ry.snd hP (by omega))).mono ?_
        rintro e w5 ⟨rfl, B5⟩
        go_wp2_with fail
        have L1 := L1.keeps hP (by omega) B5
        have L2 := L2.keeps hP (by omega) B5
        have B1 := B1.trans (B5.mono (by omega))
        have Rx := Rx.keeps hP (by omega) B5
        have Ry := Ry.keeps hP (by omega) B5
        have rx := range_nx rx B5 (by omega)
        have ry := range_nx ry B5 (by omega)
        have hN := Nat.le_trans hN B5.size
        refine hK.out _ _ (.inr ⟨(rx), (ry)⟩) (fun hG => ?_)
        have hHeld := hG.resolve_left (notGone.spec (by rfl))
        clear hK K' hG
        try simp only [List.setIfInBounds_toArray, List.set_cons_zero, List.set_cons_succ]
        obtain ⟨z, hz⟩ : ∃ z, Hid (sameD l[k] m[k] = z) := ⟨_, Lib.hid rfl⟩
        rw [hz.out]
        refine AnyW.nextT (i := 9) (v := ?_) hq hns (.inr hHeld) rfl rfl (by kernel_rfl) (Or.inl ⟨by rfl, ?_⟩) ?_
        rotate_left
        · intro w' _; go_simp <;> with_reducible rfl
        try simp only [List.setIfInBounds_toArray, List.set_cons_zero, List.set_cons_succ]
        refine AnyW.done (by kernel_rfl) (hQK.out _ _ ?_)
        clear hQK hq hns hHeld
        cases z with
        | false =>
          go_wp2_with fail
          go_ret
          try rw [hn]
          rw [sameA_no (l := l) (m := m) (fun e => by subst e; have := hz.out; rw [same_yes rfl] at this; cases this)]
          exact ⟨rfl, B1⟩
        | true =>
          go_wp2_with fail
          go_roundg (l.length - (k + 1))
          case measure => omega
          case rel => exact ⟨k + 1, by simp, by omega, L1, L2, B1, hN, fun i h => by
            by_cases e : i = k
            · subst e; rw [List.getElem?_eq_getElem hk, List.getElem?_eq_getElem hkm, same_iff.1 hz.out]
            · exact hs i (by omega)⟩
      · have hkz : ¬ (k : Int) < (l.length : Int) := by omega
        go_wp2_with fail
        go_ret
        try rw [hn]
        rw [sameA_iff.2 (List.ext_getElem? fun i => by
          by_cases hi : i < k
          · exact hs i hi
          · rw [List.getElem?_eq_none (by omega), List.getElem?_eq_none (by have := hne.out; omega)])]
        exact ⟨rfl, B1⟩
  · have hz0 : ((l.length : Int) != (m.length : Int)) = true := by
      have : ¬ (l.length : Int) = (m.length : Int) := by omega
      simpa using this
    go_wp2_with fail
    go_ret
    rw [sameA_no (fun e => hne (by rw [e]))]
    exact ⟨rfl, Below.refl _ _⟩

end Go.Proofs.YtilhnjecnhpmlaaDoor
namespace Go.Proofs.YtilhnjecnhpmlaaDoor
open Go.RowKit

theorem RLs.many {w : World} {P : Nat → Prop} {g : Nat} {ls : List (List Value)} {l : List Dat} (hl : ∀ cs ∈ ls, cs.length = 11) (S : SB w g ls.flatten) (hg : P g) (hb : l.length ≤ 35184372088832)
    (h : ∀ (i : Nat) (x : Dat), l[i]? = some x → ∃ cs : List Value, ls[i]? = some cs ∧ RDP w P x (.agg cs.toArray)) : RLs w P (some ⟨g, 0, none⟩) l.length l :=
  ⟨Nat.le_refl _, hb, fun _ => ⟨g, 0, rfl, hg, RDPs.of l 0 fun i y hy => by
    obtain ⟨cs, h1, h2⟩ := h i y hy
    obtain ⟨hi, rfl⟩ := List.getElem?_eq_some_iff.1 h1
    refine ⟨ls[i], hl _ (List.getElem_mem hi), h2, fun j u hj => ?_⟩
    have hj11 : j < 11 := by rw [← hl _ (List.getElem_mem hi)]; exact (List.getElem?_eq_some_iff.1 hj).1
    rw [Nat.zero_add]
    refine S.cell _ ?_
    have h3 : ∀ (ls : List (List Value)) (i : Nat) (x : List Value), (∀ cs ∈ ls, cs.length = 11) → ls[i]? = some x → ls.flatten[i * 11 + j]? = x[j]? := by
      intro ls
      induction ls with
      | nil => intro i x _ h; cases h
      | cons y ys ih =>
        intro i x hl h
        have hy := hl y (by simp)
        cases i with
        | zero =>
          obtain rfl : y = x := by simpa using h
          rw [List.flatten_cons, Nat.zero_mul, Nat.zero_add, List.getElem?_append_left (by omega)]
        | succ i =>
          rw [List.flatten_cons, List.getElem?_append_right (by omega), hy, show (i + 1) * 11 + j - 11 = i * 11 + j by omega]
          exact ih i x (fun cs h => hl cs (by simp [h])) (by simpa using h)
    rw [h3 ls i _ hl h1]; exact hj⟩⟩
def boolD : Dat := .mk 2 0 ⟨false, [], []⟩ ⟨false, [], []⟩ ByteArray.empty [] []
def voidD : Dat := .mk 10 0 ⟨false, [], []⟩ ⟨false, [], []⟩ ByteArray.empty [] []
theorem rd_boolD (w : World) (P : Nat → Prop) : RDP w P boolD (.agg #[.int .i64 2, .int .i64 0, .bool false, .slice none 0 0, .slice none 0 0, .bool false, .slice none 0 0, .slice none 0 0, .string { data := #[] }, .slice none 0 0, .slice none 0 0]) :=
  (RDP.mk_ (d := boolD) (WP.nil _ _ _ _) (WP.nil _ _ _ _) (WP.nil _ _ _ _) (WP.nil _ _ _ _) (RLP.nil _ _ _ _ _)
    ⟨⟨show (-9223372036854775808 : Int) ≤ 2 by decide, show (2 : Int) ≤ 9223372036854775807 by decide⟩, ⟨show (-9223372036854775808 : Int) ≤ 0 by decide, show (0 : Int) ≤ 9223372036854775807 by decide⟩, show (0 : Nat) ≤ 1048576 by decide⟩ ⟨Nat.le_refl 0, Nat.zero_le _⟩ (fun h => absurd h (Nat.lt_irrefl 0)))
theorem rd_voidD (w : World) (P : Nat → Prop) : RDP w P voidD (.agg #[.int .i64 10, .int .i64 0, .bool false, .slice none 0 0, .slice none 0 0, .bool false, .slice none 0 0, .slice none 0 0, .string { data := #[] }, .slice none 0 0, .slice none 0 0]) :=
  (RDP.mk_ (d := voidD) (WP.nil _ _ _ _) (WP.nil _ _ _ _) (WP.nil _ _ _ _) (WP.nil _ _ _ _) (RLP.nil _ _ _ _ _)
    ⟨⟨show (-9223372036854775808 : Int) ≤ 10 by decide, show (10 : Int) ≤ 9223372036854775807 by decide⟩, ⟨show (-9223372036854775808 : Int) ≤ 0 by decide, show (0 : Int) ≤ 9223372036854775807 by decide⟩, show (0 : Nat) ≤ 1048576 by decide⟩ ⟨Nat.le_refl 0, Nat.zero_le _⟩ (fun h => absurd h (Nat.lt_irrefl 0)))
theorem nilD_k : nilD.k ≠ 8 := by decide
theorem listE_join {l : List Dat} (h : (joinD l nilD).sound vU = true) : listE (joinD l nilD) = 0 ∧ listL (joinD l nilD) = l := by
  have h1 := parts_join nilD_k l
  have h2 := list_ok h (by rw [h1]; rfl)
  rw [h1] at h2
  exact h2
theorem aw_sound : (joinD [boolD, voidD] nilD).sound vU = true := by decide +kernel
theorem aw_of : ofD [boolD, voidD] = joinD [boolD, voidD] nilD := (fit_yes aw_sound).1
theorem aw_rev : ansE (joinD [boolD, voidD] nilD) (revD (joinD [boolD, voidD] nilD)) = 0 ∧ ansD (joinD [boolD, voidD] nilD) (revD (joinD [boolD, voidD] nilD)) = pairD voidD (pairD boolD nilD) := by
  obtain ⟨h1, h2⟩ := listE_join aw_sound
  have h3 : (joinD [voidD, boolD] nilD).sound vU = true := perm_sound vU_nil aw_sound (List.Perm.swap _ _ _)
  have h4 : revD (joinD [boolD, voidD] nilD) = joinD [voidD, boolD] nilD := by unfold revD; rw [h2]; rfl
  rw [(ans_ok h1).1, (ans_ok h1).2, h4, (fit_yes h3).1, (fit_yes h3).2]
  exact ⟨rfl, rfl⟩

set_option maxRecDepth 100000 in
set_option maxHeartbeats 8000000 in
theorem awake11_any (w : World) (hT : Tabs w) : Calls Tryd.prog 7 #[] w fun e w' => e = .returned (.bool true) ∧ Below w.heap.size w w' := by
  obtain ⟨W0, hW0⟩ : ∃ W0, W0 = w.alloc (.cells #[.int .i64 2, .int .i64 0, .bool false, .slice none 0 0, .slice none 0 0, .bool false, .slice none 0 0, .slice none 0 0, .string { data := #[] }, .slice none 0 0, .slice none 0 0, .int .i64 10, .int .i64 0, .bool false, .slice none 0 0, .slice none 0 0, .bool false, .slice none 0 0, .slice none 0 0, .string { data := #[] }, .slice none 0 0, .slice none 0 0] 31) := ⟨_, rfl⟩
  have SK := SB.new w [.int .i64 2, .int .i64 0, .bool false, .slice none 0 0, .slice none 0 0, .bool false, .slice none 0 0, .slice none 0 0, .string { data := #[] }, .slice none 0 0, .slice none 0 0, .int .i64 10, .int .i64 0, .bool false, .slice none 0 0, .slice none 0 0, .bool false, .slice none 0 0, .slice none 0 0, .string { data := #[] }, .slice none 0 0, .slice none 0 0] 31
  have BB := bal w (.cells #[.int .i64 2, .int .i64 0, .bool false, .slice none 0 0, .slice none 0 0, .bool false, .slice none 0 0, .slice none 0 0, .string { data := #[] }, .slice none 0 0, .slice none 0 0, .int .i64 10, .int .i64 0, .bool false, .slice none 0 0, .slice none 0 0, .bool false, .slice none 0 0, .slice none 0 0, .string { data := #[] }, .slice none 0 0, .slice none 0 0] 31)
  have hN : w.heap.size + 1 ≤ W0.heap.size := by rw [hW0]; simp
  rw [← hW0] at SK BB
  obtain ⟨P, hPe⟩ : ∃ P : Nat → Prop, P = fun b => b = w.heap.size := ⟨_, rfl⟩
  have hP : ∀ b, P b → b < w.heap.size + 1 := fun b hb => by rw [hPe] at hb; omega
  have L0 : RLs W0 P (some ⟨w.heap.size, 0, none⟩) 2 [boolD, voidD] := RLs.many (ls := [[.int .i64 2, .int .i64 0, .bool false, .slice none 0 0, .slice none 0 0, .bool false, .slice none 0 0, .slice none 0 0, .string { data := #[] }, .slice none 0 0, .slice none 0 0], [.int .i64 10, .int .i64 0, .bool false, .slice none 0 0, .slice none 0 0, .bool false, .slice none 0 0, .slice none 0 0, .string { data := #[] }, .slice none 0 0, .slice none 0 0]]) (by intro cs h; simp only [List.mem_cons, List.not_mem_nil, or_false] at h; rcases h with rfl | rfl <;> rfl) SK (by rw [hPe]) (by simp)
    (fun i x hx => match i, hx with
      | 0, hx => by
        obtain rfl : boolD = x := by simpa using hx
        exact ⟨_, rfl, rd_boolD _ _⟩
      | 1, hx => by
        obtain rfl : voidD = x := by simpa using hx
        exact ⟨_, rfl, rd_voidD _ _⟩
      | i + 2, hx => by simp at hx)
  go_enter Tryd.func7, Tryd.ntmps7
  go_upto_region 1 with fail
  go_wp2_with fail
  rw [← hW0]
  clear hW0 hPe
  generalize hn : w.heap.size = n at *
  have cl := lof_any (some ⟨n, 0, none⟩) 2 [boolD, voidD] W0 P (fun z hz => by have := hP z hz; omega) L0 (hT.go hn BB)
  rw [aw_of] at cl
  refine cl.mono ?_
  clear cl L0 SK
  rintro e w1 ⟨v1, rfl, R1, B1⟩
  have R1 := R1.from_ (m := n + 1) hN
  have BB := BB.trans (B1.mono (by omega))
  have hN := Nat.le_trans hN B1.size
  obtain ⟨cs, rfl, cl, co⟩ := R1.agg
  match cs, cl, co with
  | [x0, x1, x2, x3, x4, x5, x6, x7, x8, x9, x10], _, co =>
  have Sg := SB.new w1 [.int .i64 0, .int .i64 0, .bool false, .slice none 0 0, .slice none 0 0, .bool false, .slice none 0 0, .slice none 0 0, .string { data := #[] }, .slice none 0 0, .slice none 0 0] 31
  obtain ⟨w2, hw2⟩ : ∃ w2, w2 = (w1.alloc (.cells #[.int .i64 0, .int .i64 0, .bool false, .slice none 0 0, .slice none 0 0, .bool false, .slice none 0 0, .slice none 0 0, .string { data := #[] }, .slice none 0 0, .slice none 0 0] 31)).setCells w1.heap.size 0 [x0, x1, x2, x3, x4, x5, x6, x7, x8, x9, x10] := ⟨_, rfl⟩
  have Bw2 : Below w1.heap.size w1 w2 := by rw [hw2]; exact below_cso (bal w1 _) (Nat.le_refl _) 0 [x0, x1, x2, x3, x4, x5, x6, x7, x8, x9, x10]
  have S2 : SB w2 w1.heap.size [x0, x1, x2, x3, x4, x5, x6, x7, x8, x9, x10] := by rw [hw2]; exact Sg.cells [x0, x1, x2, x3, x4, x5, x6, x7, x8, x9, x10] rfl
  have hgw1 : n + 1 ≤ w1.heap.size := hN
  replace hw2 := Lib.hid hw2
  go_upto_region 2 with (refine wp_stD rfl rfl (.tmp 1) (.tmp 7) rfl w1.heap.size rfl [x0, x1, x2, x3, x4, x5, x6, x7, x8, x9, x10] rfl rfl _ Sg rfl co ?_; rw [← hw2.out]; clear hw2)
  clear Sg
  have R1 := R1.go hP (by omega) Bw2
  have BB := BB.trans (Bw2.mono (by omega))
  have hN := Nat.le_trans hN Bw2.size
  have k0 := S2.cell 0; have k1 := S2.cell 1; have k2 := S2.cell 2; have k3 := S2.cell 3; have k4 := S2.cell 4; have k5 := S2.cell 5; have k6 := S2.cell 6; have k7 := S2.cell 7; have k8 := S2.cell 8; have k9 := S2.cell 9; have k10 := S2.cell 10
  go_wp2_with fail
  have cr := lreverse_any (joinD [boolD, voidD] nilD) _ w2 (Out P (n + 1) w2) (Out.all hP (by omega)) R1 (hT.go hn BB)
  rw [aw_rev.1, aw_rev.2] at cr
  refine cr.mono ?_
  clear cr
  rintro e w3 ⟨v3, rfl, R3, B3⟩
  have R3 := R3.res (m := n + 1) hN B3.size
  clear k0 k1 k2 k3 k4 k5 k6 k7 k8 k9 k10
  have R1 := R1.go hP (by omega) B3
  have BB := BB.trans (B3.mono (by omega))
  have S2 := S2.nx B3
  have hN := Nat.le_trans hN B3.size
  obtain ⟨cs, rfl, cl, co⟩ := R3.agg
  match cs, cl, co with
  | [z0, z1, z2, z3, z4, z5, z6, z7, z8, z9, z10], _, co =>
  have Sg := SB.new w3 [.int .i64 0, .int .i64 0, .bool false, .slice none 0 0, .slice none 0 0, .bool false, .slice none 0 0, .slice none 0 0, .string { data := #[] }, .slice none 0 0, .slice none 0 0] 31
  obtain ⟨w4, hw4⟩ : ∃ w4, w4 = (w3.alloc (.cells #[.int .i64 0, .int .i64 0, .bool false, .slice none 0 0, .slice none 0 0, .bool false, .slice none 0 0, .slice none 0 0, .string { data := #[] }, .slice none 0 0, .slice none 0 0] 31)).setCells w3.heap.size 0 [z0, z1, z2, z3, z4, z5, z6, z7, z8, z9, z10] := ⟨_, rfl⟩
  have Bw4 : Below w3.heap.size w3 w4 := by rw [hw4]; exact below_cso (bal w3 _) (Nat.le_refl _) 0 [z0, z1, z2, z3, z4, z5, z6, z7, z8, z9, z10]
  have S4 : SB w4 w3.heap.size [z0, z1, z2, z3, z4, z5, z6, z7, z8, z9, z10] := by rw [hw4]; exact Sg.cells [z0, z1, z2, z3, z4, z5, z6, z7, z8, z9, z10] rfl
  have hgw3 : n + 1 ≤ w3.heap.size := hN
  replace hw4 := Lib.hid hw4
  go_upto_region 3 with (refine wp_stD rfl rfl (.tmp 2) (.tmp 11) rfl w3.heap.size rfl [z0, z1, z2, z3, z4, z5, z6, z7, z8, z9, z10] rfl rfl _ Sg rfl co ?_; rw [← hw4.out]; clear hw4)
  clear Sg
  have R3 := R3.go hP (by omega) Bw4
  have BB := BB.trans (Bw4.mono (by omega))
  have hN := Nat.le_trans hN Bw4.size
  obtain ⟨A1, c1, D1, d1, A2, c2, D2, d2, R, rc, b, off, lc, e, hPb, hlc, cx, cy, lx, ly, ox, Rx, Ry, kx, ky⟩ := pairD_view R3
  obtain ⟨y1, y2, y3, y4, y5, y6, y7, y8, y9, y10, rfl, -⟩ := Rx.head
  have e := congrArg Array.toList (Value.agg.inj e)
  simp only [List.cons.injEq, and_true] at e
  obtain ⟨rfl, -, -, -, -, -, -, -, -, -, rfl⟩ := e
  have k0 := S4.cell 0
  have k10 := S4.cell 10
  have kk := kx 0 _ rfl
  simp only [Nat.add_zero] at kk
  rw [show voidD.k = 10 from rfl] at kk
  go_wp2_with fail
  go_ret
  try rw [hn]
  exact ⟨rfl, BB⟩

theorem good_nil {d : Dat} (h : d.Good vU) (hk : d.k = 1) : d = nilD := by
  have hp := shape_parts h.shape
  exact Dat.ext hk (hp.2.2.2.2 (by omega) (by omega)) (hp.1 (by omega)).1 (hp.1 (by omega)).2 (hp.2.1 (by rw [hk]; decide)) (hp.2.2.1 (by omega)) (hp.2.2.2.1 (by omega) (by omega))
theorem list_view {d : Dat} (h : listE d = 0) : d.sound vU = true ∧ d = joinD (listL d) nilD := by
  unfold listE at h
  split at h
  · rename_i hs
    split at h
    · rename_i hk
      have h1 := (join_parts hs).1
      have h2 := (list_ok hs (by simpa using hk)).2
      have h3 := (join_good vU_nil).1 (h1 ▸ Dat.sound_good hs)
      refine ⟨hs, ?_⟩
      rw [h2, ← good_nil h3.2 hk]
      exact h1
    · cases h
  · cases h
theorem listL_back {d : Dat} (h : listE d = 0) : (joinD (listL d) nilD).sound vU = true := by
  obtain ⟨h1, h2⟩ := list_view h
  rw [← h2]; exact h1

theorem zero_unsound : zeroD.sound vU = false := by decide +kernel
theorem of_sound {l : List Dat} (h : (ofD l).sound vU = true) : (joinD l nilD).sound vU = true ∧ ofD l = joinD l nilD := by
  unfold ofD at *
  cases hs : (joinD l nilD).sound vU with
  | true => exact ⟨rfl, (fit_yes hs).1⟩
  | false => rw [(fit_no hs).1, zero_unsound] at h; cases h
theorem join_append (a b : List Dat) (last : Dat) : joinD a (joinD b last) = joinD (a ++ b) last := by unfold joinD; rw [List.foldr_append]
theorem app_two {x y : Dat} (h : appE [x, y] = 0) : x.sound vU = true ∧ y.sound vU = true ∧ x.parts.2.k = 1 ∧ (joinD x.parts.1 y).sound vU = true ∧ appD [x, y] = joinD x.parts.1 y := by
  have hj : appJ [x, y] = joinD x.parts.1 y := by unfold appJ; simp
  have h1 : x.sound vU = true := by
    cases hx : x.sound vU with
    | true => rfl
    | false => rw [(app_bad (l := [x, y]) (i := 0) (by simp) hx).2] at h; cases h
  have h2 : y.sound vU = true := by
    cases hx : y.sound vU with
    | true => rfl
    | false => rw [(app_bad (l := [x, y]) (i := 1) (by simp) hx).2] at h; cases h
  have hs : ∀ i (hi : i < [x, y].length), [x, y][i].sound vU = true := fun i hi => match i, hi with
    | 0, _ => h1
    | 1, _ => h2
    | i + 2, hi => by simp at hi; omega
  have h3 : (x.parts.2.k == 1) = true := by
    cases hx : (x.parts.2.k == 1) with
    | true => rfl
    | false => rw [(app_type (l := [x, y]) (i := 0) hs (by simp) hx).2] at h; cases h
  have h4 := app_fit (l := [x, y]) (by simp) hs (fun i hi => match i, hi with
    | 0, _ => h3
    | i + 1, hi => by simp at hi)
  rw [hj] at h4
  rw [h4.2] at h
  cases hx : (joinD x.parts.1 y).sound vU with
  | false => rw [(fit_no hx).2] at h; cases h
  | true => exact ⟨h1, h2, by simpa using h3, rfl, by rw [h4.1, (fit_yes hx).1]⟩
theorem app_two' {a : List Dat} {y : Dat} (hx : (joinD a nilD).sound vU = true) (hy : y.sound vU = true) (hj : (joinD a y).sound vU = true) : appD [joinD a nilD, y] = joinD a y ∧ appE [joinD a nilD, y] = 0 := by
  have hpa := parts_join nilD_k a
  have hJ : appJ [joinD a nilD, y] = joinD a y := by unfold appJ; simp [hpa]
  have h4 := app_fit (l := [joinD a nilD, y]) (by simp) (fun i hi => match i, hi with
    | 0, _ => hx
    | 1, _ => hy
    | i + 2, hi => by simp at hi; omega) (fun i hi => match i, hi with
    | 0, _ => by show ((joinD a nilD).parts.2.k == 1) = true; rw [hpa]; rfl
    | i + 1, hi => by simp at hi)
  rw [hJ, (fit_yes hj).1, (fit_yes hj).2] at h4
  exact h4
theorem app_three' {a b : List Dat} {y : Dat} (hx : (joinD a nilD).sound vU = true) (hx2 : (joinD b nilD).sound vU = true) (hy : y.sound vU = true) (hj : (joinD (a ++ b) y).sound vU = true) : appD [joinD a nilD, joinD b nilD, y] = joinD (a ++ b) y := by
  have hpa := parts_join nilD_k a
  have hpb := parts_join nilD_k b
  have hJ : appJ [joinD a nilD, joinD b nilD, y] = joinD (a ++ b) y := by unfold appJ; simp [hpa, hpb]
  have h4 := app_fit (l := [joinD a nilD, joinD b nilD, y]) (by simp) (fun i hi => match i, hi with
    | 0, _ => hx
    | 1, _ => hx2
    | 2, _ => hy
    | i + 3, hi => by simp at hi; omega) (fun i hi => match i, hi with
    | 0, _ => by show ((joinD a nilD).parts.2.k == 1) = true; rw [hpa]; rfl
    | 1, _ => by show ((joinD b nilD).parts.2.k == 1) = true; rw [hpb]; rfl
    | i + 2, hi => by simp at hi; omega)
  rw [hJ, (fit_yes hj).1] at h4
  exact h4.1
theorem rev_join {a : List Dat} (hx : (joinD a nilD).sound vU = true) : ansD (joinD a nilD) (revD (joinD a nilD)) = joinD a.reverse nilD ∧ (joinD a.reverse nilD).sound vU = true := by
  obtain ⟨h1, h2⟩ := listE_join hx
  have h3 : (joinD a.reverse nilD).sound vU = true := perm_sound vU_nil hx (List.reverse_perm a)
  rw [(ans_ok h1).1]
  unfold revD
  rw [h2, (fit_yes h3).1]
  exact ⟨rfl, h3⟩
/-- ListsJoins -/
theorem joins_law (a b c : List Dat) (h1 : appE [ofD a, ofD b] = 0) (h2 : appE [appD [ofD a, ofD b], ofD c] = 0) :
    tailE (appD [appD [ofD a, ofD b], ofD c]) (((a.length + b.length : Nat) : Int)) = 0 ∧ appD [appD [ofD a, ofD b], ofD c] = appD [ofD a, appD [ofD b, ofD c]] ∧ appD [appD [ofD a, ofD b], ofD c] = appD [ofD a, ofD b, ofD c] ∧
    tailD (appD [appD [ofD a, ofD b], ofD c]) (((a.length + b.length : Nat) : Int)) = ofD c ∧
    ansD (appD [ofD a, ofD b]) (revD (appD [ofD a, ofD b])) = appD [ansD (ofD b) (revD (ofD b)), ansD (ofD a) (revD (ofD a))] := by
  obtain ⟨sa, sb, -, sab, eab⟩ := app_two h1
  obtain ⟨-, sc, -, sabc, eabc⟩ := app_two h2
  obtain ⟨sa, ea⟩ := of_sound sa
  obtain ⟨sb, eb⟩ := of_sound sb
  obtain ⟨sc, ec⟩ := of_sound sc
  rw [ea, eb, parts_join nilD_k, join_append] at sab eab
  rw [ea, eb, eab, ec, parts_join nilD_k, join_append] at sabc eabc
  rw [ea, eb, ec, eab, eabc]
  have sbc : (joinD (b ++ c) nilD).sound vU = true := sub_sound vU_nil sabc (by rw [List.append_assoc]; exact List.sublist_append_right _ _)
  have ebc : appD [joinD b nilD, joinD c nilD] = joinD (b ++ c) nilD := by rw [(app_two' sb sc (by rw [join_append]; exact sbc)).1, join_append]
  rw [ebc]
  have el := listE_join sabc
  have hlen : a.length + b.length ≤ (listL (joinD (a ++ b ++ c) nilD)).length := by rw [el.2]; simp
  have ht := tail_ok (k := a.length + b.length) el.1 hlen
  rw [el.2, show (a ++ b ++ c).drop (a.length + b.length) = c by rw [← List.length_append, List.drop_left], (fit_yes sc).1, (fit_yes sc).2] at ht
  have ra := rev_join sa
  have rb := rev_join sb
  have rab := rev_join sab
  refine ⟨ht.2, ?_, ?_, ht.1, ?_⟩
  · rw [(app_two' sa sbc (by rw [join_append, ← List.append_assoc]; exact sabc)).1, join_append, List.append_assoc]
  · rw [app_three' sa sb sc (by rw [join_append]; exact sabc), join_append]
  · rw [rab.1, ra.1, rb.1, (app_two' rb.2 ra.2 (by rw [join_append, ← List.reverse_append]; exact rab.2)).1, join_append, List.reverse_append]
/-- ListsMade: the reference does not look at the size of an answer of Reverse, Tail -/
theorem rans_eq (d : Dat) : ransD d (revD d) = ansD d (revD d) ∧ listE d = ansE d (revD d) := by
  rcases listE_cases d with h | h | h
  · rw [rans_err (by rw [h]; decide), (ans_err (by rw [h]; decide)).1, (ans_err (by rw [h]; decide)).2]; exact ⟨rfl, rfl⟩
  · rw [rans_err (by rw [h]; decide), (ans_err (by rw [h]; decide)).1, (ans_err (by rw [h]; decide)).2]; exact ⟨rfl, rfl⟩
  · have hd : (joinD (listL d) nilD).sound vU = true := listL_back h
    rw [rans_ok h, (ans_ok h).1, (ans_ok h).2, h]
    unfold revD
    have h3 : (joinD (listL d).reverse nilD).sound vU = true := perm_sound vU_nil hd (List.reverse_perm _)
    rw [(fit_yes h3).1, (fit_yes h3).2]; exact ⟨rfl, rfl⟩
theorem rtail_eq (d : Dat) (k : Int) : rtailD d k = tailD d k ∧ rtailE d k = tailE d k := by
  by_cases h : listE d = 0
  · by_cases hk : k < 0 ∨ ((listL d).length : Int) < k
    · rw [(rtail_arg h hk).1, (rtail_arg h hk).2, (tail_arg h hk).1, (tail_arg h hk).2]; exact ⟨rfl, rfl⟩
    · obtain ⟨q, rfl⟩ : ∃ q : Nat, k = q := ⟨k.toNat, by omega⟩
      have hq : q ≤ (listL d).length := by omega
      have h3 : (joinD ((listL d).drop q) nilD).sound vU = true := sub_sound vU_nil (listL_back h) (List.drop_sublist _ _)
      rw [(rtail_ok h hq).1, (rtail_ok h hq).2, (tail_ok h hq).1, (tail_ok h hq).2, (fit_yes h3).1, (fit_yes h3).2]; exact ⟨rfl, rfl⟩
  · rw [(rtail_err h).1, (rtail_err h).2, (tail_err h).1, (tail_err h).2]; exact ⟨rfl, rfl⟩

end Go.Proofs.YtilhnjecnhpmlaaDoor
