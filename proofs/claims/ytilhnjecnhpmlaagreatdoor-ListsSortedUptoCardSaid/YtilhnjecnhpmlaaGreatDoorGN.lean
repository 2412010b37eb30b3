/- Merged texts: LisI, LisJ, LisK. -/
import Derived.Test.YtilhnjecnhpmlaaGreatDoorGM
namespace Go.Proofs.YtilhnjecnhpmlaaGreatDoor
open Go.RowKit

set_option maxRecDepth 100000 in
set_option maxHeartbeats 8000000 in
theorem rparts_any (l : List Dat) (last : Dat) (hk : last.k ≠ 8) (hlen : l.length ≤ 1000000) (v : Value) (w : World) (P : Nat → Prop) (hP : ∀ b, P b → b < w.heap.size) (hR : RDP w P (joinD l last) v) :
    Calls Tryz.prog 49 #[v] w fun e w' => ∃ A c v', e = .returned (.tuple #[.slice A l.length c, v']) ∧ ROw w' (w.heap.size + 2) P A c l ∧ RDP w' P last v' ∧ Below w.heap.size w w' := by
  obtain ⟨ls, rfl, ll, lo⟩ := hR.agg
  match ls, ll, lo with
  | [y0, y1, y2, y3, y4, y5, y6, y7, y8, y9, y10], _, lo =>
  have S0 := SB.new w [y0, y1, y2, y3, y4, y5, y6, y7, y8, y9, y10] 30
  have S1 := SB.new (w.alloc (.cells #[y0, y1, y2, y3, y4, y5, y6, y7, y8, y9, y10] 30)) [.int .i64 0, .int .i64 0, .bool false, .slice none 0 0, .slice none 0 0, .bool false, .slice none 0 0, .slice none 0 0, .string { data := #[] }, .slice none 0 0, .slice none 0 0] 30
  have z1 : (w.alloc (.cells #[y0, y1, y2, y3, y4, y5, y6, y7, y8, y9, y10] 30)).heap.size = w.heap.size + 1 := by simp
  have B0 := bal w (.cells #[y0, y1, y2, y3, y4, y5, y6, y7, y8, y9, y10] 30)
  have B1 := bal (w.alloc (.cells #[y0, y1, y2, y3, y4, y5, y6, y7, y8, y9, y10] 30)) (.cells #[.int .i64 0, .int .i64 0, .bool false, .slice none 0 0, .slice none 0 0, .bool false, .slice none 0 0, .slice none 0 0, .string { data := #[] }, .slice none 0 0, .slice none 0 0] 30)
  have S0 := S0.nx B1
  have BB := bt B0 B1
  rw [z1] at S1
  have R0 : RDP _ P (joinD l last) _ := hR.step (fun z hz => BB.block z (hP z hz)) (fun z hz => hz)
  obtain ⟨W0, hW0⟩ : ∃ W0, W0 = (w.alloc (.cells #[y0, y1, y2, y3, y4, y5, y6, y7, y8, y9, y10] 30)).alloc (.cells #[.int .i64 0, .int .i64 0, .bool false, .slice none 0 0, .slice none 0 0, .bool false, .slice none 0 0, .slice none 0 0, .string { data := #[] }, .slice none 0 0, .slice none 0 0] 30) := ⟨_, rfl⟩
  have hN : W0.heap.size = w.heap.size + 2 := by rw [hW0]; simp
  rw [← hW0] at S0 S1 BB R0
  clear z1 B0 B1
  go_enter Tryz.func49, Tryz.ntmps49
  go_upto_region 1 with fail
  rw [← hW0]
  clear hW0 hR
  generalize hn : w.heap.size = n at *
  have O0 := ROw.empty W0 P
  have Ba := bal W0 (.cells #[] 30)
  have S0 := S0.nx Ba
  have S1 := S1.nx Ba
  have BB := BB.trans (Ba.mono (by omega))
  have R0 : RDP _ P (joinD l last) _ := R0.step (fun z hz => Ba.block z (by have := hP z hz; omega)) (fun z hz => hz)
  rw [hN] at O0
  go_upto_region 2 with fail
  try rw [hN]
  obtain ⟨W1, hW1⟩ : ∃ W1, W1 = W0.alloc (.cells #[] 30) := ⟨_, rfl⟩
  have hN : n + 2 ≤ W1.heap.size := by rw [hW1]; simp; omega
  rw [← hW1] at S0 S1 BB R0 O0 ⊢
  clear hW1 Ba
  go_loopg [4] l.length (fun gk s4 wx => ∃ (l1 l2 : List Dat) (A : Option Addr) (c : Nat) (cs : List Value), l = l1 ++ l2 ∧ l2.length = gk ∧ s4 = .slice A l1.length c ∧ ROw wx (n + 2) P A c l1 ∧ cs.length = 11 ∧ SB wx n cs ∧ SB wx (n + 1) [.int .i64 0, .int .i64 0, .bool false, .slice none 0 0, .slice none 0 0, .bool false, .slice none 0 0, .slice none 0 0, .string { data := #[] }, .slice none 0 0, .slice none 0 0] ∧ RDP wx P (joinD l2 last) (.agg cs.toArray) ∧ Below n w wx ∧ n + 2 ≤ wx.heap.size)
  case atStart => exact ⟨[], l, _, _, _, rfl, rfl, rfl, O0, rfl, S0, S1, R0, BB, hN⟩
  case round =>
    clear S0 S1 R0 BB hN O0
    obtain ⟨l1, l2, A, c, cs, hl, hgk, rfl, O1, cl, S0, S1, R1, B1, hN⟩ := hrel
    cases l2 with
    | nil =>
      have hk0 : (last.k == 8) = false := by simpa using hk
      have R1 : RDP wr P last (.agg cs.toArray) := R1
      obtain ⟨y1, y2, y3, y4, y5, y6, y7, y8, y9, y10, rfl, oy⟩ := R1.head
      have k0 := S0.cell 0
      simp only [List.append_nil] at hl
      subst hl
      go_upto_region 5 with fail
      clear k0 hk0
      generalize Value.int .i64 last.k = y0 at *
      have Dw := (Below.refl wr.heap.size wr).drew
      have S0 := S0.nx Dw
      have S1 := S1.nx Dw
      have R1 := R1.keeps hP (by omega) Dw
      have B1 := B1.trans (Dw.mono (by omega))
      have O1 := O1.below (fun b hb => Nat.lt_of_lt_of_le (hP b hb) (by omega)) Dw
      have hN := Nat.le_trans hN Dw.size
      clear Dw
      refine AnyW.regionQ (fun _ => false) 4 (fun w' => w'.rangeAt n 0 [y0, y1, y2, y3, y4, y5, y6, y7, y8, y9, y10]) rfl (by kernel_rfl) (by kernel_rfl) (by repeat (first | refine quiet_then ?_ | refine quiet_block ?_ | exact quiet_body)) (fun j u hj => by rw [Nat.zero_add]; exact (S0.1 j u hj).1) (fun Q' hQK hq hns hHeld => ?_)
      generalize wr.drew = w9 at *
      refine AnyW.nextT (i := 0) (v := ?_) hq hns (.inr hHeld) rfl rfl (by kernel_rfl) (Or.inl ⟨by rfl, ?_⟩) ?_
      rotate_left
      · intro w' _; go_simp <;> with_reducible rfl
      try simp only [List.setIfInBounds_toArray, List.set_cons_zero, List.set_cons_succ]
      refine AnyW.next (i := 1) (v := .agg [y0, y1, y2, y3, y4, y5, y6, y7, y8, y9, y10].toArray) hq hns hHeld rfl rfl (by kernel_rfl) (yieldsIf_load_mid (by rfl) 30 (.tmp 1) rfl n 0 rfl [y0, y1, y2, y3, y4, y5, y6, y7, y8, y9, y10] _ (fun w' h => h) Tryz.underlying30 rfl (infoD.trans (by rfl))) ?_
      try simp only [List.setIfInBounds_toArray, List.set_cons_zero, List.set_cons_succ]
      refine AnyW.nextT (i := 2) (v := ?_) hq hns (.inr hHeld) rfl rfl (by kernel_rfl) (Or.inl ⟨by rfl, ?_⟩) ?_
      rotate_left
      · intro w' _; go_simp <;> with_reducible rfl
      try simp only [List.setIfInBounds_toArray, List.set_cons_zero, List.set_cons_succ]
      refine AnyW.one 3 (by kernel_rfl) rfl (fun K' hK => ?_)
      refine step_stDo rfl rfl (.tmp 3) (.tmp 21) rfl (n + 1) 0 rfl [y0, y1, y2, y3, y4, y5, y6, y7, y8, y9, y10] rfl rfl S1.th oy ?_
      obtain ⟨w8, hw8⟩ : ∃ w8, w8 = w9.setCells (n + 1) 0 [y0, y1, y2, y3, y4, y5, y6, y7, y8, y9, y10] := ⟨_, rfl⟩
      have S0 := S0.cells_far (g := n + 1) (by omega) [y0, y1, y2, y3, y4, y5, y6, y7, y8, y9, y10]; rw [← hw8] at S0
      have S1 : SB w8 (n + 1) [y0, y1, y2, y3, y4, y5, y6, y7, y8, y9, y10] := by rw [hw8]; exact S1.cells [y0, y1, y2, y3, y4, y5, y6, y7, y8, y9, y10] rfl
      have R1 := R1.scP hP (by omega) (g := n + 1) (by omega) 0 [y0, y1, y2, y3, y4, y5, y6, y7, y8, y9, y10]; rw [← hw8] at R1
      have B1 := below_cso B1 (b := n + 1) (by omega) 0 [y0, y1, y2, y3, y4, y5, y6, y7, y8, y9, y10]; rw [← hw8] at B1
      have O1 := O1.sc hP (by omega) (by omega) (g := n + 1) (by omega) 0 [y0, y1, y2, y3, y4, y5, y6, y7, y8, y9, y10]; rw [← hw8] at O1
      have hN : n + 2 ≤ w8.heap.size := by rw [hw8, size_sc]; exact hN
      rw [← hw8]
      clear hw8
      refine hK.out _ _ (.inr (fun j u hj => by rw [Nat.zero_add]; exact (S0.1 j u hj).1)) (fun hG => ?_)
      have hHeld := hG.resolve_left (notGone.spec (by rfl))
      clear hK K' hG
      try simp only [List.setIfInBounds_toArray, List.set_cons_zero, List.set_cons_succ]
      refine AnyW.done (by kernel_rfl) (hQK.out _ _ ?_)
      clear hQK hq hns hHeld
      have r0 := S1.cell 0; have r1 := S1.cell 1; have r2 := S1.cell 2; have r3 := S1.cell 3; have r4 := S1.cell 4; have r5 := S1.cell 5; have r6 := S1.cell 6; have r7 := S1.cell 7; have r8 := S1.cell 8; have r9 := S1.cell 9; have r10 := S1.cell 10
      go_wp2_with fail
      refine bodyPost_ret (v := .tuple #[.slice A l.length c, .agg #[y0, y1, y2, y3, y4, y5, y6, y7, y8, y9, y10]]) (by simp [results, r0, r1, r2, r3, r4, r5, r6, r7, r8, r9, r10, go_sem]) rfl ?_
      try rw [hn]
      exact ⟨A, c, _, rfl, O1, R1, B1⟩
    | cons x l3 =>
      obtain ⟨A1, c1, D1, d1, A2, c2, D2, d2, R, rc, b, off, lc, e, hPb, hlc, cx, cy, lx, ly, ox, Rx, Ry, kx, ky⟩ := pairD_view (show RDP wr P (pairD x (joinD l3 last)) _ from R1)
      obtain rfl := congrArg Array.toList (Value.agg.inj e)
      obtain ⟨_, e2, _, oy⟩ := Ry.agg
      obtain rfl := congrArg Array.toList (Value.agg.inj e2)
      match cx, lx, ox, cy, ly, oy with
      | [x0, x1, x2, x3, x4, x5, x6, x7, x8, x9, x10], _, ox, [z0, z1, z2, z3, z4, z5, z6, z7, z8, z9, z10], _, oy =>
      clear e e2 R1
      have hbn := hP b hPb
      have hlen1 : l1.length + 1 + l3.length = l.length := by rw [hl]; simp; omega
      have c0 := S0.cell 0
      go_upto_region 3 with fail
      clear c0
      have c10 := S0.cell 10

      have k0 := kx 0 _ rfl; have k1 := kx 1 _ rfl; have k2 := kx 2 _ rfl; have k3 := kx 3 _ rfl; have k4 := kx 4 _ rfl; have k5 := kx 5 _ rfl; have k6 := kx 6 _ rfl; have k7 := kx 7 _ rfl; have k8 := kx 8 _ rfl; have k9 := kx 9 _ rfl; have k10 := kx 10 _ rfl
      simp only [Nat.add_zero] at k0
      obtain ⟨ls1, O, hl2, h3⟩ := O1
      have S5 := SB.new wr [x0, x1, x2, x3, x4, x5, x6, x7, x8, x9, x10] 30
      have Ba := bal wr (.cells #[x0, x1, x2, x3, x4, x5, x6, x7, x8, x9, x10] 30)
      have hz1 : (wr.alloc (.cells #[x0, x1, x2, x3, x4, x5, x6, x7, x8, x9, x10] 30)).heap.size = wr.heap.size + 1 := by simp
      go_upto_region 4 with (at_builtin; refine wp_appD _ rfl _ _ rfl (n + 2) _ _ _ ls1 rfl hl2.symm (O.alloc _) wr.heap.size _ ⟨[x0, x1, x2, x3, x4, x5, x6, x7, x8, x9, x10], rfl, ox⟩ rfl (fun j u hj => (S5.1 j u hj).1) (by omega) (by omega) ?_; intro A3 c3 w2 O2 G2)
      clear k0 k1 k2 k3 k4 k5 k6 k7 k8 k9 k10 c10
      have Bw : Below (n + 2) wr w2 := (Ba.mono hN).trans G2
      have hbw : b < n + 2 := by omega
      have S0 := S0.lo Bw (by omega)
      have S1 := S1.lo Bw (by omega)
      have hP2 : ∀ b, P b → b < n + 2 := fun b hb => by have := hP b hb; omega
      have Rx : RDP w2 P x _ := Rx.keep hP2 Bw
      have Ry : RDP w2 P (joinD l3 last) _ := Ry.keep hP2 Bw
      have ky : w2.rangeAt b (off + 11) [z0, z1, z2, z3, z4, z5, z6, z7, z8, z9, z10] := fun j u hj => (Bw.cell (p := ⟨b, off + 11 + j, none⟩) hbw).trans (ky j u hj)
      have BB2 : Below n w w2 := B1.trans (Bw.mono (by omega))
      have h3 : ∀ (i : Nat) (y : Dat), l1[i]? = some y → ∃ cs : C11, ls1[i]? = some cs ∧ RDP w2 P y (.agg cs.1.toArray) := fun i y hy => by
        obtain ⟨cs, e, h4⟩ := h3 i y hy
        exact ⟨cs, e, h4.keep hP2 Bw⟩
      have OO : ROw w2 (n + 2) P A3 c3 (l1 ++ [x]) := ROw.push O2 hl2 h3 Rx
      have hN2 : n + 2 ≤ w2.heap.size := by have := Bw.size; omega
      clear O O2 S5 Ba Bw G2 B1 Rx
      have c10 := S0.cell 10

      have k0 := ky 0 _ rfl; have k1 := ky 1 _ rfl; have k2 := ky 2 _ rfl; have k3 := ky 3 _ rfl; have k4 := ky 4 _ rfl; have k5 := ky 5 _ rfl; have k6 := ky 6 _ rfl; have k7 := ky 7 _ rfl; have k8 := ky 8 _ rfl; have k9 := ky 9 _ rfl; have k10 := ky 10 _ rfl
      simp only [Nat.add_zero] at k0
      go_upto_region 2 with (refine wp_stD rfl rfl (.tmp 1) (.tmp 19) rfl n rfl [z0, z1, z2, z3, z4, z5, z6, z7, z8, z9, z10] rfl rfl _ S0 rfl oy ?_)
      clear k0 k1 k2 k3 k4 k5 k6 k7 k8 k9 k10 c10
      have OO := OO.sc hP (by omega) (Nat.le_refl _) (by omega) 0 [z0, z1, z2, z3, z4, z5, z6, z7, z8, z9, z10]
      have S1 := S1.cells_far (g := n) (by omega) [z0, z1, z2, z3, z4, z5, z6, z7, z8, z9, z10]
      have S0 := S0.cells [z0, z1, z2, z3, z4, z5, z6, z7, z8, z9, z10] rfl
      have Ry := Ry.scP hP (by omega) (Nat.le_refl n) 0 [z0, z1, z2, z3, z4, z5, z6, z7, z8, z9, z10]
      have BB2 := below_cso BB2 (Nat.le_refl n) 0 [z0, z1, z2, z3, z4, z5, z6, z7, z8, z9, z10]
      have hN2 : n + 2 ≤ (w2.setCells n 0 [z0, z1, z2, z3, z4, z5, z6, z7, z8, z9, z10]).heap.size := by rw [size_sc]; exact hN2
      generalize w2.setCells n 0 [z0, z1, z2, z3, z4, z5, z6, z7, z8, z9, z10] = w3 at *
      go_roundg l3.length
      case measure => simp only [List.length_cons] at hgk; omega
      case rel => exact ⟨l1 ++ [x], l3, A3, c3, _, by rw [hl]; simp, rfl, by simp, OO, rfl, S0, S1, Ry, BB2, hN2⟩

set_option maxRecDepth 100000 in
set_option maxHeartbeats 8000000 in
theorem ritemsAll_any (d : Dat) (v : Value) (w : World) (P : Nat → Prop) (hP : ∀ b, P b → b < w.heap.size) (hR : RDP w P d v) :
    Calls Tryz.prog 33 #[v] w fun e w' => ∃ A c, e = .returned (.tuple #[.slice A (listL d).length c, .int .i64 (listE d)]) ∧ ROw w' w.heap.size P A c (listL d) ∧ Below w.heap.size w w' := by
  obtain ⟨ls, rfl, ll, lo⟩ := hR.agg
  match ls, ll, lo with
  | [y0, y1, y2, y3, y4, y5, y6, y7, y8, y9, y10], _, lo =>
  have S0 := SB.new w [y0, y1, y2, y3, y4, y5, y6, y7, y8, y9, y10] 30
  have BB := bal w (.cells #[y0, y1, y2, y3, y4, y5, y6, y7, y8, y9, y10] 30)
  have R0 : RDP _ P d _ := hR.step (fun z hz => BB.block z (hP z hz)) (fun z hz => hz)
  obtain ⟨W0, hW0⟩ : ∃ W0, W0 = w.alloc (.cells #[y0, y1, y2, y3, y4, y5, y6, y7, y8, y9, y10] 30) := ⟨_, rfl⟩
  have hN : w.heap.size + 1 ≤ W0.heap.size := by rw [hW0]; simp
  rw [← hW0] at S0 BB R0
  go_enter Tryz.func33, Tryz.ntmps33
  go_upto_region 1 with fail
  rw [← hW0]
  clear hW0 hR
  generalize hn : w.heap.size = n at *
  have k0 := S0.cell 0; have k1 := S0.cell 1; have k2 := S0.cell 2; have k3 := S0.cell 3; have k4 := S0.cell 4; have k5 := S0.cell 5; have k6 := S0.cell 6; have k7 := S0.cell 7; have k8 := S0.cell 8; have k9 := S0.cell 9; have k10 := S0.cell 10
  go_wp2_with fail
  refine (rdsound_any vU d _ W0 (R0.snd hP (by omega)) (RVS.of _ _)).mono ?_
  rintro e w2 ⟨rfl, B2⟩
  clear k0 k1 k2 k3 k4 k5 k6 k7 k8 k9 k10
  have S0 := S0.nx B2
  have R0 := R0.keeps hP (by omega) B2
  have BB := BB.trans (B2.mono (by omega))
  have hN := Nat.le_trans hN B2.size
  obtain ⟨z, hz⟩ : ∃ z, Hid (d.sound vU = z) := ⟨_, Lib.hid rfl⟩
  rw [hz.out]
  cases z with
  | false =>
    go_wp2_with fail
    go_ret2
    rw [(list_no hz.out).1, (list_no hz.out).2]
    try rw [hn]
    exact ⟨_, _, rfl, ROw.nil _ _ _, BB⟩
  | true =>
    have hd := hz.out
    obtain ⟨hj, hk8⟩ := join_parts hd
    have hlen := join_len vU_nil (hj ▸ hd)
    have R0 : RDP w2 P (joinD d.parts.1 d.parts.2) _ := hj ▸ R0
    clear hj
    have k0 := S0.cell 0; have k1 := S0.cell 1; have k2 := S0.cell 2; have k3 := S0.cell 3; have k4 := S0.cell 4; have k5 := S0.cell 5; have k6 := S0.cell 6; have k7 := S0.cell 7; have k8 := S0.cell 8; have k9 := S0.cell 9; have k10 := S0.cell 10
    go_wp2_with fail
    refine (rparts_any d.parts.1 d.parts.2 hk8 (by omega) _ w2 P (fun z hz => by have := hP z hz; omega) R0).mono ?_
    rintro e w3 ⟨A, c, v', rfl, O3, R3, B3⟩
    clear k0 k1 k2 k3 k4 k5 k6 k7 k8 k9 k10
    obtain ⟨zs, rfl, zl, zo⟩ := R3.agg
    obtain ⟨y1, y2, y3, y4, y5, y6, y7, y8, y9, y10, rfl, -⟩ := R3.head
    have hok := list_ok (d := d) hd
    have hbad := list_bad (d := d) hd
    have hN2 := B3.size
    have BB := BB.trans (B3.mono (by omega))
    have hN : n + 1 ≤ w3.heap.size := by omega
    have O3 := O3.base_le (B := n) (by omega)
    clear R3 R0
    generalize d.parts.2.k = y0 at *
    generalize d.parts.1 = l at *
    replace hok := Lib.hid hok
    replace hbad := Lib.hid hbad
    have Sg := SB.new w3 [.int .i64 0, .int .i64 0, .bool false, .slice none 0 0, .slice none 0 0, .bool false, .slice none 0 0, .slice none 0 0, .string { data := #[] }, .slice none 0 0, .slice none 0 0] 30
    obtain ⟨w4, hw4⟩ : ∃ w4, w4 = (w3.alloc (.cells #[.int .i64 0, .int .i64 0, .bool false, .slice none 0 0, .slice none 0 0, .bool false, .slice none 0 0, .slice none 0 0, .string { data := #[] }, .slice none 0 0, .slice none 0 0] 30)).setCells w3.heap.size 0 [.int .i64 y0, y1, y2, y3, y4, y5, y6, y7, y8, y9, y10] := ⟨_, rfl⟩
    have Bw4 : Below w3.heap.size w3 w4 := by rw [hw4]; exact below_cso (bal w3 _) (Nat.le_refl _) 0 [.int .i64 y0, y1, y2, y3, y4, y5, y6, y7, y8, y9, y10]
    have S4 : SB w4 w3.heap.size [.int .i64 y0, y1, y2, y3, y4, y5, y6, y7, y8, y9, y10] := by rw [hw4]; exact Sg.cells [.int .i64 y0, y1, y2, y3, y4, y5, y6, y7, y8, y9, y10] rfl
    have hgw3 : n + 1 ≤ w3.heap.size := hN
    replace hw4 := Lib.hid hw4
    go_upto_region 4 with (refine wp_stD rfl rfl (.tmp 5) (.tmp 13) rfl w3.heap.size rfl [.int .i64 y0, y1, y2, y3, y4, y5, y6, y7, y8, y9, y10] rfl rfl _ Sg rfl zo ?_; rw [← hw4.out]; clear hw4)
    clear Sg
    have BB := BB.trans (Bw4.mono (by omega))
    have O3 := O3.below (fun b hb => Nat.lt_of_lt_of_le (hP b hb) (by omega)) Bw4
    have hN := Nat.le_trans hN Bw4.size
    have k0 := S4.cell 0
    by_cases hy : y0 = 1
    · subst hy
      go_upto_region 6 with fail
      go_wp2_with fail
      go_ret2
      rw [(hok.out (by decide)).1, (hok.out (by decide)).2]
      try rw [hn]
      exact ⟨_, _, rfl, O3, BB⟩
    · have hyb : (y0 == 1) = false := by simpa using hy
      have hyn : (y0 != 1) = true := by simpa using hy
      go_upto_region 5 with fail
      go_wp2_with fail
      go_ret2
      rw [(hbad.out hyb).1, (hbad.out hyb).2]
      try rw [hn]
      exact ⟨_, _, rfl, ROw.nil _ _ _, BB⟩

/-- the reference's answers: without a look at their size -/
def ransD (d : Dat) (m : Dat) : Dat := if listE d = 0 then m else zeroD
theorem rans_err {d m : Dat} (h : listE d ≠ 0) : ransD d m = zeroD := by unfold ransD; simp [h]
theorem rans_ok {d m : Dat} (h : listE d = 0) : ransD d m = m := by unfold ransD; simp [h]
theorem RLs.one {w : World} {P : Nat → Prop} {g : Nat} {x : Dat} {cs : List Value} (S : SB w g cs) (hx : RDP w P x (.agg cs.toArray)) (hg : P g) : RLs w P (some ⟨g, 0, none⟩) 1 [x] :=
  ⟨Nat.le_refl _, by simp, fun _ => ⟨g, 0, rfl, hg, RDPs.of [x] 0 fun i y hy => by
    cases i with
    | zero =>
      obtain rfl : x = y := by simpa using hy
      obtain ⟨_, e, hl, _⟩ := hx.agg
      obtain rfl := congrArg Array.toList (Value.agg.inj e)
      exact ⟨cs, hl, hx, fun j u hj => by have := S.cell j hj; simpa using this⟩
    | succ i => simp at hy⟩⟩
end Go.Proofs.YtilhnjecnhpmlaaGreatDoor
namespace Go.Proofs.YtilhnjecnhpmlaaGreatDoor
open Go.RowKit

end Go.Proofs.YtilhnjecnhpmlaaGreatDoor
namespace Go.Proofs.YtilhnjecnhpmlaaGreatDoor
open Go.RowKit

theorem RLs.many {w : World} {P : Nat → Prop} {g : Nat} {ls : List (List Value)} {l : List Dat} (hl : ∀ cs ∈ ls, cs.length = 11) (S : SB w g ls.flatten) (hg : P g) (hb : l.length ≤ 35184372088832)
    (h : ∀ (i : Nat) (x : Dat), l[i]? = some x → ∃ cs : List Value, ls[i]? = some cs ∧ RDP w P x (.agg cs.toArray)) : RLs w P (some ⟨g, 0, none⟩) l.length l :=
  ⟨Nat.le_refl _, hb, fun _ => ⟨g, 0, rfl, hg, RDPs.of l 0 fun i y hy => by
    obtain ⟨cs, h1, h2⟩ := h i y hy
    obtain ⟨hi, rfl⟩ := List.getElem?_eq_some_iff.1 h1
    refine ⟨ls[i], hl _ (List.getElem_mem hi), h2, fun j u hj => ?_⟩
    have hj11 : j < 11 := by rw [← hl _ (List.getElem_mem hi)]; exact (List.getElem?_eq_some_iff.1 hj).1
    rw [Nat.zero_add]
    refine S.cell _ ?_
    have h3 : ∀ (ls : List (List Value)) (i : Nat) (x : List Value), (∀ cs ∈ ls, cs.length = 11) → ls[i]? = some x → ls.flatten[i * 11 + j]? = x[j]? := by
      intro ls
      induction ls with
      | nil => intro i x _ h; cases h
      | cons y ys ih =>
        intro i x hl h
        have hy := hl y (by simp)
        cases i with
        | zero =>
          obtain rfl : y = x := by simpa using h
          rw [List.flatten_cons, Nat.zero_mul, Nat.zero_add, List.getElem?_append_left (by omega)]
        | succ i =>
          rw [List.flatten_cons, List.getElem?_append_right (by omega), hy, show (i + 1) * 11 + j - 11 = i * 11 + j by omega]
          exact ih i x (fun cs h => hl cs (by simp [h])) (by simpa using h)
    rw [h3 ls i _ hl h1]; exact hj⟩⟩
def boolD : Dat := .mk 2 0 ⟨false, [], []⟩ ⟨false, [], []⟩ ByteArray.empty [] []
def voidD : Dat := .mk 10 0 ⟨false, [], []⟩ ⟨false, [], []⟩ ByteArray.empty [] []
theorem rd_boolD (w : World) (P : Nat → Prop) : RDP w P boolD (.agg #[.int .i64 2, .int .i64 0, .bool false, .slice none 0 0, .slice none 0 0, .bool false, .slice none 0 0, .slice none 0 0, .string { data := #[] }, .slice none 0 0, .slice none 0 0]) :=
  (RDP.mk_ (d := boolD) (WP.nil _ _ _ _) (WP.nil _ _ _ _) (WP.nil _ _ _ _) (WP.nil _ _ _ _) (RLP.nil _ _ _ _ _)
    ⟨⟨show (-9223372036854775808 : Int) ≤ 2 by decide, show (2 : Int) ≤ 9223372036854775807 by decide⟩, ⟨show (-9223372036854775808 : Int) ≤ 0 by decide, show (0 : Int) ≤ 9223372036854775807 by decide⟩, show (0 : Nat) ≤ 1048576 by decide⟩ ⟨Nat.le_refl 0, Nat.zero_le _⟩ (fun h => absurd h (Nat.lt_irrefl 0)))
theorem rd_voidD (w : World) (P : Nat → Prop) : RDP w P voidD (.agg #[.int .i64 10, .int .i64 0, .bool false, .slice none 0 0, .slice none 0 0, .bool false, .slice none 0 0, .slice none 0 0, .string { data := #[] }, .slice none 0 0, .slice none 0 0]) :=
  (RDP.mk_ (d := voidD) (WP.nil _ _ _ _) (WP.nil _ _ _ _) (WP.nil _ _ _ _) (WP.nil _ _ _ _) (RLP.nil _ _ _ _ _)
    ⟨⟨show (-9223372036854775808 : Int) ≤ 10 by decide, show (10 : Int) ≤ 9223372036854775807 by decide⟩, ⟨show (-9223372036854775808 : Int) ≤ 0 by decide, show (0 : Int) ≤ 9223372036854775807 by decide⟩, show (0 : Nat) ≤ 1048576 by decide⟩ ⟨Nat.le_refl 0, Nat.zero_le _⟩ (fun h => absurd h (Nat.lt_irrefl 0)))
theorem nilD_k : nilD.k ≠ 8 := by decide
theorem listE_join {l : List Dat} (h : (joinD l nilD).sound vU = true) : listE (joinD l nilD) = 0 ∧ listL (joinD l nilD) = l := by
  have h1 := parts_join nilD_k l
  have h2 := list_ok h (by rw [h1]; rfl)
  rw [h1] at h2
  exact h2
theorem aw_sound : (joinD [boolD, voidD] nilD).sound vU = true := by decide +kernel
theorem aw_of : ofD [boolD, voidD] = joinD [boolD, voidD] nilD := (fit_yes aw_sound).1
theorem aw_rev : ansE (joinD [boolD, voidD] nilD) (revD (joinD [boolD, voidD] nilD)) = 0 ∧ ansD (joinD [boolD, voidD] nilD) (revD (joinD [boolD, voidD] nilD)) = pairD voidD (pairD boolD nilD) := by
  obtain ⟨h1, h2⟩ := listE_join aw_sound
  have h3 : (joinD [voidD, boolD] nilD).sound vU = true := perm_sound vU_nil aw_sound (List.Perm.swap _ _ _)
  have h4 : revD (joinD [boolD, voidD] nilD) = joinD [voidD, boolD] nilD := by unfold revD; rw [h2]; rfl
  rw [(ans_ok h1).1, (ans_ok h1).2, h4, (fit_yes h3).1, (fit_yes h3).2]
  exact ⟨rfl, rfl⟩

set_option maxRecDepth 100000 in
set_option maxHeartbeats 8000000 in
theorem awake11_any (w : World) (hT : Tabs w) : Calls Tryz.prog 11 #[] w fun e w' => e = .returned (.bool true) ∧ Below w.heap.size w w' := by
  obtain ⟨W0, hW0⟩ : ∃ W0, W0 = w.alloc (.cells #[.int .i64 2, .int .i64 0, .bool false, .slice none 0 0, .slice none 0 0, .bool false, .slice none 0 0, .slice none 0 0, .string { data := #[] }, .slice none 0 0, .slice none 0 0, .int .i64 10, .int .i64 0, .bool false, .slice none 0 0, .slice none 0 0, .bool false, .slice none 0 0, .slice none 0 0, .string { data := #[] }, .slice none 0 0, .slice none 0 0] 30) := ⟨_, rfl⟩
  have SK := SB.new w [.int .i64 2, .int .i64 0, .bool false, .slice none 0 0, .slice none 0 0, .bool false, .slice none 0 0, .slice none 0 0, .string { data := #[] }, .slice none 0 0, .slice none 0 0, .int .i64 10, .int .i64 0, .bool false, .slice none 0 0, .slice none 0 0, .bool false, .slice none 0 0, .slice none 0 0, .string { data := #[] }, .slice none 0 0, .slice none 0 0] 30
  have BB := bal w (.cells #[.int .i64 2, .int .i64 0, .bool false, .slice none 0 0, .slice none 0 0, .bool false, .slice none 0 0, .slice none 0 0, .string { data := #[] }, .slice none 0 0, .slice none 0 0, .int .i64 10, .int .i64 0, .bool false, .slice none 0 0, .slice none 0 0, .bool false, .slice none 0 0, .slice none 0 0, .string { data := #[] }, .slice none 0 0, .slice none 0 0] 30)
  have hN : w.heap.size + 1 ≤ W0.heap.size := by rw [hW0]; simp
  rw [← hW0] at SK BB
  obtain ⟨P, hPe⟩ : ∃ P : Nat → Prop, P = fun b => b = w.heap.size := ⟨_, rfl⟩
  have hP : ∀ b, P b → b < w.heap.size + 1 := fun b hb => by rw [hPe] at hb; omega
  have L0 : RLs W0 P (some ⟨w.heap.size, 0, none⟩) 2 [boolD, voidD] := RLs.many (ls := [[.int .i64 2, .int .i64 0, .bool false, .slice none 0 0, .slice none 0 0, .bool false, .slice none 0 0, .slice none 0 0, .string { data := #[] }, .slice none 0 0, .slice none 0 0], [.int .i64 10, .int .i64 0, .bool false, .slice none 0 0, .slice none 0 0, .bool false, .slice none 0 0, .slice none 0 0, .string { data := #[] }, .slice none 0 0, .slice none 0 0]]) (by intro cs h; simp only [List.mem_cons, List.not_mem_nil, or_false] at h; rcases h with rfl | rfl <;> rfl) SK (by rw [hPe]) (by simp)
    (fun i x hx => match i, hx with
      | 0, hx => by
        obtain rfl : boolD = x := by simpa using hx
        exact ⟨_, rfl, rd_boolD _ _⟩
      | 1, hx => by
        obtain rfl : voidD = x := by simpa using hx
        exact ⟨_, rfl, rd_voidD _ _⟩
      | i + 2, hx => by simp at hx)
  go_enter Tryz.func11, Tryz.ntmps11
  go_upto_region 1 with fail
  go_wp2_with fail
  rw [← hW0]
  clear hW0 hPe
  generalize hn : w.heap.size = n at *
  have cl := lof_any (some ⟨n, 0, none⟩) 2 [boolD, voidD] W0 P (fun z hz => by have := hP z hz; omega) L0 (hT.go hn BB)
  rw [aw_of] at cl
  refine cl.mono ?_
  clear cl L0 SK
  rintro e w1 ⟨v1, rfl, R1, B1⟩
  have R1 := R1.from_ (m := n + 1) hN
  have BB := BB.trans (B1.mono (by omega))
  have hN := Nat.le_trans hN B1.size
  obtain ⟨cs, rfl, cl, co⟩ := R1.agg
  match cs, cl, co with
  | [x0, x1, x2, x3, x4, x5, x6, x7, x8, x9, x10], _, co =>
  have Sg := SB.new w1 [.int .i64 0, .int .i64 0, .bool false, .slice none 0 0, .slice none 0 0, .bool false, .slice none 0 0, .slice none 0 0, .string { data := #[] }, .slice none 0 0, .slice none 0 0] 30
  obtain ⟨w2, hw2⟩ : ∃ w2, w2 = (w1.alloc (.cells #[.int .i64 0, .int .i64 0, .bool false, .slice none 0 0, .slice none 0 0, .bool false, .slice none 0 0, .slice none 0 0, .string { data := #[] }, .slice none 0 0, .slice none 0 0] 30)).setCells w1.heap.size 0 [x0, x1, x2, x3, x4, x5, x6, x7, x8, x9, x10] := ⟨_, rfl⟩
  have Bw2 : Below w1.heap.size w1 w2 := by rw [hw2]; exact below_cso (bal w1 _) (Nat.le_refl _) 0 [x0, x1, x2, x3, x4, x5, x6, x7, x8, x9, x10]
  have S2 : SB w2 w1.heap.size [x0, x1, x2, x3, x4, x5, x6, x7, x8, x9, x10] := by rw [hw2]; exact Sg.cells [x0, x1, x2, x3, x4, x5, x6, x7, x8, x9, x10] rfl
  have hgw1 : n + 1 ≤ w1.heap.size := hN
  replace hw2 := Lib.hid hw2
  go_upto_region 2 with (refine wp_stD rfl rfl (.tmp 1) (.tmp 7) rfl w1.heap.size rfl [x0, x1, x2, x3, x4, x5, x6, x7, x8, x9, x10] rfl rfl _ Sg rfl co ?_; rw [← hw2.out]; clear hw2)
  clear Sg
  have R1 := R1.go hP (by omega) Bw2
  have BB := BB.trans (Bw2.mono (by omega))
  have hN := Nat.le_trans hN Bw2.size
  have k0 := S2.cell 0; have k1 := S2.cell 1; have k2 := S2.cell 2; have k3 := S2.cell 3; have k4 := S2.cell 4; have k5 := S2.cell 5; have k6 := S2.cell 6; have k7 := S2.cell 7; have k8 := S2.cell 8; have k9 := S2.cell 9; have k10 := S2.cell 10
  go_wp2_with fail
  have cr := lreverse_any (joinD [boolD, voidD] nilD) _ w2 (Out P (n + 1) w2) (Out.all hP (by omega)) R1 (hT.go hn BB)
  rw [aw_rev.1, aw_rev.2] at cr
  refine cr.mono ?_
  clear cr
  rintro e w3 ⟨v3, rfl, R3, B3⟩
  have R3 := R3.res (m := n + 1) hN B3.size
  clear k0 k1 k2 k3 k4 k5 k6 k7 k8 k9 k10
  have R1 := R1.go hP (by omega) B3
  have BB := BB.trans (B3.mono (by omega))
  have S2 := S2.nx B3
  have hN := Nat.le_trans hN B3.size
  obtain ⟨cs, rfl, cl, co⟩ := R3.agg
  match cs, cl, co with
  | [z0, z1, z2, z3, z4, z5, z6, z7, z8, z9, z10], _, co =>
  have Sg := SB.new w3 [.int .i64 0, .int .i64 0, .bool false, .slice none 0 0, .slice none 0 0, .bool false, .slice none 0 0, .slice none 0 0, .string { data := #[] }, .slice none 0 0, .slice none 0 0] 30
  obtain ⟨w4, hw4⟩ : ∃ w4, w4 = (w3.alloc (.cells #[.int .i64 0, .int .i64 0, .bool false, .slice none 0 0, .slice none 0 0, .bool false, .slice none 0 0, .slice none 0 0, .string { data := #[] }, .slice none 0 0, .slice none 0 0] 30)).setCells w3.heap.size 0 [z0, z1, z2, z3, z4, z5, z6, z7, z8, z9, z10] := ⟨_, rfl⟩
  have Bw4 : Below w3.heap.size w3 w4 := by rw [hw4]; exact below_cso (bal w3 _) (Nat.le_refl _) 0 [z0, z1, z2, z3, z4, z5, z6, z7, z8, z9, z10]
  have S4 : SB w4 w3.heap.size [z0, z1, z2, z3, z4, z5, z6, z7, z8, z9, z10] := by rw [hw4]; exact Sg.cells [z0, z1, z2, z3, z4, z5, z6, z7, z8, z9, z10] rfl
  have hgw3 : n + 1 ≤ w3.heap.size := hN
  replace hw4 := Lib.hid hw4
  go_upto_region 3 with (refine wp_stD rfl rfl (.tmp 2) (.tmp 11) rfl w3.heap.size rfl [z0, z1, z2, z3, z4, z5, z6, z7, z8, z9, z10] rfl rfl _ Sg rfl co ?_; rw [← hw4.out]; clear hw4)
  clear Sg
  have R3 := R3.go hP (by omega) Bw4
  have BB := BB.trans (Bw4.mono (by omega))
  have hN := Nat.le_trans hN Bw4.size
  obtain ⟨A1, c1, D1, d1, A2, c2, D2, d2, R, rc, b, off, lc, e, hPb, hlc, cx, cy, lx, ly, ox, Rx, Ry, kx, ky⟩ := pairD_view R3
  obtain ⟨y1, y2, y3, y4, y5, y6, y7, y8, y9, y10, rfl, -⟩ := Rx.head
  have e := congrArg Array.toList (Value.agg.inj e)
  simp only [List.cons.injEq, and_true] at e
  obtain ⟨rfl, -, -, -, -, -, -, -, -, -, rfl⟩ := e
  have k0 := S4.cell 0
  have k10 := S4.cell 10
  have kk := kx 0 _ rfl
  simp only [Nat.add_zero] at kk
  rw [show voidD.k = 10 from rfl] at kk
  go_wp2_with fail
  go_ret
  try rw [hn]
  exact ⟨rfl, BB⟩

theorem good_nil {d : Dat} (h : d.Good vU) (hk : d.k = 1) : d = nilD := by
  have hp := shape_parts h.shape
  exact Dat.ext hk (hp.2.2.2.2 (by omega) (by omega)) (hp.1 (by omega)).1 (hp.1 (by omega)).2 (hp.2.1 (by rw [hk]; decide)) (hp.2.2.1 (by omega)) (hp.2.2.2.1 (by omega) (by omega))
theorem list_view {d : Dat} (h : listE d = 0) : d.sound vU = true ∧ d = joinD (listL d) nilD := by
  unfold listE at h
  split at h
  · rename_i hs
    split at h
    · rename_i hk
      have h1 := (join_parts hs).1
      have h2 := (list_ok hs (by simpa using hk)).2
      have h3 := (join_good vU_nil).1 (h1 ▸ Dat.sound_good hs)
      refine ⟨hs, ?_⟩
      rw [h2, ← good_nil h3.2 hk]
      exact h1
    · cases h
  · cases h
theorem listL_back {d : Dat} (h : listE d = 0) : (joinD (listL d) nilD).sound vU = true := by
  obtain ⟨h1, h2⟩ := list_view h
  rw [← h2]; exact h1

end Go.Proofs.YtilhnjecnhpmlaaGreatDoor
