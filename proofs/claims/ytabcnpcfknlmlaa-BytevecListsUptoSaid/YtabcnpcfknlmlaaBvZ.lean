/- Walk: BytevecLists. -/
import Derived.Test.YtabcnpcfknlmlaaBvY
import Derived.Test.YtabcnpcfknlmlaaGS
import Derived.Test.YtabcnpcfknlmlaaGQ
import Derived.Test.YtabcnpcfknlmlaaGF
import Derived.Test.YtabcnpcfknlmlaaAnyZ
namespace Go.Proofs.Ytabcnpcfknlmlaa
open Go.RowKit

theorem listR_len (l : List UInt8) (size : Int) (big signed : Bool) : (listR l size big signed).length ≤ l.length := by
  unfold listR
  split
  · rw [listQ_len]; exact Nat.div_le_self _ _
  · simp
theorem list_back {l : List UInt8} {size : Int} (big signed : Bool) (h : listE l.length size = 0) (hl : l.length ≤ 65536) : ofR (listR l size big signed) size big signed = (l, 0) := by
  unfold listE at h
  split at h
  · rename_i hc
    have hc2 := hc
    unfold listC at hc2
    simp only [Bool.and_eq_true, decide_eq_true_eq] at hc2
    obtain ⟨s, rfl⟩ : ∃ s : Nat, size = s := ⟨size.toNat, by omega⟩
    rw [Int.toNat_natCast] at hc2
    have hlk : l.length = l.length / s * s := by
      have := Nat.div_add_mod l.length s
      rw [hc2.2.2, Nat.mul_comm] at this
      omega
    have hq : l.length / s ≤ 65536 / s := Nat.div_le_div_right hl
    unfold listR
    rw [hc, if_pos rfl, Int.toNat_natCast, ofR_eq (by omega) (by omega) (by rw [listQ_len]; omega)]
    exact ofA_list (by omega) (by omega) hlk
  · cases h
theorem alike_self (x : Rw × Rw) : alikeB x.1 x.2 x.1 x.2 = true := by
  unfold alikeB
  rw [fsB_iff.2 ⟨rfl, rfl, rfl⟩, fsB_iff.2 ⟨rfl, rfl, rfl⟩]; rfl
theorem range_nxu {w w2 : World} {g o : Nat} {cs : List Value} (h : w.rangeAt g o cs) (hb : Below w.heap.size w w2) (hg : g < w.heap.size) : w2.rangeAt g o cs := fun j u hj => (hb.cell (p := ⟨g, o + j, none⟩) hg).trans (h j u hj)
theorem infoNr : (Try.prog.info? 27).map (·.size) = some 6 := by kernel_rfl
set_option maxRecDepth 100000 in
set_option maxHeartbeats 16000000 in
theorem lists5_walk (A : Option Addr) (c : Nat) (l : List UInt8) (D : Option Addr) (d : Nat) (xs : List (Rw × Rw)) (size : Int) (big signed : Bool) (w : World) (hU : RB w w.heap.size A c l) (zl : l.length ≤ 1048576) (hX : NRd w (fun b => b < w.heap.size) D d xs) (zx : xs.length ≤ 1048576)
    (hs : -9223372036854775808 ≤ size ∧ size ≤ 9223372036854775807) :
    Calls Try.prog 6 #[.slice A l.length c, .slice D xs.length d, .int .i64 size, .bool big, .bool signed] w fun e w' => e = .returned (.bool true) ∧ Below w.heap.size w w' := by
  have l1 := list_any A c l size big signed w hU zl hs.1 hs.2
  have l2 := fun W (h : RB W W.heap.size A c l) => rlist_any A c l size big signed W h zl hs.1 hs.2
  have o1 := fun W (h : NRd W (fun b => b < W.heap.size) D d xs) => ofB_any D d xs size big signed W h zx
  have o2 := fun W (h : NRd W (fun b => b < W.heap.size) D d xs) => rofB_any D d xs size big signed W h zx
  have hyl := listR_len l size big signed
  have hbk := list_back (l := l) (size := size) big signed
  have o3 := fun W A' c' (h : NRd W (fun b => b < W.heap.size) A' c' (listR l size big signed)) => ofB_any A' c' _ size big signed W h (Nat.le_trans hyl zl)
  generalize listR l size big signed = ys at *
  generalize listE l.length size = e1 at *
  obtain ⟨ob, oe, hoe⟩ : ∃ ob oe, ofR xs size big signed = (ob, oe) := ⟨_, _, rfl⟩
  rw [hoe] at o1 o2
  clear hoe
  replace hbk := Lib.hid hbk
  replace hyl := Lib.hid hyl
  replace l2 := Lib.hid l2
  replace o1 := Lib.hid o1
  replace o2 := Lib.hid o2
  replace o3 := Lib.hid o3
  go_enter Try.func6, Try.ntmps6
  have BB := Below.refl w.heap.size w
  generalize hn : w.heap.size = n at *
  have hN : n ≤ w.heap.size := by omega
  go_wp2_with fail
  refine l1.mono ?_
  clear l1
  rintro e w1 ⟨A1, c1, rfl, R1, B1⟩
  have B1 : Below w.heap.size w w1 := by rw [hn]; exact B1
  have hU : RB w1 n A c l := RM.below hU (B1.mono hN)
  have hX := hX.step NE.steps (w' := w1) (P' := fun b => b < n) (fun b h => B1.block b (Nat.lt_of_lt_of_le h hN)) (fun b h => h)
  have BB := BB.trans (B1.mono hN)
  have hN := Nat.le_trans hN B1.size
  clear B1
  go_upto_region 2 with fail
  go_wp2_with fail
  refine (l2.out w1 (RM.more hU hN)).mono ?_
  clear l2
  rintro e w2 ⟨A2, c2, rfl, R2, B2⟩
  have hU : RB w2 n A c l := RM.below hU (B2.mono hN)
  have hX := hX.nx NE.steps (fun b h => Nat.lt_of_lt_of_le h hN) B2
  have R1 := R1.step NE.steps (w' := w2) (P' := fun b => b < w2.heap.size) (fun b h => B2.block b h) (fun b h => Nat.lt_of_lt_of_le h B2.size)
  have BB := BB.trans (B2.mono hN)
  have hN := Nat.le_trans hN B2.size
  clear B2
  go_upto_region 3 with fail
  go_wp2_with fail
  refine (o1.out w2 (hX.step NE.steps (fun _ _ => rfl) (fun b h => Nat.lt_of_lt_of_le h hN))).mono ?_
  clear o1
  rintro e w3 ⟨A3, c3, rfl, O3, B3⟩
  dsimp only at O3 ⊢
  have hU : RB w3 n A c l := RM.below hU (B3.mono hN)
  have hX := hX.nx NE.steps (fun b h => Nat.lt_of_lt_of_le h hN) B3
  have R1 := R1.step NE.steps (w' := w3) (P' := fun b => b < w3.heap.size) (fun b h => B3.block b h) (fun b h => Nat.lt_of_lt_of_le h B3.size)
  have R2 := R2.step NE.steps (w' := w3) (P' := fun b => b < w3.heap.size) (fun b h => B3.block b h) (fun b h => Nat.lt_of_lt_of_le h B3.size)
  have P3 := OM.rl O3
  have BB := BB.trans (B3.mono hN)
  have hN := Nat.le_trans hN B3.size
  clear B3 O3
  go_upto_region 4 with fail
  go_wp2_with fail
  refine (o2.out w3 (hX.step NE.steps (fun _ _ => rfl) (fun b h => Nat.lt_of_lt_of_le h hN))).mono ?_
  clear o2
  rintro e w4 ⟨A4, c4, rfl, O4, B4⟩
  dsimp only at O4 ⊢
  have hU : RB w4 n A c l := RM.below hU (B4.mono hN)
  have R1 := R1.step NE.steps (w' := w4) (P' := fun b => b < w4.heap.size) (fun b h => B4.block b h) (fun b h => Nat.lt_of_lt_of_le h B4.size)
  have R2 := R2.step NE.steps (w' := w4) (P' := fun b => b < w4.heap.size) (fun b h => B4.block b h) (fun b h => Nat.lt_of_lt_of_le h B4.size)
  have P3 : RB w4 w4.heap.size A3 c3 ob := RM.step P3 B4 B4.size
  have P4 := OM.rl O4
  have BB := BB.trans (B4.mono hN)
  have hN := Nat.le_trans hN B4.size
  clear B4 O4 hX
  go_upto_region 5 with fail
  go_wp2_with fail
  refine (awake5_any w4).mono ?_
  rintro e w5 ⟨rfl, B5⟩
  have hU : RB w5 n A c l := RM.below hU (B5.mono hN)
  have R1 := R1.step NE.steps (w' := w5) (P' := fun b => b < w5.heap.size) (fun b h => B5.block b h) (fun b h => Nat.lt_of_lt_of_le h B5.size)
  have R2 := R2.step NE.steps (w' := w5) (P' := fun b => b < w5.heap.size) (fun b h => B5.block b h) (fun b h => Nat.lt_of_lt_of_le h B5.size)
  have P3 : RB w5 w5.heap.size A3 c3 ob := RM.step P3 B5 B5.size
  have P4 : RB w5 w5.heap.size A4 c4 ob := RM.step P4 B5 B5.size
  have BB := BB.trans (B5.mono hN)
  have hN := Nat.le_trans hN B5.size
  clear B5
  have hsb := rsameB_any A3 A4 c3 c4 ob.length ob.length ob ob w5 rfl rfl P3 P4
  rw [decide_eq_true (rfl : ob = ob)] at hsb
  clear P3 P4
  go_wp2_with fail
  refine hsb.mono ?_
  clear hsb
  rintro e w6 ⟨rfl, nq, rfl⟩
  have Bq : Below w5.heap.size w5 (w5.drewN nq) := bdN (Below.refl _ _) nq
  have hU : RB (w5.drewN nq) n A c l := RM.below hU (Bq.mono hN)
  have R1 := R1.step NE.steps (w' := w5.drewN nq) (P' := fun b => b < (w5.drewN nq).heap.size) (fun b h => Bq.block b h) (fun b h => Nat.lt_of_lt_of_le h Bq.size)
  have R2 := R2.step NE.steps (w' := w5.drewN nq) (P' := fun b => b < (w5.drewN nq).heap.size) (fun b h => Bq.block b h) (fun b h => Nat.lt_of_lt_of_le h Bq.size)
  have BB := BB.trans (Bq.mono hN)
  have hN := Nat.le_trans hN Bq.size
  clear Bq
  generalize w5.drewN nq = w6 at *
  generalize hm : w6.heap.size = m at *
  have hM : m ≤ w6.heap.size := by omega
  have hNm : n ≤ m := by omega
  go_upto_region 8 with fail
  go_loopg [19] ys.length (fun gk s19 wx => ∃ i : Nat, s19 = .int .i64 (i : Int) ∧ i + gk = ys.length ∧ NRd wx (fun b => b < m) A1 c1 ys ∧ NRd wx (fun b => b < m) A2 c2 ys ∧ RB wx n A c l ∧ Below n w wx ∧ m ≤ wx.heap.size)
  case atStart => exact ⟨0, rfl, by omega, R1, R2, hU, BB, hM⟩
  case round =>
    clear R1 R2 hU BB hM hm
    obtain ⟨i, rfl, hgk, R1, R2, hU, BB, hM⟩ := hrel
    by_cases hi : i < ys.length
    · have hiz : (i : Int) < (ys.length : Int) := by omega
      obtain ⟨b, off, rfl, hPb, cs, _, _, hcc, hE⟩ := R1.at_ hi
      obtain ⟨b2, off2, rfl, hPb2, cs2, _, _, hcc2, hE2⟩ := R2.at_ hi
      obtain ⟨x, hx⟩ : ∃ x, ys[i] = x := ⟨_, rfl⟩
      rw [hx] at hE hE2
      clear hx
      have hV := hE.vn (B := m) (fun b h => h)
      have hV2 := hE2.vn (B := m) (fun b h => h)
      obtain ⟨A3, c3, D3, d3, A4, c4, D4, d4, rfl, -⟩ := hE2
      obtain ⟨A1, c1', D1, d1, A2, c2', D2, d2, rfl, -⟩ := hE
      go_upto_region 10 with fail
      have Dw := (Below.refl wr.heap.size wr).drew
      have R1 := R1.nx NE.steps (fun b h => Nat.lt_of_lt_of_le h hM) Dw
      have R2 := R2.nx NE.steps (fun b h => Nat.lt_of_lt_of_le h hM) Dw
      have hV := hV.step (Dw.mono hM) (Nat.le_refl m)
      have hV2 := hV2.step (Dw.mono hM) (Nat.le_refl m)
      have hU : RB wr.drew n A c l := RM.below hU (Dw.mono (Nat.le_trans hNm hM))
      have BB := BB.trans (Dw.mono (Nat.le_trans hNm hM))
      have hcc := range_nxu hcc Dw (Nat.lt_of_lt_of_le hPb hM)
      have hcc2 := range_nxu hcc2 Dw (Nat.lt_of_lt_of_le hPb2 hM)
      have hM := Nat.le_trans hM Dw.size
      clear Dw
      refine AnyW.regionQ (fun _ => false) 10 (fun w' => w'.rangeAt b (off + i * 6) [.bool x.1.s, .slice A1 x.1.a.length c1', .slice D1 x.1.b.length d1, .bool x.2.s, .slice A2 x.2.a.length c2', .slice D2 x.2.b.length d2] ∧ w'.rangeAt b2 (off2 + i * 6) [.bool x.1.s, .slice A3 x.1.a.length c3, .slice D3 x.1.b.length d3, .bool x.2.s, .slice A4 x.2.a.length c4, .slice D4 x.2.b.length d4]) rfl (by kernel_rfl) (by kernel_rfl) (by (repeat (with_reducible (first | refine quiet_then ?_ | refine quiet_block ?_))); exact quiet_body) ⟨hcc, hcc2⟩ (fun Q' hQK hq hns hHeld => ?_)
      generalize wr.drew = w9 at *
      refine AnyW.nextT (i := 0) (v := ?_) hq hns (.inr hHeld) rfl rfl (by kernel_rfl) (Or.inl ⟨by rfl, ?_⟩) ?_
      rotate_left
      · intro w' _; go_simp <;> with_reducible rfl
      try simp only [List.setIfInBounds_toArray, List.set_cons_zero, List.set_cons_succ]
      refine AnyW.nextT (i := 1) (v := ?_) hq hns (.inr hHeld) rfl rfl (by kernel_rfl) (Or.inl ⟨by rfl, ?_⟩) ?_
      rotate_left
      · intro w' _; go_simp <;> with_reducible rfl
      try simp only [List.setIfInBounds_toArray, List.set_cons_zero, List.set_cons_succ]
      refine AnyW.nextT (i := 2) (v := ?_) hq hns (.inr hHeld) rfl rfl (by kernel_rfl) (Or.inl ⟨by rfl, ?_⟩) ?_
      rotate_left
      · intro w' _; go_simp <;> with_reducible rfl
      try simp only [List.setIfInBounds_toArray, List.set_cons_zero, List.set_cons_succ]
      refine AnyW.next (i := 3) (v := .agg [.bool x.1.s, .slice A1 x.1.a.length c1', .slice D1 x.1.b.length d1, .bool x.2.s, .slice A2 x.2.a.length c2', .slice D2 x.2.b.length d2].toArray) hq hns hHeld rfl rfl (by kernel_rfl) (yieldsIf_load_mid (by rfl) 27 (.tmp 86) rfl b (off + i * 6) rfl [.bool x.1.s, .slice A1 x.1.a.length c1', .slice D1 x.1.b.length d1, .bool x.2.s, .slice A2 x.2.a.length c2', .slice D2 x.2.b.length d2] _ (fun w' h => h.1) Try.underlying27 rfl (infoNr.trans (by rfl))) ?_
      try simp only [List.setIfInBounds_toArray, List.set_cons_zero, List.set_cons_succ]
      refine AnyW.nextT (i := 4) (v := ?_) hq hns (.inr hHeld) rfl rfl (by kernel_rfl) (Or.inl ⟨by rfl, ?_⟩) ?_
      rotate_left
      · intro w' _; go_simp <;> with_reducible rfl
      try simp only [List.setIfInBounds_toArray, List.set_cons_zero, List.set_cons_succ]
      refine AnyW.nextT (i := 5) (v := ?_) hq hns (.inr hHeld) rfl rfl (by kernel_rfl) (Or.inl ⟨by rfl, ?_⟩) ?_
      rotate_left
      · intro w' _; go_simp <;> with_reducible rfl
      try simp only [List.setIfInBounds_toArray, List.set_cons_zero, List.set_cons_succ]
      refine AnyW.nextT (i := 6) (v := ?_) hq hns (.inr hHeld) rfl rfl (by kernel_rfl) (Or.inl ⟨by rfl, ?_⟩) ?_
      rotate_left
      · intro w' _; go_simp <;> with_reducible rfl
      try simp only [List.setIfInBounds_toArray, List.set_cons_zero, List.set_cons_succ]
      refine AnyW.next (i := 7) (v := .agg [.bool x.1.s, .slice A3 x.1.a.length c3, .slice D3 x.1.b.length d3, .bool x.2.s, .slice A4 x.2.a.length c4, .slice D4 x.2.b.length d4].toArray) hq hns hHeld rfl rfl (by kernel_rfl) (yieldsIf_load_mid (by rfl) 27 (.tmp 90) rfl b2 (off2 + i * 6) rfl [.bool x.1.s, .slice A3 x.1.a.length c3, .slice D3 x.1.b.length d3, .bool x.2.s, .slice A4 x.2.a.length c4, .slice D4 x.2.b.length d4] _ (fun w' h => h.2) Try.underlying27 rfl (infoNr.trans (by rfl))) ?_
      try simp only [List.setIfInBounds_toArray, List.set_cons_zero, List.set_cons_succ]
      refine AnyW.one 8 (by kernel_rfl) rfl (fun K' hK => ?_)
      go_simp
      have hal := alike_any _ _ x.1 x.2 x.1 x.2 w9 (hV.step (Below.refl _ _) hM) (hV2.step (Below.refl _ _) hM)
      rw [alike_self] at hal
      refine hal.mono ?_
      clear hal
      rintro e w7 ⟨rfl, B7⟩
      go_wp2_with fail
      have R1 := R1.nx NE.steps (fun b h => Nat.lt_of_lt_of_le h hM) B7
      have R2 := R2.nx NE.steps (fun b h => Nat.lt_of_lt_of_le h hM) B7
      have hU : RB w7 n A c l := RM.below hU (B7.mono (Nat.le_trans hNm hM))
      have BB := BB.trans (B7.mono (Nat.le_trans hNm hM))
      have hcc := range_nxu hcc B7 (Nat.lt_of_lt_of_le hPb hM)
      have hcc2 := range_nxu hcc2 B7 (Nat.lt_of_lt_of_le hPb2 hM)
      have hM := Nat.le_trans hM B7.size
      refine hK.out _ _ (.inr ⟨hcc, hcc2⟩) (fun hG => ?_)
      have hHeld := hG.resolve_left (notGone.spec (by rfl))
      clear hK K' hG
      try simp only [List.setIfInBounds_toArray, List.set_cons_zero, List.set_cons_succ]
      refine AnyW.nextT (i := 9) (v := ?_) hq hns (.inr hHeld) rfl rfl (by kernel_rfl) (Or.inl ⟨by rfl, ?_⟩) ?_
      rotate_left
      · intro w' _; go_simp <;> with_reducible rfl
      try simp only [List.setIfInBounds_toArray, List.set_cons_zero, List.set_cons_succ]
      refine AnyW.done (by kernel_rfl) (hQK.out _ _ ?_)
      clear hQK hq hns hHeld hV hV2
      go_upto_region 9 with fail
      have hzi : IntKind.i64.wrap ((i : Int) + 1) = (i : Int) + 1 := IntWalk.i64_in _ (by have := hyl.out; omega)
      go_wp2_with fail
      go_roundg (ys.length - (i + 1))
      case measure => omega
      case rel => exact ⟨i + 1, by simp, by omega, R1, R2, hU, BB, hM⟩
    · have hiz : ¬ (i : Int) < (ys.length : Int) := by omega
      by_cases he : e1 = 0
      · subst he
        by_cases hl : l.length ≤ 65536
        · have hlz : ¬ (65536 : Int) < (l.length : Int) := by omega
          have hr := hbk.out rfl hl
          have ho := o3.out wr A1 c1 (R1.step NE.steps (fun _ _ => rfl) (fun b h => Nat.lt_of_lt_of_le h hM))
          rw [hr] at ho
          clear hr hbk o3 R1 R2 hyl
          go_upto_region 14 with fail
          go_wp2_with fail
          refine ho.mono ?_
          clear ho
          rintro e w7 ⟨A5, c5, rfl, O5, B5⟩
          dsimp only at O5 ⊢
          have hU : RB w7 n A c l := RM.below hU (B5.mono (Nat.le_trans hNm hM))
          have BB := BB.trans (B5.mono (Nat.le_trans hNm hM))
          have P5 := OM.rl O5
          have hn7 : n ≤ w7.heap.size := Nat.le_trans (Nat.le_trans hNm hM) B5.size
          have hsb := rsameB_any A5 A c5 c l.length l.length l l w7 rfl rfl P5 (RM.more hU hn7)
          rw [decide_eq_true (rfl : l = l)] at hsb
          go_wp2_with fail
          refine hsb.mono ?_
          rintro e w8 ⟨rfl, nq, rfl⟩
          go_wp2_with fail
          go_ret
          try rw [hn]
          exact ⟨by first | rfl | simp, BB.trans (bdN (Below.refl _ _) nq)⟩
        · have hlz : (65536 : Int) < (l.length : Int) := by omega
          go_wp2_with fail
          go_ret
          try rw [hn]
          exact ⟨rfl, BB⟩
      · have hez : (e1 != 0) = true := by simpa using he
        go_wp2_with fail
        go_ret
        try rw [hn]
        exact ⟨rfl, BB⟩

end Go.Proofs.Ytabcnpcfknlmlaa
