/- Merged texts: SrtC, SrtD. -/
import Derived.Test.YtilhnjecnhpmlaaDoorGU
namespace Go.Proofs.YtilhnjecnhpmlaaDoor
open Go.RowKit

set_option maxRecDepth 100000 in
set_option maxHeartbeats 16000000 in
theorem symone_any (fc : Nat) (cmp : Dat → Dat → Int) (G : Dat → Prop) (eg : ∀ args w, (callFunc fc args).run Tryd.prog w = .ok (.enter fc args) w) (hC : CmpAt fc cmp G) (g c : Nat) (l : List Dat) (_hl : l.length ≤ c) (hbig : l.length ≤ 10000) (hG : ∀ s, s < l.length → G (l.getD s nilD)) (hq : TOrd (qOf cmp l)) (P : Nat → Prop) (hP : ∀ b, P b → b < g) (σ : Nat → Nat) (a m b : Nat) (w : World) (M : RowS w P g l σ) (hgw : g < w.heap.size) (hp : PermS l.length σ) (hab : a < m ∧ m < b ∧ b ≤ l.length) (hm : m = a + 1) (hS : SymP (qOf cmp l) σ a m b) :
    Calls Tryd.prog 83 #[.slice (some ⟨g, 0, none⟩) l.length c, .int .i64 (a : Int), .int .i64 (m : Int), .int .i64 (b : Int), .func (.func fc) #[] #[]] w fun e w' => e = .returned (.tuple #[]) ∧ (∃ τ, RowS w' P g l τ ∧ PermS l.length τ ∧ SymQ (qOf cmp l) σ τ a b) ∧ Far g w w' ∧ g < w'.heap.size := by
  have hq := Lib.hid hq
  have hp := Lib.hid hp
  have hS := Lib.hid hS
  have hz1 : IntKind.i64.wrap ((m : Int) - (a : Int)) = 1 := (IntWalk.i64_in _ (by omega)).trans (by omega)
  replace hm := Lib.hid hm
  go_enter Tryd.func83, Tryd.ntmps83
  go_upto_region 3 with fail
  clear hz1
  have BB := Far.refl g w
  have hN : g ≤ w.heap.size := Nat.le_of_lt hgw
  go_loopg [10, 11] (b - m) (fun gk s10 s11 wx => ∃ i j : Nat, s10 = .int .i64 (i : Int) ∧ s11 = .int .i64 (j : Int) ∧ i + gk = j ∧ m ≤ i ∧ j ≤ b ∧ RowS wx P g l σ ∧ Far g w wx ∧ g < wx.heap.size ∧ (∀ x, m ≤ x → x < i → tlt (qOf cmp l) (σ x) (σ a)) ∧ (∀ x, j ≤ x → x < b → tlt (qOf cmp l) (σ a) (σ x)))
  case atStart => exact ⟨m, b, rfl, rfl, by omega, by omega, by omega, M, BB, hgw, fun x h1 h2 => by omega, fun x h1 h2 => by omega⟩
  case round =>
    clear M BB hgw hN
    obtain ⟨i, j, rfl, rfl, hgk, hmi, hjb, M, BB, hgw, hlo, hhi⟩ := hrel
    replace hlo := Lib.hid hlo
    replace hhi := Lib.hid hhi
    by_cases hij : i < j
    · have hijz : (i : Int) < (j : Int) := by omega
      go_upto_region 5 with fail
      obtain ⟨h, hh⟩ : ∃ h, (i + j) / 2 = h := ⟨_, rfl⟩
      have hhz : ((i : Int) + (j : Int)) / 2 = (h : Int) := by omega
      have hh1 : i ≤ h ∧ h < j := by omega
      rw [hhz]
      clear hh hhz
      obtain ⟨cx, lx, ox, sx, rx⟩ := M.at_ (i := a) (by omega)
      obtain ⟨cy, ly, oy, sy, ry⟩ := M.at_ (i := h) (by omega)
      match cx, lx, ox, cy, ly, oy with
      | [x0, x1, x2, x3, x4, x5, x6, x7, x8, x9, x10], _, ox, [y0, y1, y2, y3, y4, y5, y6, y7, y8, y9, y10], _, oy =>
      have rgx := sx.range
      have rgy := sy.range
      clear sx sy
      have gi := hG (σ (h)) (hp.out.lt (by omega))
      have gj := hG (σ (a)) (hp.out.lt (by omega))
      obtain ⟨di, hdi⟩ : ∃ d, l.getD (σ (h)) nilD = d := ⟨_, rfl⟩
      obtain ⟨dj, hdj⟩ : ∃ d, l.getD (σ (a)) nilD = d := ⟨_, rfl⟩
      obtain ⟨z, hz⟩ : ∃ z, qOf cmp l (σ (h)) (σ (a)) = z := ⟨_, rfl⟩
      have hz2 : cmp di dj = z := by rw [← hz]; unfold qOf; rw [hdi, hdj]
      rw [hdi] at ry gi
      rw [hdj] at rx gj
      have hil : h < l.length := by omega
      have hjl : a < l.length := by omega
      replace hz := Lib.hid hz
      replace hz2 := Lib.hid hz2
      clear hdi hdj
      go_upto_region 5 with fail
      have hN : g ≤ wr.heap.size := Nat.le_of_lt hgw
      have Dw := (Below.refl wr.heap.size wr).drew
      have M := M.keep hP hgw Dw
      have rx := rx.keep (fun b hb => by have := hP b hb; omega) Dw
      have ry := ry.keep (fun b hb => by have := hP b hb; omega) Dw
      have rgx := range_nx rgx Dw hgw
      have rgy := range_nx rgy Dw hgw
      have BB := BB.nx Dw (by omega)
      have hN := Nat.le_trans hN Dw.size
      have hgw := Nat.lt_of_lt_of_le hgw Dw.size
      clear Dw
      refine AnyW.regionQ (fun _ => false) 11 (fun w' => w'.rangeAt g (h * 11) [y0, y1, y2, y3, y4, y5, y6, y7, y8, y9, y10] ∧ w'.rangeAt g (a * 11) [x0, x1, x2, x3, x4, x5, x6, x7, x8, x9, x10]) rfl (by kernel_rfl) (by kernel_rfl) (by (repeat (with_reducible (first | refine quiet_then ?_ | refine quiet_block ?_))); exact quiet_body) ⟨rgy, rgx⟩ (fun Q' hQK hq' hns hHeld => ?_)
      generalize wr.drew = w9 at *
      refine AnyW.nextT (i := 0) (v := ?_) hq' hns (.inr hHeld) rfl rfl (by kernel_rfl) (Or.inl ⟨by rfl, ?_⟩) ?_
      rotate_left
      · intro w' _; go_simp <;> with_reducible rfl
      try simp only [List.setIfInBounds_toArray, List.set_cons_zero, List.set_cons_succ]
      refine AnyW.nextT (i := 1) (v := ?_) hq' hns (.inr hHeld) rfl rfl (by kernel_rfl) (Or.inl ⟨by rfl, ?_⟩) ?_
      rotate_left
      · intro w' _; go_simp <;> with_reducible rfl
      try simp only [List.setIfInBounds_toArray, List.set_cons_zero, List.set_cons_succ]
      refine AnyW.nextT (i := 2) (v := ?_) hq' hns (.inr hHeld) rfl rfl (by kernel_rfl) (Or.inl ⟨by rfl, ?_⟩) ?_
      rotate_left
      · intro w' _; go_simp <;> with_reducible rfl
      try simp only [List.setIfInBounds_toArray, List.set_cons_zero, List.set_cons_succ]
      refine AnyW.nextT (i := 3) (v := ?_) hq' hns (.inr hHeld) rfl rfl (by kernel_rfl) (Or.inl ⟨by rfl, ?_⟩) ?_
      rotate_left
      · intro w' _; go_simp <;> with_reducible rfl
      try simp only [List.setIfInBounds_toArray, List.set_cons_zero, List.set_cons_succ]
      refine AnyW.next (i := 4) (v := .agg [y0, y1, y2, y3, y4, y5, y6, y7, y8, y9, y10].toArray) hq' hns hHeld rfl rfl (by kernel_rfl) (yieldsIf_load_mid (by rfl) 31 (.tmp 43) rfl g (h * 11) rfl [y0, y1, y2, y3, y4, y5, y6, y7, y8, y9, y10] _ (fun w' h => h.1) Tryd.underlying31 rfl (infoD.trans (by rfl))) ?_
      try simp only [List.setIfInBounds_toArray, List.set_cons_zero, List.set_cons_succ]
      refine AnyW.nextT (i := 5) (v := ?_) hq' hns (.inr hHeld) rfl rfl (by kernel_rfl) (Or.inl ⟨by rfl, ?_⟩) ?_
      rotate_left
      · intro w' _; go_simp <;> with_reducible rfl
      try simp only [List.setIfInBounds_toArray, List.set_cons_zero, List.set_cons_succ]
      refine AnyW.nextT (i := 6) (v := ?_) hq' hns (.inr hHeld) rfl rfl (by kernel_rfl) (Or.inl ⟨by rfl, ?_⟩) ?_
      rotate_left
      · intro w' _; go_simp <;> with_reducible rfl
      try simp only [List.setIfInBounds_toArray, List.set_cons_zero, List.set_cons_succ]
      refine AnyW.nextT (i := 7) (v := ?_) hq' hns (.inr hHeld) rfl rfl (by kernel_rfl) (Or.inl ⟨by rfl, ?_⟩) ?_
      rotate_left
      · intro w' _; go_simp <;> with_reducible rfl
      try simp only [List.setIfInBounds_toArray, List.set_cons_zero, List.set_cons_succ]
      refine AnyW.next (i := 8) (v := .agg [x0, x1, x2, x3, x4, x5, x6, x7, x8, x9, x10].toArray) hq' hns hHeld rfl rfl (by kernel_rfl) (yieldsIf_load_mid (by rfl) 31 (.tmp 47) rfl g (a * 11) rfl [x0, x1, x2, x3, x4, x5, x6, x7, x8, x9, x10] _ (fun w' h => h.2) Tryd.underlying31 rfl (infoD.trans (by rfl))) ?_
      try simp only [List.setIfInBounds_toArray, List.set_cons_zero, List.set_cons_succ]
      refine AnyW.one 9 (by kernel_rfl) rfl (fun K' hK => ?_)
      go_simp
      refine (hC _ _ _ _ w9 P (fun b hb => by have := hP b hb; omega) gi gj ry rx).mono ?_
      rintro e w5 ⟨rfl, B5⟩
      rw [hz2.out]
      go_wp2_with fail
      have M := M.keep hP hgw B5
      have rgx := range_nx rgx B5 hgw
      have rgy := range_nx rgy B5 hgw
      have BB := BB.nx B5 (by omega)
      have hgw := Nat.lt_of_lt_of_le hgw B5.size
      refine hK.out _ _ (.inr ⟨rgy, rgx⟩) (fun hG' => ?_)
      have hHeld := hG'.resolve_left (notGone.spec (by rfl))
      clear hK K' hG' rgx rgy B5 rx ry gi gj hz2
      try simp only [List.setIfInBounds_toArray, List.set_cons_zero, List.set_cons_succ]
      refine AnyW.nextT (i := 10) (v := ?_) hq' hns (.inr hHeld) rfl rfl (by kernel_rfl) (Or.inl ⟨by rfl, ?_⟩) ?_
      rotate_left
      · intro w' _; go_simp <;> with_reducible rfl
      try simp only [List.setIfInBounds_toArray, List.set_cons_zero, List.set_cons_succ]
      refine AnyW.done (by kernel_rfl) (hQK.out _ _ ?_)
      clear hQK hq' hns hHeld
      by_cases hz0 : z < 0
      · have hlt : tlt (qOf cmp l) (σ h) (σ a) := tlt_less (by rw [hz.out]; exact hz0)
        have hlo2 : ∀ x, m ≤ x → x < h + 1 → tlt (qOf cmp l) (σ x) (σ a) := fun x h1 h2 => by
          by_cases e : x = h
          · rw [e]; exact hlt
          · exact (hS.out.right x h h1 (by omega) (by omega)).trans hq.out hlt
        replace hlo2 := Lib.hid hlo2
        clear hlt hz
        go_upto_region 3 with fail
        go_roundg (j - (h + 1))
        case measure => omega
        case rel => exact ⟨h + 1, j, by simp, rfl, by omega, by omega, hjb, M, BB, hgw, hlo2.out, hhi.out⟩
      · have hlt : tlt (qOf cmp l) (σ a) (σ h) := tlt_keep hq.out (by rw [hz.out]; exact hz0) (hS.out.tags a h (Nat.le_refl _) (by omega) (by omega) (by omega))
        have hhi2 : ∀ x, h ≤ x → x < b → tlt (qOf cmp l) (σ a) (σ x) := fun x h1 h2 => by
          by_cases e : x = h
          · rw [e]; exact hlt
          · exact hlt.trans hq.out (hS.out.right h x (by omega) (by omega) h2)
        replace hhi2 := Lib.hid hhi2
        clear hlt hz
        go_upto_region 3 with fail
        go_roundg (h - i)
        case measure => omega
        case rel => exact ⟨i, h, rfl, rfl, by omega, hmi, by omega, M, BB, hgw, hlo.out, hhi2.out⟩
    · have hijz : ¬ (i : Int) < (j : Int) := by omega
      obtain rfl : i = j := by omega
      have hI := hlo.out
      have hJ := hhi.out
      have hp0 := hp.out
      obtain ⟨i1, hi1⟩ : ∃ i1, i = i1 + 1 := ⟨i - 1, by have := hm.out; omega⟩
      have hib : i ≤ 10000 := by omega
      have hzi : IntKind.i64.wrap ((i : Int) - 1) = (i1 : Int) := (IntWalk.i64_in _ (by omega)).trans (by omega)
      have hai1 : a ≤ i1 := by have := hm.out; omega
      have hi1b : i1 ≤ 10000 := by omega
      replace hi1 := Lib.hid hi1
      go_upto_region 9 with fail
      clear hijz
      obtain ⟨wo, hwo⟩ : ∃ wo, wo = wr := ⟨_, rfl⟩
      subst hwo
      go_loopg [13] (i1 - a) (fun gk2 s13 wx => ∃ (k : Nat) (ρ : Nat → Nat), s13 = .int .i64 (k : Int) ∧ k + gk2 = i1 ∧ a ≤ k ∧ PermS l.length ρ ∧ RowS wx P g l ρ ∧ Far g w wx ∧ g < wx.heap.size ∧ (∀ x, a ≤ x → x < k → ρ x = σ (x + 1)) ∧ ρ k = σ a ∧ (∀ x, x < a ∨ k < x → ρ x = σ x))
      case atStart => exact ⟨a, σ, rfl, by omega, Nat.le_refl _, hp0, M, BB, hgw, fun x h1 h2 => by omega, rfl, fun _ _ => rfl⟩
      case round =>
        clear M BB hgw hlo hhi hp hp0
        obtain ⟨k, ρ, rfl, hgk2, hak, hp, M, BB, hgw, e1, e2, e3⟩ := hrel
        replace hp := Lib.hid hp
        replace e1 := Lib.hid e1
        replace e2 := Lib.hid e2
        replace e3 := Lib.hid e3
        by_cases hk : k < i1
        · have hkz : (k : Int) < (i1 : Int) := by omega
          obtain ⟨y, hy⟩ : ∃ y, k + 1 = y := ⟨_, rfl⟩
          have hzy : IntKind.i64.wrap ((k : Int) + 1) = (y : Int) := (IntWalk.i64_in _ (by omega)).trans (by omega)
          have hyl : y < l.length := by have := hi1.out; omega
          have hkl : k < l.length := by omega
          replace hy := Lib.hid hy
          replace hI := Lib.hid hI
          replace hJ := Lib.hid hJ
          go_upto_region 11 with fail
          have hN : g ≤ wr.heap.size := Nat.le_of_lt hgw
          have hq0 := hq
          clear hq
          obtain ⟨cx, lx, ox, sx, rx⟩ := M.at_ (i := y) (by omega)
          obtain ⟨cy, ly, oy, sy, ry⟩ := M.at_ (i := k) (by omega)
          match cx, lx, ox, cy, ly, oy with
          | [x0, x1, x2, x3, x4, x5, x6, x7, x8, x9, x10], _, ox, [y0, y1, y2, y3, y4, y5, y6, y7, y8, y9, y10], _, oy =>
          have rgx := sx.range
          have rgy := sy.range
          have thi := sy.there rfl
          have thj := sx.there rfl
          have Dw := (Below.refl wr.heap.size wr).drew
          have M := M.keep hP hgw Dw
          have rx := rx.keep (fun b hb => by have := hP b hb; omega) Dw
          have ry := ry.keep (fun b hb => by have := hP b hb; omega) Dw
          have rgx := range_nx rgx Dw hgw
          have rgy := range_nx rgy Dw hgw
          have thi := there_nx thi Dw hgw
          have thj := there_nx thj Dw hgw
          have BB := BB.nx Dw (by omega)
          have hN := Nat.le_trans hN Dw.size
          have hgw : g < wr.drew.heap.size := Nat.lt_of_lt_of_le hgw Dw.size
          clear Dw sx sy
          refine AnyW.regionQ (fun j => j == 15 || j == 17) 18 (fun w' => w'.rangeAt g (y * 11) [x0, x1, x2, x3, x4, x5, x6, x7, x8, x9, x10] ∧ w'.rangeAt g (k * 11) [y0, y1, y2, y3, y4, y5, y6, y7, y8, y9, y10]) rfl (by kernel_rfl) (by kernel_rfl) (by (repeat (with_reducible (first | refine quiet_then ?_ | refine quiet_block ?_))); exact quiet_body) ⟨rgx, rgy⟩ (fun Q' hQK hq hns hHeld => ?_)
          generalize wr.drew = w4 at *
          clear rgx rgy
          refine AnyW.nextT (i := 0) (v := ?_) hq hns (.inr hHeld) rfl rfl (by kernel_rfl) (Or.inl ⟨by rfl, ?_⟩) ?_
          rotate_left
          · intro w' _; go_simp <;> with_reducible rfl
          try simp only [List.setIfInBounds_toArray, List.set_cons_zero, List.set_cons_succ]
          refine AnyW.nextT (i := 1) (v := ?_) hq hns (.inr hHeld) rfl rfl (by kernel_rfl) (Or.inl ⟨by rfl, ?_⟩) ?_
          rotate_left
          · intro w' _; go_simp <;> with_reducible rfl
          try simp only [List.setIfInBounds_toArray, List.set_cons_zero, List.set_cons_succ]
          refine AnyW.nextT (i := 2) (v := ?_) hq hns (.inr hHeld) rfl rfl (by kernel_rfl) (Or.inl ⟨by rfl, ?_⟩) ?_
          rotate_left
          · intro w' _; go_simp <;> with_reducible rfl
          try simp only [List.setIfInBounds_toArray, List.set_cons_zero, List.set_cons_succ]
          refine AnyW.nextT (i := 3) (v := ?_) hq hns (.inr hHeld) rfl rfl (by kernel_rfl) (Or.inl ⟨by rfl, ?_⟩) ?_
          rotate_left
          · intro w' _; go_simp <;> with_reducible rfl
          try simp only [List.setIfInBounds_toArray, List.set_cons_zero, List.set_cons_succ]
          refine AnyW.nextT (i := 4) (v := ?_) hq hns (.inr hHeld) rfl rfl (by kernel_rfl) (Or.inl ⟨by rfl, ?_⟩) ?_
          rotate_left
          · intro w' _; go_simp <;> with_reducible rfl
          try simp only [List.setIfInBounds_toArray, List.set_cons_zero, List.set_cons_succ]
          refine AnyW.nextT (i := 5) (v := ?_) hq hns (.inr hHeld) rfl rfl (by kernel_rfl) (Or.inl ⟨by rfl, ?_⟩) ?_
          rotate_left
          · intro w' _; go_simp <;> with_reducible rfl
          try simp only [List.setIfInBounds_toArray, List.set_cons_zero, List.set_cons_succ]
          refine AnyW.nextT (i := 6) (v := ?_) hq hns (.inr hHeld) rfl rfl (by kernel_rfl) (Or.inl ⟨by rfl, ?_⟩) ?_
          rotate_left
          · intro w' _; go_simp <;> with_reducible rfl
          try simp only [List.setIfInBounds_toArray, List.set_cons_zero, List.set_cons_succ]
          refine AnyW.nextT (i := 7) (v := ?_) hq hns (.inr hHeld) rfl rfl (by kernel_rfl) (Or.inl ⟨by rfl, ?_⟩) ?_
          rotate_left
          · intro w' _; go_simp <;> with_reducible rfl
          try simp only [List.setIfInBounds_toArray, List.set_cons_zero, List.set_cons_succ]
          refine AnyW.nextT (i := 8) (v := ?_) hq hns (.inr hHeld) rfl rfl (by kernel_rfl) (Or.inl ⟨by rfl, ?_⟩) ?_
          rotate_left
          · intro w' _; go_simp <;> with_reducible rfl
          try simp only [List.setIfInBounds_toArray, List.set_cons_zero, List.set_cons_succ]
          refine AnyW.next (i := 9) (v := .agg [x0, x1, x2, x3, x4, x5, x6, x7, x8, x9, x10].toArray) hq hns hHeld rfl rfl (by kernel_rfl) (yieldsIf_load_mid (by rfl) 31 (.tmp 69) rfl g (y * 11) rfl [x0, x1, x2, x3, x4, x5, x6, x7, x8, x9, x10] _ (fun w' h => h.1) Tryd.underlying31 rfl (infoD.trans (by rfl))) ?_
          try simp only [List.setIfInBounds_toArray, List.set_cons_zero, List.set_cons_succ]
          refine AnyW.nextT (i := 10) (v := ?_) hq hns (.inr hHeld) rfl rfl (by kernel_rfl) (Or.inl ⟨by rfl, ?_⟩) ?_
          rotate_left
          · intro w' _; go_simp <;> with_reducible rfl
          try simp only [List.setIfInBounds_toArray, List.set_cons_zero, List.set_cons_succ]
          refine AnyW.nextT (i := 11) (v := ?_) hq hns (.inr hHeld) rfl rfl (by kernel_rfl) (Or.inl ⟨by rfl, ?_⟩) ?_
          rotate_left
          · intro w' _; go_simp <;> with_reducible rfl
          try simp only [List.setIfInBounds_toArray, List.set_cons_zero, List.set_cons_succ]
          refine AnyW.nextT (i := 12) (v := ?_) hq hns (.inr hHeld) rfl rfl (by kernel_rfl) (Or.inl ⟨by rfl, ?_⟩) ?_
          rotate_left
          · intro w' _; go_simp <;> with_reducible rfl
          try simp only [List.setIfInBounds_toArray, List.set_cons_zero, List.set_cons_succ]
          refine AnyW.next (i := 13) (v := .agg [y0, y1, y2, y3, y4, y5, y6, y7, y8, y9, y10].toArray) hq hns hHeld rfl rfl (by kernel_rfl) (yieldsIf_load_mid (by rfl) 31 (.tmp 73) rfl g (k * 11) rfl [y0, y1, y2, y3, y4, y5, y6, y7, y8, y9, y10] _ (fun w' h => h.2) Tryd.underlying31 rfl (infoD.trans (by rfl))) ?_
          try simp only [List.setIfInBounds_toArray, List.set_cons_zero, List.set_cons_succ]
          refine AnyW.nextT (i := 14) (v := ?_) hq hns (.inr hHeld) rfl rfl (by kernel_rfl) (Or.inl ⟨by rfl, ?_⟩) ?_
          rotate_left
          · intro w' _; go_simp <;> with_reducible rfl
          try simp only [List.setIfInBounds_toArray, List.set_cons_zero, List.set_cons_succ]
          refine AnyW.one 15 (by kernel_rfl) rfl (fun K' hK => ?_)
          refine step_stDo rfl rfl (.tmp 75) (.tmp 70) rfl g (k * 11) rfl [x0, x1, x2, x3, x4, x5, x6, x7, x8, x9, x10] rfl rfl thi ox ?_
          refine hK.out _ _ (.inl ⟨15, rfl, rfl⟩) (fun _ => ?_)
          clear hK K'
          try simp only [List.setIfInBounds_toArray, List.set_cons_zero, List.set_cons_succ]
          refine AnyW.nextT (i := 16) (v := ?_) hq hns (.inl ⟨15, rfl, rfl⟩) rfl rfl (by kernel_rfl) (Or.inl ⟨by rfl, ?_⟩) ?_
          rotate_left
          · intro w' _; go_simp <;> with_reducible rfl
          try simp only [List.setIfInBounds_toArray, List.set_cons_zero, List.set_cons_succ]
          refine AnyW.one 17 (by kernel_rfl) rfl (fun K' hK => ?_)
          refine step_stDo rfl rfl (.tmp 76) (.tmp 74) rfl g (y * 11) rfl [y0, y1, y2, y3, y4, y5, y6, y7, y8, y9, y10] rfl rfl (there_sc thj _ _) oy ?_
          refine hK.out _ _ (.inl ⟨17, rfl, rfl⟩) (fun _ => ?_)
          clear hK K'
          try simp only [List.setIfInBounds_toArray, List.set_cons_zero, List.set_cons_succ]
          refine AnyW.done (by kernel_rfl) (hQK.out _ _ ?_)
          clear hQK hq hns hHeld thi thj
          have M := M.swap hP hgw (i := k) (j := y) (by omega) (by omega) rfl rfl rx ry
          have BB := (BB.sc (k * 11) [x0, x1, x2, x3, x4, x5, x6, x7, x8, x9, x10]).sc (y * 11) [y0, y1, y2, y3, y4, y5, y6, y7, y8, y9, y10]
          have hgw : g < ((w4.setCells g (k * 11) [x0, x1, x2, x3, x4, x5, x6, x7, x8, x9, x10]).setCells g (y * 11) [y0, y1, y2, y3, y4, y5, y6, y7, y8, y9, y10]).heap.size := by rw [size_sc, size_sc]; exact hgw
          clear rx ry
          have hq := hq0
          clear hq0
          generalize (w4.setCells g (k * 11) [x0, x1, x2, x3, x4, x5, x6, x7, x8, x9, x10]).setCells g (y * 11) [y0, y1, y2, y3, y4, y5, y6, y7, y8, y9, y10] = w6 at *
          have hps := hp.out.swp hkl hyl
          have f1 : ∀ x, a ≤ x → x < y → swp ρ k y x = σ (x + 1) := fun x h1 h2 => by
            have hyk := hy.out
            by_cases e : x = k
            · rw [e, swp_l, e3.out y (by omega), hyk]
            · rw [swp_o ρ e (by omega)]; exact e1.out x h1 (by omega)
          have f2 : swp ρ k y y = σ a := by rw [swp_r]; exact e2.out
          have f3 : ∀ x, x < a ∨ y < x → swp ρ k y x = σ x := fun x hx => by
            have hyk := hy.out
            rw [swp_o ρ (by omega) (by omega)]; exact e3.out x (by omega)
          replace hps := Lib.hid hps
          replace f1 := Lib.hid f1
          replace f2 := Lib.hid f2
          replace f3 := Lib.hid f3
          generalize swp ρ k y = ρ2 at *
          go_upto_region 9 with fail
          go_roundg (i1 - y)
          case measure => have := hy.out; omega
          case rel => exact ⟨y, ρ2, by first | rfl | simp, by have := hy.out; omega, by have := hy.out; omega, hps.out, M, BB, hgw, f1.out, f2.out, f3.out⟩
        · have hkz : ¬ (k : Int) < (i1 : Int) := by omega
          obtain rfl : k = i1 := by omega
          have hfin : SymQ (qOf cmp l) σ ρ a b := by
            have hm := hm.out
            have hi := hi1.out
            subst hm
            exact sym_one hq.out (i := i) hS.out ⟨hmi, hjb⟩ hI hJ (fun x h1 h2 => e1.out x h1 (by omega)) (by rw [show i - 1 = k by omega]; exact e2.out) (fun x hx => e3.out x (by omega))
          replace hfin := Lib.hid hfin
          go_wp2_with fail
          refine bodyPost_ret (v := .tuple #[]) (by simp [results, go_sem]) rfl ?_
          exact ⟨rfl, ⟨ρ, M, hp.out, hfin.out⟩, BB, hgw⟩

set_option maxRecDepth 100000 in
set_option maxHeartbeats 16000000 in
theorem symlast_any (fc : Nat) (cmp : Dat → Dat → Int) (G : Dat → Prop) (eg : ∀ args w, (callFunc fc args).run Tryd.prog w = .ok (.enter fc args) w) (hC : CmpAt fc cmp G) (g c : Nat) (l : List Dat) (_hl : l.length ≤ c) (hbig : l.length ≤ 10000) (hG : ∀ s, s < l.length → G (l.getD s nilD)) (hq : TOrd (qOf cmp l)) (P : Nat → Prop) (hP : ∀ b, P b → b < g) (σ : Nat → Nat) (a m b : Nat) (w : World) (M : RowS w P g l σ) (hgw : g < w.heap.size) (hp : PermS l.length σ) (hab : a < m ∧ m < b ∧ b ≤ l.length) (hm1 : ¬ m = a + 1) (hm : b = m + 1) (hS : SymP (qOf cmp l) σ a m b) :
    Calls Tryd.prog 83 #[.slice (some ⟨g, 0, none⟩) l.length c, .int .i64 (a : Int), .int .i64 (m : Int), .int .i64 (b : Int), .func (.func fc) #[] #[]] w fun e w' => e = .returned (.tuple #[]) ∧ (∃ τ, RowS w' P g l τ ∧ PermS l.length τ ∧ SymQ (qOf cmp l) σ τ a b) ∧ Far g w w' ∧ g < w'.heap.size := by
  have hq := Lib.hid hq
  have hp := Lib.hid hp
  have hS := Lib.hid hS
  have hz0 : IntKind.i64.wrap ((m : Int) - (a : Int)) = (m : Int) - (a : Int) := IntWalk.i64_in _ (by omega)
  have hz2 : ((m : Int) - (a : Int) == 1) = false := by
    have : ¬ (m : Int) - (a : Int) = 1 := by omega
    simpa using this
  have hz1 : IntKind.i64.wrap ((b : Int) - (m : Int)) = 1 := (IntWalk.i64_in _ (by omega)).trans (by omega)
  replace hm := Lib.hid hm
  go_enter Tryd.func83, Tryd.ntmps83
  go_upto_region 15 with fail
  clear hz1 hz0 hz2
  have BB := Far.refl g w
  go_loopg [14, 15] (m - a) (fun gk s14 s15 wx => ∃ i j : Nat, s14 = .int .i64 (i : Int) ∧ s15 = .int .i64 (j : Int) ∧ i + gk = j ∧ a ≤ i ∧ j ≤ m ∧ RowS wx P g l σ ∧ Far g w wx ∧ g < wx.heap.size ∧ (∀ x, a ≤ x → x < i → tlt (qOf cmp l) (σ x) (σ m)) ∧ (∀ x, j ≤ x → x < m → tlt (qOf cmp l) (σ m) (σ x)))
  case atStart => exact ⟨a, m, rfl, rfl, by omega, by omega, by omega, M, BB, hgw, fun x h1 h2 => by omega, fun x h1 h2 => by omega⟩
  case round =>
    clear M BB hgw
    obtain ⟨i, j, rfl, rfl, hgk, hmi, hjb, M, BB, hgw, hlo, hhi⟩ := hrel
    replace hlo := Lib.hid hlo
    replace hhi := Lib.hid hhi
    by_cases hij : i < j
    · have hijz : (i : Int) < (j : Int) := by omega
      go_upto_region 17 with fail
      obtain ⟨h, hh⟩ : ∃ h, (i + j) / 2 = h := ⟨_, rfl⟩
      have hhz : ((i : Int) + (j : Int)) / 2 = (h : Int) := by omega
      have hh1 : i ≤ h ∧ h < j := by omega
      rw [hhz]
      clear hh hhz
      obtain ⟨cx, lx, ox, sx, rx⟩ := M.at_ (i := h) (by omega)
      obtain ⟨cy, ly, oy, sy, ry⟩ := M.at_ (i := m) (by omega)
      match cx, lx, ox, cy, ly, oy with
      | [x0, x1, x2, x3, x4, x5, x6, x7, x8, x9, x10], _, ox, [y0, y1, y2, y3, y4, y5, y6, y7, y8, y9, y10], _, oy =>
      have rgx := sx.range
      have rgy := sy.range
      clear sx sy
      have gi := hG (σ (m)) (hp.out.lt (by omega))
      have gj := hG (σ (h)) (hp.out.lt (by omega))
      obtain ⟨di, hdi⟩ : ∃ d, l.getD (σ (m)) nilD = d := ⟨_, rfl⟩
      obtain ⟨dj, hdj⟩ : ∃ d, l.getD (σ (h)) nilD = d := ⟨_, rfl⟩
      obtain ⟨z, hz⟩ : ∃ z, qOf cmp l (σ (m)) (σ (h)) = z := ⟨_, rfl⟩
      have hz2 : cmp di dj = z := by rw [← hz]; unfold qOf; rw [hdi, hdj]
      rw [hdi] at ry gi
      rw [hdj] at rx gj
      have hil : m < l.length := by omega
      have hjl : h < l.length := by omega
      replace hz := Lib.hid hz
      replace hz2 := Lib.hid hz2
      clear hdi hdj
      go_upto_region 17 with fail
      have hN : g ≤ wr.heap.size := Nat.le_of_lt hgw
      have Dw := (Below.refl wr.heap.size wr).drew
      have M := M.keep hP hgw Dw
      have rx := rx.keep (fun b hb => by have := hP b hb; omega) Dw
      have ry := ry.keep (fun b hb => by have := hP b hb; omega) Dw
      have rgx := range_nx rgx Dw hgw
      have rgy := range_nx rgy Dw hgw
      have BB := BB.nx Dw (by omega)
      have hN := Nat.le_trans hN Dw.size
      have hgw := Nat.lt_of_lt_of_le hgw Dw.size
      clear Dw
      refine AnyW.regionQ (fun _ => false) 12 (fun w' => w'.rangeAt g (m * 11) [y0, y1, y2, y3, y4, y5, y6, y7, y8, y9, y10] ∧ w'.rangeAt g (h * 11) [x0, x1, x2, x3, x4, x5, x6, x7, x8, x9, x10]) rfl (by kernel_rfl) (by kernel_rfl) (by (repeat (with_reducible (first | refine quiet_then ?_ | refine quiet_block ?_))); exact quiet_body) ⟨rgy, rgx⟩ (fun Q' hQK hq' hns hHeld => ?_)
      generalize wr.drew = w9 at *
      refine AnyW.nextT (i := 0) (v := ?_) hq' hns (.inr hHeld) rfl rfl (by kernel_rfl) (Or.inl ⟨by rfl, ?_⟩) ?_
      rotate_left
      · intro w' _; go_simp <;> with_reducible rfl
      try simp only [List.setIfInBounds_toArray, List.set_cons_zero, List.set_cons_succ]
      refine AnyW.nextT (i := 1) (v := ?_) hq' hns (.inr hHeld) rfl rfl (by kernel_rfl) (Or.inl ⟨by rfl, ?_⟩) ?_
      rotate_left
      · intro w' _; go_simp <;> with_reducible rfl
      try simp only [List.setIfInBounds_toArray, List.set_cons_zero, List.set_cons_succ]
      refine AnyW.nextT (i := 2) (v := ?_) hq' hns (.inr hHeld) rfl rfl (by kernel_rfl) (Or.inl ⟨by rfl, ?_⟩) ?_
      rotate_left
      · intro w' _; go_simp <;> with_reducible rfl
      try simp only [List.setIfInBounds_toArray, List.set_cons_zero, List.set_cons_succ]
      refine AnyW.nextT (i := 3) (v := ?_) hq' hns (.inr hHeld) rfl rfl (by kernel_rfl) (Or.inl ⟨by rfl, ?_⟩) ?_
      rotate_left
      · intro w' _; go_simp <;> with_reducible rfl
      try simp only [List.setIfInBounds_toArray, List.set_cons_zero, List.set_cons_succ]
      refine AnyW.next (i := 4) (v := .agg [y0, y1, y2, y3, y4, y5, y6, y7, y8, y9, y10].toArray) hq' hns hHeld rfl rfl (by kernel_rfl) (yieldsIf_load_mid (by rfl) 31 (.tmp 95) rfl g (m * 11) rfl [y0, y1, y2, y3, y4, y5, y6, y7, y8, y9, y10] _ (fun w' h => h.1) Tryd.underlying31 rfl (infoD.trans (by rfl))) ?_
      try simp only [List.setIfInBounds_toArray, List.set_cons_zero, List.set_cons_succ]
      refine AnyW.nextT (i := 5) (v := ?_) hq' hns (.inr hHeld) rfl rfl (by kernel_rfl) (Or.inl ⟨by rfl, ?_⟩) ?_
      rotate_left
      · intro w' _; go_simp <;> with_reducible rfl
      try simp only [List.setIfInBounds_toArray, List.set_cons_zero, List.set_cons_succ]
      refine AnyW.nextT (i := 6) (v := ?_) hq' hns (.inr hHeld) rfl rfl (by kernel_rfl) (Or.inl ⟨by rfl, ?_⟩) ?_
      rotate_left
      · intro w' _; go_simp <;> with_reducible rfl
      try simp only [List.setIfInBounds_toArray, List.set_cons_zero, List.set_cons_succ]
      refine AnyW.nextT (i := 7) (v := ?_) hq' hns (.inr hHeld) rfl rfl (by kernel_rfl) (Or.inl ⟨by rfl, ?_⟩) ?_
      rotate_left
      · intro w' _; go_simp <;> with_reducible rfl
      try simp only [List.setIfInBounds_toArray, List.set_cons_zero, List.set_cons_succ]
      refine AnyW.next (i := 8) (v := .agg [x0, x1, x2, x3, x4, x5, x6, x7, x8, x9, x10].toArray) hq' hns hHeld rfl rfl (by kernel_rfl) (yieldsIf_load_mid (by rfl) 31 (.tmp 99) rfl g (h * 11) rfl [x0, x1, x2, x3, x4, x5, x6, x7, x8, x9, x10] _ (fun w' h => h.2) Tryd.underlying31 rfl (infoD.trans (by rfl))) ?_
      try simp only [List.setIfInBounds_toArray, List.set_cons_zero, List.set_cons_succ]
      refine AnyW.one 9 (by kernel_rfl) rfl (fun K' hK => ?_)
      go_simp
      refine (hC _ _ _ _ w9 P (fun b hb => by have := hP b hb; omega) gi gj ry rx).mono ?_
      rintro e w5 ⟨rfl, B5⟩
      rw [hz2.out]
      go_wp2_with fail
      have M := M.keep hP hgw B5
      have rgx := range_nx rgx B5 hgw
      have rgy := range_nx rgy B5 hgw
      have BB := BB.nx B5 (by omega)
      have hgw := Nat.lt_of_lt_of_le hgw B5.size
      refine hK.out _ _ (.inr ⟨rgy, rgx⟩) (fun hG' => ?_)
      have hHeld := hG'.resolve_left (notGone.spec (by rfl))
      clear hK K' hG' rgx rgy B5 rx ry gi gj hz2
      try simp only [List.setIfInBounds_toArray, List.set_cons_zero, List.set_cons_succ]
      refine AnyW.nextT (i := 10) (v := ?_) hq' hns (.inr hHeld) rfl rfl (by kernel_rfl) (Or.inl ⟨by rfl, ?_⟩) ?_
      rotate_left
      · intro w' _; go_simp <;> with_reducible rfl
      try simp only [List.setIfInBounds_toArray, List.set_cons_zero, List.set_cons_succ]
      refine AnyW.nextT (i := 11) (v := ?_) hq' hns (.inr hHeld) rfl rfl (by kernel_rfl) (Or.inl ⟨by rfl, ?_⟩) ?_
      rotate_left
      · intro w' _; go_simp <;> with_reducible rfl
      try simp only [List.setIfInBounds_toArray, List.set_cons_zero, List.set_cons_succ]
      refine AnyW.done (by kernel_rfl) (hQK.out _ _ ?_)
      clear hQK hq' hns hHeld
      obtain ⟨bb, hbb⟩ : ∃ bb, (!decide (z < 0)) = bb := ⟨_, rfl⟩
      rw [hbb]
      by_cases hz0 : z < 0
      · obtain rfl : bb = false := by rw [← hbb]; simpa using hz0
        clear hbb
        have hlt : tlt (qOf cmp l) (σ m) (σ h) := tlt_less (by rw [hz.out]; exact hz0)
        have hhi2 : ∀ x, h ≤ x → x < m → tlt (qOf cmp l) (σ m) (σ x) := fun x h1 h2 => by
          by_cases e : x = h
          · rw [e]; exact hlt
          · exact hlt.trans hq.out (hS.out.left h x (by omega) (by omega) h2)
        replace hhi2 := Lib.hid hhi2
        clear hlt hz
        go_upto_region 15 with fail
        go_roundg (h - i)
        case measure => omega
        case rel => exact ⟨i, h, rfl, rfl, by omega, hmi, by omega, M, BB, hgw, hlo.out, hhi2.out⟩
      · obtain rfl : bb = true := by rw [← hbb]; simpa using hz0
        clear hbb
        have hlt : tlt (qOf cmp l) (σ h) (σ m) := tlt_keep hq.out (by rw [hz.out]; exact hz0) (hS.out.tags h m (by omega) (by omega) (Nat.le_refl _) (by omega))
        have hlo2 : ∀ x, a ≤ x → x < h + 1 → tlt (qOf cmp l) (σ x) (σ m) := fun x h1 h2 => by
          by_cases e : x = h
          · rw [e]; exact hlt
          · exact (hS.out.left x h h1 (by omega) (by omega)).trans hq.out hlt
        replace hlo2 := Lib.hid hlo2
        clear hlt hz
        go_upto_region 15 with fail
        go_roundg (j - (h + 1))
        case measure => omega
        case rel => exact ⟨h + 1, j, by simp, rfl, by omega, by omega, hjb, M, BB, hgw, hlo2.out, hhi.out⟩
    · have hijz : ¬ (i : Int) < (j : Int) := by omega
      obtain rfl : i = j := by omega
      have hI := hlo.out
      have hJ := hhi.out
      have hp0 := hp.out
      have hml : m < l.length := by omega
      go_upto_region 21 with fail
      clear hijz
      obtain ⟨wo, hwo⟩ : ∃ wo, wo = wr := ⟨_, rfl⟩
      subst hwo
      go_loopg [17] (m - i) (fun gk2 s17 wx => ∃ (k : Nat) (ρ : Nat → Nat), s17 = .int .i64 (k : Int) ∧ i + gk2 = k ∧ k ≤ m ∧ PermS l.length ρ ∧ RowS wx P g l ρ ∧ Far g w wx ∧ g < wx.heap.size ∧ (∀ x, k < x → x ≤ m → ρ x = σ (x - 1)) ∧ ρ k = σ m ∧ (∀ x, x < k ∨ m < x → ρ x = σ x))
      case atStart => exact ⟨m, σ, rfl, by omega, Nat.le_refl _, hp0, M, BB, hgw, fun x h1 h2 => by omega, rfl, fun _ _ => rfl⟩
      case round =>
        clear M BB hgw hlo hhi hp hp0
        obtain ⟨k, ρ, rfl, hgk2, hkm, hp, M, BB, hgw, e1, e2, e3⟩ := hrel
        replace hp := Lib.hid hp
        replace e1 := Lib.hid e1
        replace e2 := Lib.hid e2
        replace e3 := Lib.hid e3
        by_cases hk : i < k
        · have hkz : (i : Int) < (k : Int) := by omega
          obtain ⟨y, hy⟩ : ∃ y, k = y + 1 := ⟨k - 1, by omega⟩
          have hzy : IntKind.i64.wrap ((k : Int) - 1) = (y : Int) := (IntWalk.i64_in _ (by omega)).trans (by omega)
          have hyl : y < l.length := by omega
          have hkl : k < l.length := by omega
          replace hy := Lib.hid hy
          replace hI := Lib.hid hI
          replace hJ := Lib.hid hJ
          go_upto_region 23 with fail
          have hN : g ≤ wr.heap.size := Nat.le_of_lt hgw
          have hq0 := hq
          clear hq
          obtain ⟨cx, lx, ox, sx, rx⟩ := M.at_ (i := y) (by omega)
          obtain ⟨cy, ly, oy, sy, ry⟩ := M.at_ (i := k) (by omega)
          match cx, lx, ox, cy, ly, oy with
          | [x0, x1, x2, x3, x4, x5, x6, x7, x8, x9, x10], _, ox, [y0, y1, y2, y3, y4, y5, y6, y7, y8, y9, y10], _, oy =>
          have rgx := sx.range
          have rgy := sy.range
          have thi := sy.there rfl
          have thj := sx.there rfl
          have Dw := (Below.refl wr.heap.size wr).drew
          have M := M.keep hP hgw Dw
          have rx := rx.keep (fun b hb => by have := hP b hb; omega) Dw
          have ry := ry.keep (fun b hb => by have := hP b hb; omega) Dw
          have rgx := range_nx rgx Dw hgw
          have rgy := range_nx rgy Dw hgw
          have thi := there_nx thi Dw hgw
          have thj := there_nx thj Dw hgw
          have BB := BB.nx Dw (by omega)
          have hN := Nat.le_trans hN Dw.size
          have hgw : g < wr.drew.heap.size := Nat.lt_of_lt_of_le hgw Dw.size
          clear Dw sx sy
          refine AnyW.regionQ (fun j => j == 15 || j == 17) 18 (fun w' => w'.rangeAt g (y * 11) [x0, x1, x2, x3, x4, x5, x6, x7, x8, x9, x10] ∧ w'.rangeAt g (k * 11) [y0, y1, y2, y3, y4, y5, y6, y7, y8, y9, y10]) rfl (by kernel_rfl) (by kernel_rfl) (by (repeat (with_reducible (first | refine quiet_then ?_ | refine quiet_block ?_))); exact quiet_body) ⟨rgx, rgy⟩ (fun Q' hQK hq hns hHeld => ?_)
          generalize wr.drew = w4 at *
          clear rgx rgy
          refine AnyW.nextT (i := 0) (v := ?_) hq hns (.inr hHeld) rfl rfl (by kernel_rfl) (Or.inl ⟨by rfl, ?_⟩) ?_
          rotate_left
          · intro w' _; go_simp <;> with_reducible rfl
          try simp only [List.setIfInBounds_toArray, List.set_cons_zero, List.set_cons_succ]
          refine AnyW.nextT (i := 1) (v := ?_) hq hns (.inr hHeld) rfl rfl (by kernel_rfl) (Or.inl ⟨by rfl, ?_⟩) ?_
          rotate_left
          · intro w' _; go_simp <;> with_reducible rfl
          try simp only [List.setIfInBounds_toArray, List.set_cons_zero, List.set_cons_succ]
          refine AnyW.nextT (i := 2) (v := ?_) hq hns (.inr hHeld) rfl rfl (by kernel_rfl) (Or.inl ⟨by rfl, ?_⟩) ?_
          rotate_left
          · intro w' _; go_simp <;> with_reducible rfl
          try simp only [List.setIfInBounds_toArray, List.set_cons_zero, List.set_cons_succ]
          refine AnyW.nextT (i := 3) (v := ?_) hq hns (.inr hHeld) rfl rfl (by kernel_rfl) (Or.inl ⟨by rfl, ?_⟩) ?_
          rotate_left
          · intro w' _; go_simp <;> with_reducible rfl
          try simp only [List.setIfInBounds_toArray, List.set_cons_zero, List.set_cons_succ]
          refine AnyW.nextT (i := 4) (v := ?_) hq hns (.inr hHeld) rfl rfl (by kernel_rfl) (Or.inl ⟨by rfl, ?_⟩) ?_
          rotate_left
          · intro w' _; go_simp <;> with_reducible rfl
          try simp only [List.setIfInBounds_toArray, List.set_cons_zero, List.set_cons_succ]
          refine AnyW.nextT (i := 5) (v := ?_) hq hns (.inr hHeld) rfl rfl (by kernel_rfl) (Or.inl ⟨by rfl, ?_⟩) ?_
          rotate_left
          · intro w' _; go_simp <;> with_reducible rfl
          try simp only [List.setIfInBounds_toArray, List.set_cons_zero, List.set_cons_succ]
          refine AnyW.nextT (i := 6) (v := ?_) hq hns (.inr hHeld) rfl rfl (by kernel_rfl) (Or.inl ⟨by rfl, ?_⟩) ?_
          rotate_left
          · intro w' _; go_simp <;> with_reducible rfl
          try simp only [List.setIfInBounds_toArray, List.set_cons_zero, List.set_cons_succ]
          refine AnyW.nextT (i := 7) (v := ?_) hq hns (.inr hHeld) rfl rfl (by kernel_rfl) (Or.inl ⟨by rfl, ?_⟩) ?_
          rotate_left
          · intro w' _; go_simp <;> with_reducible rfl
          try simp only [List.setIfInBounds_toArray, List.set_cons_zero, List.set_cons_succ]
          refine AnyW.nextT (i := 8) (v := ?_) hq hns (.inr hHeld) rfl rfl (by kernel_rfl) (Or.inl ⟨by rfl, ?_⟩) ?_
          rotate_left
          · intro w' _; go_simp <;> with_reducible rfl
          try simp only [List.setIfInBounds_toArray, List.set_cons_zero, List.set_cons_succ]
          refine AnyW.next (i := 9) (v := .agg [x0, x1, x2, x3, x4, x5, x6, x7, x8, x9, x10].toArray) hq hns hHeld rfl rfl (by kernel_rfl) (yieldsIf_load_mid (by rfl) 31 (.tmp 121) rfl g (y * 11) rfl [x0, x1, x2, x3, x4, x5, x6, x7, x8, x9, x10] _ (fun w' h => h.1) Tryd.underlying31 rfl (infoD.trans (by rfl))) ?_
          try simp only [List.setIfInBounds_toArray, List.set_cons_zero, List.set_cons_succ]
          refine AnyW.nextT (i := 10) (v := ?_) hq hns (.inr hHeld) rfl rfl (by kernel_rfl) (Or.inl ⟨by rfl, ?_⟩) ?_
          rotate_left
          · intro w' _; go_simp <;> with_reducible rfl
          try simp only [List.setIfInBounds_toArray, List.set_cons_zero, List.set_cons_succ]
          refine AnyW.nextT (i := 11) (v := ?_) hq hns (.inr hHeld) rfl rfl (by kernel_rfl) (Or.inl ⟨by rfl, ?_⟩) ?_
          rotate_left
          · intro w' _; go_simp <;> with_reducible rfl
          try simp only [List.setIfInBounds_toArray, List.set_cons_zero, List.set_cons_succ]
          refine AnyW.nextT (i := 12) (v := ?_) hq hns (.inr hHeld) rfl rfl (by kernel_rfl) (Or.inl ⟨by rfl, ?_⟩) ?_
          rotate_left
          · intro w' _; go_simp <;> with_reducible rfl
          try simp only [List.setIfInBounds_toArray, List.set_cons_zero, List.set_cons_succ]
          refine AnyW.next (i := 13) (v := .agg [y0, y1, y2, y3, y4, y5, y6, y7, y8, y9, y10].toArray) hq hns hHeld rfl rfl (by kernel_rfl) (yieldsIf_load_mid (by rfl) 31 (.tmp 125) rfl g (k * 11) rfl [y0, y1, y2, y3, y4, y5, y6, y7, y8, y9, y10] _ (fun w' h => h.2) Tryd.underlying31 rfl (infoD.trans (by rfl))) ?_
          try simp only [List.setIfInBounds_toArray, List.set_cons_zero, List.set_cons_succ]
          refine AnyW.nextT (i := 14) (v := ?_) hq hns (.inr hHeld) rfl rfl (by kernel_rfl) (Or.inl ⟨by rfl, ?_⟩) ?_
          rotate_left
          · intro w' _; go_simp <;> with_reducible rfl
          try simp only [List.setIfInBounds_toArray, List.set_cons_zero, List.set_cons_succ]
          refine AnyW.one 15 (by kernel_rfl) rfl (fun K' hK => ?_)
          refine step_stDo rfl rfl (.tmp 127) (.tmp 122) rfl g (k * 11) rfl [x0, x1, x2, x3, x4, x5, x6, x7, x8, x9, x10] rfl rfl thi ox ?_
          refine hK.out _ _ (.inl ⟨15, rfl, rfl⟩) (fun _ => ?_)
          clear hK K'
          try simp only [List.setIfInBounds_toArray, List.set_cons_zero, List.set_cons_succ]
          refine AnyW.nextT (i := 16) (v := ?_) hq hns (.inl ⟨15, rfl, rfl⟩) rfl rfl (by kernel_rfl) (Or.inl ⟨by rfl, ?_⟩) ?_
          rotate_left
          · intro w' _; go_simp <;> with_reducible rfl
          try simp only [List.setIfInBounds_toArray, List.set_cons_zero, List.set_cons_succ]
          refine AnyW.one 17 (by kernel_rfl) rfl (fun K' hK => ?_)
          refine step_stDo rfl rfl (.tmp 128) (.tmp 126) rfl g (y * 11) rfl [y0, y1, y2, y3, y4, y5, y6, y7, y8, y9, y10] rfl rfl (there_sc thj _ _) oy ?_
          refine hK.out _ _ (.inl ⟨17, rfl, rfl⟩) (fun _ => ?_)
          clear hK K'
          try simp only [List.setIfInBounds_toArray, List.set_cons_zero, List.set_cons_succ]
          refine AnyW.done (by kernel_rfl) (hQK.out _ _ ?_)
          clear hQK hq hns hHeld thi thj
          have M := M.swap hP hgw (i := k) (j := y) (by omega) (by omega) rfl rfl rx ry
          have BB := (BB.sc (k * 11) [x0, x1, x2, x3, x4, x5, x6, x7, x8, x9, x10]).sc (y * 11) [y0, y1, y2, y3, y4, y5, y6, y7, y8, y9, y10]
          have hgw : g < ((w4.setCells g (k * 11) [x0, x1, x2, x3, x4, x5, x6, x7, x8, x9, x10]).setCells g (y * 11) [y0, y1, y2, y3, y4, y5, y6, y7, y8, y9, y10]).heap.size := by rw [size_sc, size_sc]; exact hgw
          clear rx ry
          have hq := hq0
          clear hq0
          generalize (w4.setCells g (k * 11) [x0, x1, x2, x3, x4, x5, x6, x7, x8, x9, x10]).setCells g (y * 11) [y0, y1, y2, y3, y4, y5, y6, y7, y8, y9, y10] = w6 at *
          have hps := hp.out.swp hkl hyl
          have f1 : ∀ x, y < x → x ≤ m → swp ρ k y x = σ (x - 1) := fun x h1 h2 => by
            have hyk := hy.out
            by_cases e : x = k
            · rw [e, swp_l, e3.out y (by omega)]; congr 1; omega
            · rw [swp_o ρ e (by omega)]; exact e1.out x (by omega) h2
          have f2 : swp ρ k y y = σ m := by rw [swp_r]; exact e2.out
          have f3 : ∀ x, x < y ∨ m < x → swp ρ k y x = σ x := fun x hx => by
            have hyk := hy.out
            rw [swp_o ρ (by omega) (by omega)]; exact e3.out x (by omega)
          replace hps := Lib.hid hps
          replace f1 := Lib.hid f1
          replace f2 := Lib.hid f2
          replace f3 := Lib.hid f3
          generalize swp ρ k y = ρ2 at *
          go_upto_region 21 with fail
          go_roundg (y - i)
          case measure => have := hy.out; omega
          case rel => exact ⟨y, ρ2, by first | rfl | simp, by have := hy.out; omega, by have := hy.out; omega, hps.out, M, BB, hgw, f1.out, f2.out, f3.out⟩
        · have hkz : ¬ (i : Int) < (k : Int) := by omega
          obtain rfl : i = k := by omega
          have hfin : SymQ (qOf cmp l) σ ρ a b := by
            have hm := hm.out
            subst hm
            exact sym_last hq.out (i := i) hS.out ⟨hmi, hjb⟩ hI hJ e1.out e2.out e3.out
          replace hfin := Lib.hid hfin
          go_wp2_with fail
          refine bodyPost_ret (v := .tuple #[]) (by simp [results, go_sem]) rfl ?_
          exact ⟨rfl, ⟨ρ, M, hp.out, hfin.out⟩, BB, hgw⟩

end Go.Proofs.YtilhnjecnhpmlaaDoor
namespace Go.Proofs.YtilhnjecnhpmlaaDoor
open Go.RowKit

theorem rot_triv {σ : Nat → Nat} {a m b : Nat} (h : ¬ (a < m ∧ m < b)) (h1 : a ≤ m ∧ m ≤ b) : rot σ a m b = σ := funext fun k => by
  unfold rot
  by_cases c1 : a ≤ k ∧ k < a + (b - m)
  · rw [if_pos c1]; congr 1; omega
  · rw [if_neg c1]
    by_cases c2 : a + (b - m) ≤ k ∧ k < b
    · rw [if_pos c2]; congr 1; omega
    · rw [if_neg c2]
/-- the search's end is a cut -/
theorem cut_of {q : Nat → Nat → Int} {σ : Nat → Nat} {a m b mid s0 r0 st : Nat} (hq : TOrd q) (h : SymP q σ a m b) (hmid : (a + b) / 2 = mid) (hab : a < m ∧ m < b) (hs : (mid < m ∧ s0 = mid + m - b ∧ r0 = mid) ∨ (m ≤ mid ∧ s0 = a ∧ r0 = m)) (hst : s0 ≤ st ∧ st ≤ r0)
    (hlo : ∀ x, s0 ≤ x → x < st → tlt q (σ x) (σ (mid + m - 1 - x))) (hhi : ∀ x, st ≤ x → x < r0 → tlt q (σ (mid + m - 1 - x)) (σ x)) : Cut q σ a m b mid st := by
  refine ⟨by omega, by omega, fun x y h1 h2 h3 h4 => ?_, fun x y h1 h2 h3 h4 => ?_⟩
  · have h5 := hlo (st - 1) (by omega) (by omega)
    have h6 : tlt q (σ x) (σ (mid + m - 1 - (st - 1))) := by
      by_cases e : x = st - 1
      · rw [e]; exact h5
      · exact (h.left x (st - 1) h1 (by omega) (by omega)).trans hq h5
    by_cases e : y = mid + m - 1 - (st - 1)
    · rw [e]; exact h6
    · exact h6.trans hq (h.right _ y (by omega) (by omega) h4)
  · have h5 := hhi st (Nat.le_refl _) (by omega)
    have h6 : tlt q (σ y) (σ st) := by
      by_cases e : y = mid + m - 1 - st
      · rw [e]; exact h5
      · exact (h.right y (mid + m - 1 - st) h3 (by omega) (by omega)).trans hq h5
    by_cases e : x = st
    · rw [e]; exact h6
    · exact h6.trans hq (h.left st x (by omega) (by omega) h2)
set_option maxRecDepth 100000 in
set_option maxHeartbeats 32000000 in
theorem sym_any (fc : Nat) (cmp : Dat → Dat → Int) (G : Dat → Prop) (eg : ∀ args w, (callFunc fc args).run Tryd.prog w = .ok (.enter fc args) w) (hC : CmpAt fc cmp G) (g c : Nat) (l : List Dat) (hl : l.length ≤ c) (hbig : l.length ≤ 10000) (hG : ∀ s, s < l.length → G (l.getD s nilD)) (hq : TOrd (qOf cmp l)) (P : Nat → Prop) (hP : ∀ b, P b → b < g) (N : Nat) : ∀ (σ : Nat → Nat) (a m b : Nat) (w : World), b - a ≤ N → RowS w P g l σ → g < w.heap.size → PermS l.length σ → (a < m ∧ m < b ∧ b ≤ l.length) → SymP (qOf cmp l) σ a m b →
    Calls Tryd.prog 83 #[.slice (some ⟨g, 0, none⟩) l.length c, .int .i64 (a : Int), .int .i64 (m : Int), .int .i64 (b : Int), .func (.func fc) #[] #[]] w fun e w' => e = .returned (.tuple #[]) ∧ (∃ τ, RowS w' P g l τ ∧ PermS l.length τ ∧ SymQ (qOf cmp l) σ τ a b) ∧ Far g w w' ∧ g < w'.heap.size := by
  induction N with
  | zero => intro σ a m b w h1 _ _ _ h2; omega
  | succ N ih =>
  intro σ a m b w hNn M hgw hp hab hS
  by_cases hm1 : m = a + 1
  · exact symone_any fc cmp G eg hC g c l hl hbig hG hq P hP σ a m b w M hgw hp hab hm1 hS
  by_cases hb1 : b = m + 1
  · exact symlast_any fc cmp G eg hC g c l hl hbig hG hq P hP σ a m b w M hgw hp hab hm1 hb1 hS
  have hq := Lib.hid hq
  have hp := Lib.hid hp
  have hS := Lib.hid hS
  have hz0 : IntKind.i64.wrap ((m : Int) - (a : Int)) = (m : Int) - (a : Int) := IntWalk.i64_in _ (by omega)
  have hz2 : ((m : Int) - (a : Int) == 1) = false := by
    have : ¬ (m : Int) - (a : Int) = 1 := by omega
    simpa using this
  have hz1 : IntKind.i64.wrap ((b : Int) - (m : Int)) = (b : Int) - (m : Int) := IntWalk.i64_in _ (by omega)
  have hz3 : ((b : Int) - (m : Int) == 1) = false := by
    have : ¬ (b : Int) - (m : Int) = 1 := by omega
    simpa using this
  go_enter Tryd.func83, Tryd.ntmps83
  go_upto_region 25 with fail
  clear hz0 hz1 hz2 hz3
  obtain ⟨mid, hmid⟩ : ∃ mid, (a + b) / 2 = mid := ⟨_, rfl⟩
  have hmz : ((a : Int) + (b : Int)) / 2 = (mid : Int) := by omega
  rw [hmz]
  clear hmz
  have hmm : a < mid ∧ mid < b := by omega
  have hzn : IntKind.i64.wrap ((mid : Int) + (m : Int)) = (mid : Int) + (m : Int) := IntWalk.i64_in _ (by omega)
  obtain ⟨nn, hnn⟩ : ∃ nn, mid + m = nn := ⟨_, rfl⟩
  have hnz : (mid : Int) + (m : Int) = (nn : Int) := by omega
  rw [hnz] at hzn
  go_upto_if 140 with fail
  clear hzn
  obtain ⟨s0, r0, hs⟩ : ∃ s0 r0, (mid < m ∧ s0 = mid + m - b ∧ r0 = mid) ∨ (m ≤ mid ∧ s0 = a ∧ r0 = m) := by
    by_cases h : mid < m
    · exact ⟨_, _, .inl ⟨h, rfl, rfl⟩⟩
    · exact ⟨_, _, .inr ⟨by omega, rfl, rfl⟩⟩
  have hmidh := Lib.hid hmid
  go_cut [20, 21] (fun s20 s21 wx => s20 = .int .i64 (s0 : Int) ∧ s21 = .int .i64 (r0 : Int) ∧ w = wx)
  case first =>
    by_cases hc : mid < m
    · have hcz : (mid : Int) < (m : Int) := by omega
      have hzs : IntKind.i64.wrap ((nn : Int) - (b : Int)) = (s0 : Int) := (IntWalk.i64_in _ (by omega)).trans (by omega)
      have hr0 : r0 = mid := by omega
      go_wp2_with fail
      go_meet
      exact ⟨rfl, by rw [hr0], rfl⟩
    · have hcz : ¬ (mid : Int) < (m : Int) := by omega
      have hr0 : r0 = m ∧ s0 = a := by omega
      go_wp2_with fail
      go_meet
      exact ⟨by rw [hr0.2], by rw [hr0.1], rfl⟩
  case rest =>
  obtain ⟨rfl, rfl, rfl⟩ := hcut
  obtain ⟨pp, hpp⟩ : ∃ pp, mid + m - 1 = pp := ⟨_, rfl⟩
  have hzp : IntKind.i64.wrap ((nn : Int) - 1) = (pp : Int) := (IntWalk.i64_in _ (by omega)).trans (by omega)
  go_upto_region 33 with fail
  clear hzp
  have BB := Far.refl g w
  go_loopg [20, 21] (r0 - s0) (fun gk s20 s21 wx => ∃ st r : Nat, s20 = .int .i64 (st : Int) ∧ s21 = .int .i64 (r : Int) ∧ st + gk = r ∧ s0 ≤ st ∧ r ≤ r0 ∧ RowS wx P g l σ ∧ Far g w wx ∧ g < wx.heap.size ∧ (∀ x, s0 ≤ x → x < st → tlt (qOf cmp l) (σ x) (σ (pp - x))) ∧ (∀ x, r ≤ x → x < r0 → tlt (qOf cmp l) (σ (pp - x)) (σ x)))
  case atStart => exact ⟨s0, r0, rfl, rfl, by omega, Nat.le_refl _, Nat.le_refl _, M, BB, hgw, fun x h1 h2 => by omega, fun x h1 h2 => by omega⟩
  case round =>
    clear M BB hgw
    obtain ⟨st, r, rfl, rfl, hgk, hst, hr, M, BB, hgw, hlo, hhi⟩ := hrel
    replace hlo := Lib.hid hlo
    replace hhi := Lib.hid hhi
    by_cases hij : st < r
    · have hijz : (st : Int) < (r : Int) := by omega
      go_upto_region 35 with fail
      obtain ⟨h, hh⟩ : ∃ h, (st + r) / 2 = h := ⟨_, rfl⟩
      have hhz : ((st : Int) + (r : Int)) / 2 = (h : Int) := by omega
      have hh1 : st ≤ h ∧ h < r := by omega
      rw [hhz]
      clear hh hhz
      obtain ⟨ph, hph⟩ : ∃ ph, pp - h = ph := ⟨_, rfl⟩
      have hzh : IntKind.i64.wrap ((pp : Int) - (h : Int)) = (ph : Int) := (IntWalk.i64_in _ (by omega)).trans (by omega)
      have hph1 : m ≤ ph ∧ ph < b := by omega
      have hh2 : a ≤ h ∧ h < m := by omega
      have hsx := Lib.hid hs
      have hppx := Lib.hid hpp
      have hphx := Lib.hid hph
      clear hs hpp hph hnn hnz hmid
      obtain ⟨cx, lx, ox, sx, rx⟩ := M.at_ (i := h) (by omega)
      obtain ⟨cy, ly, oy, sy, ry⟩ := M.at_ (i := ph) (by omega)
      match cx, lx, ox, cy, ly, oy with
      | [x0, x1, x2, x3, x4, x5, x6, x7, x8, x9, x10], _, ox, [y0, y1, y2, y3, y4, y5, y6, y7, y8, y9, y10], _, oy =>
      have rgx := sx.range
      have rgy := sy.range
      clear sx sy
      have gi := hG (σ (ph)) (hp.out.lt (by omega))
      have gj := hG (σ (h)) (hp.out.lt (by omega))
      obtain ⟨di, hdi⟩ : ∃ d, l.getD (σ (ph)) nilD = d := ⟨_, rfl⟩
      obtain ⟨dj, hdj⟩ : ∃ d, l.getD (σ (h)) nilD = d := ⟨_, rfl⟩
      obtain ⟨z, hz⟩ : ∃ z, qOf cmp l (σ (ph)) (σ (h)) = z := ⟨_, rfl⟩
      have hz2 : cmp di dj = z := by rw [← hz]; unfold qOf; rw [hdi, hdj]
      rw [hdi] at ry gi
      rw [hdj] at rx gj
      have hil : ph < l.length := by omega
      have hjl : h < l.length := by omega
      replace hz := Lib.hid hz
      replace hz2 := Lib.hid hz2
      clear hdi hdj
      go_upto_region 35 with fail
      have hN : g ≤ wr.heap.size := Nat.le_of_lt hgw
      have Dw := (Below.refl wr.heap.size wr).drew
      have M := M.keep hP hgw Dw
      have rx := rx.keep (fun b hb => by have := hP b hb; omega) Dw
      have ry := ry.keep (fun b hb => by have := hP b hb; omega) Dw
      have rgx := range_nx rgx Dw hgw
      have rgy := range_nx rgy Dw hgw
      have BB := BB.nx Dw (by omega)
      have hN := Nat.le_trans hN Dw.size
      have hgw := Nat.lt_of_lt_of_le hgw Dw.size
      clear Dw
      refine AnyW.regionQ (fun _ => false) 14 (fun w' => w'.rangeAt g (ph * 11) [y0, y1, y2, y3, y4, y5, y6, y7, y8, y9, y10] ∧ w'.rangeAt g (h * 11) [x0, x1, x2, x3, x4, x5, x6, x7, x8, x9, x10]) rfl (by kernel_rfl) (by kernel_rfl) (by (repeat (with_reducible (first | refine quiet_then ?_ | refine quiet_block ?_))); exact quiet_body) ⟨rgy, rgx⟩ (fun Q' hQK hq' hns hHeld => ?_)
      generalize wr.drew = w9 at *
      refine AnyW.nextT (i := 0) (v := ?_) hq' hns (.inr hHeld) rfl rfl (by kernel_rfl) (Or.inl ⟨by rfl, ?_⟩) ?_
      rotate_left
      · intro w' _; go_simp <;> with_reducible rfl
      try simp only [List.setIfInBounds_toArray, List.set_cons_zero, List.set_cons_succ]
      refine AnyW.nextT (i := 1) (v := ?_) hq' hns (.inr hHeld) rfl rfl (by kernel_rfl) (Or.inl ⟨by rfl, ?_⟩) ?_
      rotate_left
      · intro w' _; go_simp <;> with_reducible rfl
      try simp only [List.setIfInBounds_toArray, List.set_cons_zero, List.set_cons_succ]
      refine AnyW.nextT (i := 2) (v := ?_) hq' hns (.inr hHeld) rfl rfl (by kernel_rfl) (Or.inl ⟨by rfl, ?_⟩) ?_
      rotate_left
      · intro w' _; go_simp <;> with_reducible rfl
      try simp only [List.setIfInBounds_toArray, List.set_cons_zero, List.set_cons_succ]
      refine AnyW.nextT (i := 3) (v := ?_) hq' hns (.inr hHeld) rfl rfl (by kernel_rfl) (Or.inl ⟨by rfl, ?_⟩) ?_
      rotate_left
      · intro w' _; go_simp <;> with_reducible rfl
      try simp only [List.setIfInBounds_toArray, List.set_cons_zero, List.set_cons_succ]
      refine AnyW.nextT (i := 4) (v := ?_) hq' hns (.inr hHeld) rfl rfl (by kernel_rfl) (Or.inl ⟨by rfl, ?_⟩) ?_
      rotate_left
      · intro w' _; go_simp <;> with_reducible rfl
      try simp only [List.setIfInBounds_toArray, List.set_cons_zero, List.set_cons_succ]
      refine AnyW.nextT (i := 5) (v := ?_) hq' hns (.inr hHeld) rfl rfl (by kernel_rfl) (Or.inl ⟨by rfl, ?_⟩) ?_
      rotate_left
      · intro w' _; go_simp <;> with_reducible rfl
      try simp only [List.setIfInBounds_toArray, List.set_cons_zero, List.set_cons_succ]
      refine AnyW.next (i := 6) (v := .agg [y0, y1, y2, y3, y4, y5, y6, y7, y8, y9, y10].toArray) hq' hns hHeld rfl rfl (by kernel_rfl) (yieldsIf_load_mid (by rfl) 31 (.tmp 163) rfl g (ph * 11) rfl [y0, y1, y2, y3, y4, y5, y6, y7, y8, y9, y10] _ (fun w' h => h.1) Tryd.underlying31 rfl (infoD.trans (by rfl))) ?_
      try simp only [List.setIfInBounds_toArray, List.set_cons_zero, List.set_cons_succ]
      refine AnyW.nextT (i := 7) (v := ?_) hq' hns (.inr hHeld) rfl rfl (by kernel_rfl) (Or.inl ⟨by rfl, ?_⟩) ?_
      rotate_left
      · intro w' _; go_simp <;> with_reducible rfl
      try simp only [List.setIfInBounds_toArray, List.set_cons_zero, List.set_cons_succ]
      refine AnyW.nextT (i := 8) (v := ?_) hq' hns (.inr hHeld) rfl rfl (by kernel_rfl) (Or.inl ⟨by rfl, ?_⟩) ?_
      rotate_left
      · intro w' _; go_simp <;> with_reducible rfl
      try simp only [List.setIfInBounds_toArray, List.set_cons_zero, List.set_cons_succ]
      refine AnyW.nextT (i := 9) (v := ?_) hq' hns (.inr hHeld) rfl rfl (by kernel_rfl) (Or.inl ⟨by rfl, ?_⟩) ?_
      rotate_left
      · intro w' _; go_simp <;> with_reducible rfl
      try simp only [List.setIfInBounds_toArray, List.set_cons_zero, List.set_cons_succ]
      refine AnyW.next (i := 10) (v := .agg [x0, x1, x2, x3, x4, x5, x6, x7, x8, x9, x10].toArray) hq' hns hHeld rfl rfl (by kernel_rfl) (yieldsIf_load_mid (by rfl) 31 (.tmp 167) rfl g (h * 11) rfl [x0, x1, x2, x3, x4, x5, x6, x7, x8, x9, x10] _ (fun w' h => h.2) Tryd.underlying31 rfl (infoD.trans (by rfl))) ?_
      try simp only [List.setIfInBounds_toArray, List.set_cons_zero, List.set_cons_succ]
      refine AnyW.one 11 (by kernel_rfl) rfl (fun K' hK => ?_)
      go_simp
      refine (hC _ _ _ _ w9 P (fun b hb => by have := hP b hb; omega) gi gj ry rx).mono ?_
      rintro e w5 ⟨rfl, B5⟩
      rw [hz2.out]
      go_wp2_with fail
      have M := M.keep hP hgw B5
      have rgx := range_nx rgx B5 hgw
      have rgy := range_nx rgy B5 hgw
      have BB := BB.nx B5 (by omega)
      have hgw := Nat.lt_of_lt_of_le hgw B5.size
      refine hK.out _ _ (.inr ⟨rgy, rgx⟩) (fun hG' => ?_)
      have hHeld := hG'.resolve_left (notGone.spec (by rfl))
      clear hK K' hG' rgx rgy B5 rx ry gi gj hz2
      try simp only [List.setIfInBounds_toArray, List.set_cons_zero, List.set_cons_succ]
      refine AnyW.nextT (i := 12) (v := ?_) hq' hns (.inr hHeld) rfl rfl (by kernel_rfl) (Or.inl ⟨by rfl, ?_⟩) ?_
      rotate_left
      · intro w' _; go_simp <;> with_reducible rfl
      try simp only [List.setIfInBounds_toArray, List.set_cons_zero, List.set_cons_succ]
      refine AnyW.nextT (i := 13) (v := ?_) hq' hns (.inr hHeld) rfl rfl (by kernel_rfl) (Or.inl ⟨by rfl, ?_⟩) ?_
      rotate_left
      · intro w' _; go_simp <;> with_reducible rfl
      try simp only [List.setIfInBounds_toArray, List.set_cons_zero, List.set_cons_succ]
      refine AnyW.done (by kernel_rfl) (hQK.out _ _ ?_)
      clear hQK hq' hns hHeld
      obtain ⟨bb, hbb⟩ : ∃ bb, (!decide (z < 0)) = bb := ⟨_, rfl⟩
      rw [hbb]
      by_cases hz0 : z < 0
      · obtain rfl : bb = false := by rw [← hbb]; simpa using hz0
        have hhi2 : ∀ x, h ≤ x → x < r0 → tlt (qOf cmp l) (σ (pp - x)) (σ x) := fun x h1 h2 => by
          have hs := hsx.out
          have hmid := hmidh.out
          have hpp := hppx.out
          have hph := hphx.out
          have hlt : tlt (qOf cmp l) (σ ph) (σ h) := tlt_less (by rw [hz.out]; exact hz0)
          by_cases e : x = h
          · rw [e, hph]; exact hlt
          · exact ((hS.out.right (pp - x) ph (by omega) (by omega) (by omega)).trans hq.out hlt).trans hq.out (hS.out.left h x (by omega) (by omega) (by omega))
        replace hhi2 := Lib.hid hhi2
        clear hbb hz
        go_upto_region 33 with fail
        go_roundg (h - st)
        case measure => omega
        case rel => exact ⟨st, h, rfl, rfl, by omega, hst, by omega, M, BB, hgw, hlo.out, hhi2.out⟩
      · obtain rfl : bb = true := by rw [← hbb]; simpa using hz0
        have hlo2 : ∀ x, s0 ≤ x → x < h + 1 → tlt (qOf cmp l) (σ x) (σ (pp - x)) := fun x h1 h2 => by
          have hs := hsx.out
          have hmid := hmidh.out
          have hpp := hppx.out
          have hph := hphx.out
          have hlt : tlt (qOf cmp l) (σ h) (σ ph) := tlt_keep hq.out (by rw [hz.out]; exact hz0) (hS.out.tags h ph (by omega) (by omega) (by omega) (by omega))
          by_cases e : x = h
          · rw [e, hph]; exact hlt
          · exact ((hS.out.left x h (by omega) (by omega) (by omega)).trans hq.out hlt).trans hq.out (hS.out.right ph (pp - x) (by omega) (by omega) (by omega))
        replace hlo2 := Lib.hid hlo2
        clear hbb hz
        go_upto_region 33 with fail
        go_roundg (r - (h + 1))
        case measure => omega
        case rel => exact ⟨h + 1, r, by simp, rfl, by omega, by omega, hr, M, BB, hgw, hlo2.out, hhi.out⟩
    · have hijz : ¬ (st : Int) < (r : Int) := by omega
      obtain rfl : st = r := by omega
      have hcut := cut_of hq.out hS.out hmid ⟨hab.1, hab.2.1⟩ hs ⟨hst, hr⟩ (fun x h1 h2 => by rw [hpp]; exact hlo.out x h1 h2) (fun x h1 h2 => by rw [hpp]; exact hhi.out x h1 h2)
      obtain ⟨en, hen⟩ : ∃ en, mid + m - st = en := ⟨_, rfl⟩
      have hzE : IntKind.i64.wrap ((nn : Int) - (st : Int)) = (en : Int) := (IntWalk.i64_in _ (by omega)).trans (by omega)
      have hca : a ≤ st ∧ st ≤ m := hcut.lo
      have hcb : m ≤ en ∧ en ≤ b ∧ st ≤ mid := by rw [← hen]; exact hcut.hi
      have hhal := hcut.halves hS.out (by omega)
      rw [hen] at hhal
      have hrt := fun h => rot_triv (σ := σ) (a := st) (m := m) (b := en) h (by omega)
      have hp0 := hp.out
      replace hhal := Lib.hid hhal
      replace hrt := Lib.hid hrt
      replace hp0 := Lib.hid hp0
      have hme : mid ≤ en := by omega
      have hmm1 := hmm.1
      have hmm2 := hmm.2
      obtain ⟨hS1, hS2, hcr, hout, hfr⟩ := hhal.out
      replace hS1 := Lib.hid hS1
      replace hS2 := Lib.hid hS2
      replace hcr := Lib.hid hcr
      replace hout := Lib.hid hout
      replace hfr := Lib.hid hfr
      clear hhal
      have hen2 : (st < m ↔ mid < en) ∧ (m < en ↔ st < mid) := by omega
      go_upto_region 39 with fail
      clear hzE hijz hlo hhi hcut hs hpp hnn hnz hen hS hgk hst hr hmid
      by_cases t1 : st < m
      · by_cases t2 : m < en
        · by_cases t3 : a < st
          · by_cases t4 : en < b
            ·
              have c_st_m : (st : Int) < (m : Int) := by omega
              have c_m_en : (m : Int) < (en : Int) := by omega
              have c_a_st : (a : Int) < (st : Int) := by omega
              have c_st_mid : (st : Int) < (mid : Int) := by omega
              have c_mid_en : (mid : Int) < (en : Int) := by omega
              have c_en_b : (en : Int) < (b : Int) := by omega
              go_wp2_with fail
              refine (rotate_any g c l σ st m en _ wr P hP M hgw hl hbig (by omega) (by omega) (by omega) hp0.out).mono ?_
              rintro e w5 ⟨rfl, M, hpr, B5, hgw⟩
              have BB := BB.trans B5
              clear hrt hp0
              generalize rot σ st m en = ρ at *
              go_wp2_with fail
              refine (ih ρ a st mid w5 (by omega) M hgw hpr ⟨by omega, by omega, by omega⟩ hS1.out).mono ?_
              rintro e w6 ⟨rfl, ⟨τ, M, hpt, hQ1⟩, B6, hgw⟩
              have BB := BB.trans B6
              have hS3 : SymP (qOf cmp l) τ mid en b := by
                have h0 := hS2.out
                have ho := hQ1.out
                exact ⟨fun i j h1 h2 h3 => by rw [ho i (by omega), ho j (by omega)]; exact h0.left i j h1 h2 h3, fun i j h1 h2 h3 => by rw [ho i (by omega), ho j (by omega)]; exact h0.right i j h1 h2 h3, fun i j h1 h2 h3 h4 => by rw [ho i (by omega), ho j (by omega)]; exact h0.tags i j h1 h2 h3 h4⟩
              have hjoin := fun τ2 (h2 : SymQ (qOf cmp l) τ τ2 mid b) => sym_join (σ := σ) (τ := τ) (τ2 := τ2) (mid := mid) (ρ := ρ) (a := a) (b := b) ⟨by omega, by omega⟩ hcr.out hout.out hfr.out hQ1 h2
              replace hjoin := Lib.hid hjoin
              replace hS3 := Lib.hid hS3
              clear hQ1 hS1 hS2 hcr hout hfr
              go_wp2_with fail
              refine (ih τ mid en b w6 (by omega) M hgw hpt ⟨by omega, by omega, by omega⟩ hS3.out).mono ?_
              rintro e w7 ⟨rfl, ⟨τ2, M, hpt2, hQ⟩, B7, hgw⟩
              have BB := BB.trans B7
              go_wp2_with fail
              go_end0
              exact ⟨rfl, ⟨τ2, M, hpt2, hjoin.out τ2 hQ⟩, BB, hgw⟩
            ·
              have c_st_m : (st : Int) < (m : Int) := by omega
              have c_m_en : (m : Int) < (en : Int) := by omega
              have c_a_st : (a : Int) < (st : Int) := by omega
              have c_st_mid : (st : Int) < (mid : Int) := by omega
              have c_mid_en : (mid : Int) < (en : Int) := by omega
              have c_en_b : ¬ (en : Int) < (b : Int) := by omega
              go_wp2_with fail
              refine (rotate_any g c l σ st m en _ wr P hP M hgw hl hbig (by omega) (by omega) (by omega) hp0.out).mono ?_
              rintro e w5 ⟨rfl, M, hpr, B5, hgw⟩
              have BB := BB.trans B5
              clear hrt hp0
              generalize rot σ st m en = ρ at *
              go_wp2_with fail
              refine (ih ρ a st mid w5 (by omega) M hgw hpr ⟨by omega, by omega, by omega⟩ hS1.out).mono ?_
              rintro e w6 ⟨rfl, ⟨τ, M, hpt, hQ1⟩, B6, hgw⟩
              have BB := BB.trans B6
              have hS3 : SymP (qOf cmp l) τ mid en b := by
                have h0 := hS2.out
                have ho := hQ1.out
                exact ⟨fun i j h1 h2 h3 => by rw [ho i (by omega), ho j (by omega)]; exact h0.left i j h1 h2 h3, fun i j h1 h2 h3 => by rw [ho i (by omega), ho j (by omega)]; exact h0.right i j h1 h2 h3, fun i j h1 h2 h3 h4 => by rw [ho i (by omega), ho j (by omega)]; exact h0.tags i j h1 h2 h3 h4⟩
              have hjoin := fun τ2 (h2 : SymQ (qOf cmp l) τ τ2 mid b) => sym_join (σ := σ) (τ := τ) (τ2 := τ2) (mid := mid) (ρ := ρ) (a := a) (b := b) ⟨by omega, by omega⟩ hcr.out hout.out hfr.out hQ1 h2
              replace hjoin := Lib.hid hjoin
              replace hS3 := Lib.hid hS3
              clear hQ1 hS1 hS2 hcr hout hfr
              go_wp2_with fail
              go_end0
              exact ⟨rfl, ⟨τ, M, hpt, hjoin.out τ (SymQ.refl_ (hS3.out.triv (by omega)))⟩, BB, hgw⟩
          · by_cases t4 : en < b
            ·
              have c_st_m : (st : Int) < (m : Int) := by omega
              have c_m_en : (m : Int) < (en : Int) := by omega
              have c_a_st : ¬ (a : Int) < (st : Int) := by omega
              have c_mid_en : (mid : Int) < (en : Int) := by omega
              have c_en_b : (en : Int) < (b : Int) := by omega
              go_wp2_with fail
              refine (rotate_any g c l σ st m en _ wr P hP M hgw hl hbig (by omega) (by omega) (by omega) hp0.out).mono ?_
              rintro e w5 ⟨rfl, M, hpr, B5, hgw⟩
              have BB := BB.trans B5
              clear hrt hp0
              generalize rot σ st m en = ρ at *
              obtain ⟨τ, M, hpt, hQ1⟩ : ∃ τ, RowS w5 P g l τ ∧ PermS l.length τ ∧ SymQ (qOf cmp l) ρ τ a mid := ⟨ρ, M, hpr, SymQ.refl_ (hS1.out.triv (by omega))⟩
              have hS3 : SymP (qOf cmp l) τ mid en b := by
                have h0 := hS2.out
                have ho := hQ1.out
                exact ⟨fun i j h1 h2 h3 => by rw [ho i (by omega), ho j (by omega)]; exact h0.left i j h1 h2 h3, fun i j h1 h2 h3 => by rw [ho i (by omega), ho j (by omega)]; exact h0.right i j h1 h2 h3, fun i j h1 h2 h3 h4 => by rw [ho i (by omega), ho j (by omega)]; exact h0.tags i j h1 h2 h3 h4⟩
              have hjoin := fun τ2 (h2 : SymQ (qOf cmp l) τ τ2 mid b) => sym_join (σ := σ) (τ := τ) (τ2 := τ2) (mid := mid) (ρ := ρ) (a := a) (b := b) ⟨by omega, by omega⟩ hcr.out hout.out hfr.out hQ1 h2
              replace hjoin := Lib.hid hjoin
              replace hS3 := Lib.hid hS3
              clear hQ1 hS1 hS2 hcr hout hfr
              go_wp2_with fail
              refine (ih τ mid en b w5 (by omega) M hgw hpt ⟨by omega, by omega, by omega⟩ hS3.out).mono ?_
              rintro e w7 ⟨rfl, ⟨τ2, M, hpt2, hQ⟩, B7, hgw⟩
              have BB := BB.trans B7
              go_wp2_with fail
              go_end0
              exact ⟨rfl, ⟨τ2, M, hpt2, hjoin.out τ2 hQ⟩, BB, hgw⟩
            ·
              have c_st_m : (st : Int) < (m : Int) := by omega
              have c_m_en : (m : Int) < (en : Int) := by omega
              have c_a_st : ¬ (a : Int) < (st : Int) := by omega
              have c_mid_en : (mid : Int) < (en : Int) := by omega
              have c_en_b : ¬ (en : Int) < (b : Int) := by omega
              go_wp2_with fail
              refine (rotate_any g c l σ st m en _ wr P hP M hgw hl hbig (by omega) (by omega) (by omega) hp0.out).mono ?_
              rintro e w5 ⟨rfl, M, hpr, B5, hgw⟩
              have BB := BB.trans B5
              clear hrt hp0
              generalize rot σ st m en = ρ at *
              obtain ⟨τ, M, hpt, hQ1⟩ : ∃ τ, RowS w5 P g l τ ∧ PermS l.length τ ∧ SymQ (qOf cmp l) ρ τ a mid := ⟨ρ, M, hpr, SymQ.refl_ (hS1.out.triv (by omega))⟩
              have hS3 : SymP (qOf cmp l) τ mid en b := by
                have h0 := hS2.out
                have ho := hQ1.out
                exact ⟨fun i j h1 h2 h3 => by rw [ho i (by omega), ho j (by omega)]; exact h0.left i j h1 h2 h3, fun i j h1 h2 h3 => by rw [ho i (by omega), ho j (by omega)]; exact h0.right i j h1 h2 h3, fun i j h1 h2 h3 h4 => by rw [ho i (by omega), ho j (by omega)]; exact h0.tags i j h1 h2 h3 h4⟩
              have hjoin := fun τ2 (h2 : SymQ (qOf cmp l) τ τ2 mid b) => sym_join (σ := σ) (τ := τ) (τ2 := τ2) (mid := mid) (ρ := ρ) (a := a) (b := b) ⟨by omega, by omega⟩ hcr.out hout.out hfr.out hQ1 h2
              replace hjoin := Lib.hid hjoin
              replace hS3 := Lib.hid hS3
              clear hQ1 hS1 hS2 hcr hout hfr
              go_wp2_with fail
              go_end0
              exact ⟨rfl, ⟨τ, M, hpt, hjoin.out τ (SymQ.refl_ (hS3.out.triv (by omega)))⟩, BB, hgw⟩
        ·
          have c_st_m : (st : Int) < (m : Int) := by omega
          have c_m_en : ¬ (m : Int) < (en : Int) := by omega
          have c_a_st : (a : Int) < (st : Int) := by omega
          have c_st_mid : ¬ (st : Int) < (mid : Int) := by omega
          have c_mid_en : (mid : Int) < (en : Int) := by omega
          have c_en_b : (en : Int) < (b : Int) := by omega
          have M : RowS wr P g l (rot σ st m en) := by rw [hrt.out (by omega)]; exact M
          have hpr : PermS l.length (rot σ st m en) := by rw [hrt.out (by omega)]; exact hp0.out
          clear hrt hp0
          generalize rot σ st m en = ρ at *
          obtain ⟨τ, M, hpt, hQ1⟩ : ∃ τ, RowS wr P g l τ ∧ PermS l.length τ ∧ SymQ (qOf cmp l) ρ τ a mid := ⟨ρ, M, hpr, SymQ.refl_ (hS1.out.triv (by omega))⟩
          have hS3 : SymP (qOf cmp l) τ mid en b := by
            have h0 := hS2.out
            have ho := hQ1.out
            exact ⟨fun i j h1 h2 h3 => by rw [ho i (by omega), ho j (by omega)]; exact h0.left i j h1 h2 h3, fun i j h1 h2 h3 => by rw [ho i (by omega), ho j (by omega)]; exact h0.right i j h1 h2 h3, fun i j h1 h2 h3 h4 => by rw [ho i (by omega), ho j (by omega)]; exact h0.tags i j h1 h2 h3 h4⟩
          have hjoin := fun τ2 (h2 : SymQ (qOf cmp l) τ τ2 mid b) => sym_join (σ := σ) (τ := τ) (τ2 := τ2) (mid := mid) (ρ := ρ) (a := a) (b := b) ⟨by omega, by omega⟩ hcr.out hout.out hfr.out hQ1 h2
          replace hjoin := Lib.hid hjoin
          replace hS3 := Lib.hid hS3
          clear hQ1 hS1 hS2 hcr hout hfr
          go_wp2_with fail
          refine (ih τ mid en b wr (by omega) M hgw hpt ⟨by omega, by omega, by omega⟩ hS3.out).mono ?_
          rintro e w7 ⟨rfl, ⟨τ2, M, hpt2, hQ⟩, B7, hgw⟩
          have BB := BB.trans B7
          go_wp2_with fail
          go_end0
          exact ⟨rfl, ⟨τ2, M, hpt2, hjoin.out τ2 hQ⟩, BB, hgw⟩
      · by_cases t3 : st < mid
        ·
          have c_st_m : ¬ (st : Int) < (m : Int) := by omega
          have c_a_st : (a : Int) < (st : Int) := by omega
          have c_st_mid : (st : Int) < (mid : Int) := by omega
          have c_mid_en : ¬ (mid : Int) < (en : Int) := by omega
          have M : RowS wr P g l (rot σ st m en) := by rw [hrt.out (by omega)]; exact M
          have hpr : PermS l.length (rot σ st m en) := by rw [hrt.out (by omega)]; exact hp0.out
          clear hrt hp0
          generalize rot σ st m en = ρ at *
          go_wp2_with fail
          refine (ih ρ a st mid wr (by omega) M hgw hpr ⟨by omega, by omega, by omega⟩ hS1.out).mono ?_
          rintro e w6 ⟨rfl, ⟨τ, M, hpt, hQ1⟩, B6, hgw⟩
          have BB := BB.trans B6
          have hS3 : SymP (qOf cmp l) τ mid en b := by
            have h0 := hS2.out
            have ho := hQ1.out
            exact ⟨fun i j h1 h2 h3 => by rw [ho i (by omega), ho j (by omega)]; exact h0.left i j h1 h2 h3, fun i j h1 h2 h3 => by rw [ho i (by omega), ho j (by omega)]; exact h0.right i j h1 h2 h3, fun i j h1 h2 h3 h4 => by rw [ho i (by omega), ho j (by omega)]; exact h0.tags i j h1 h2 h3 h4⟩
          have hjoin := fun τ2 (h2 : SymQ (qOf cmp l) τ τ2 mid b) => sym_join (σ := σ) (τ := τ) (τ2 := τ2) (mid := mid) (ρ := ρ) (a := a) (b := b) ⟨by omega, by omega⟩ hcr.out hout.out hfr.out hQ1 h2
          replace hjoin := Lib.hid hjoin
          replace hS3 := Lib.hid hS3
          clear hQ1 hS1 hS2 hcr hout hfr
          go_wp2_with fail
          go_end0
          exact ⟨rfl, ⟨τ, M, hpt, hjoin.out τ (SymQ.refl_ (hS3.out.triv (by omega)))⟩, BB, hgw⟩
        ·
          have c_st_m : ¬ (st : Int) < (m : Int) := by omega
          have c_a_st : (a : Int) < (st : Int) := by omega
          have c_st_mid : ¬ (st : Int) < (mid : Int) := by omega
          have c_mid_en : ¬ (mid : Int) < (en : Int) := by omega
          have M : RowS wr P g l (rot σ st m en) := by rw [hrt.out (by omega)]; exact M
          have hpr : PermS l.length (rot σ st m en) := by rw [hrt.out (by omega)]; exact hp0.out
          clear hrt hp0
          generalize rot σ st m en = ρ at *
          obtain ⟨τ, M, hpt, hQ1⟩ : ∃ τ, RowS wr P g l τ ∧ PermS l.length τ ∧ SymQ (qOf cmp l) ρ τ a mid := ⟨ρ, M, hpr, SymQ.refl_ (hS1.out.triv (by omega))⟩
          have hS3 : SymP (qOf cmp l) τ mid en b := by
            have h0 := hS2.out
            have ho := hQ1.out
            exact ⟨fun i j h1 h2 h3 => by rw [ho i (by omega), ho j (by omega)]; exact h0.left i j h1 h2 h3, fun i j h1 h2 h3 => by rw [ho i (by omega), ho j (by omega)]; exact h0.right i j h1 h2 h3, fun i j h1 h2 h3 h4 => by rw [ho i (by omega), ho j (by omega)]; exact h0.tags i j h1 h2 h3 h4⟩
          have hjoin := fun τ2 (h2 : SymQ (qOf cmp l) τ τ2 mid b) => sym_join (σ := σ) (τ := τ) (τ2 := τ2) (mid := mid) (ρ := ρ) (a := a) (b := b) ⟨by omega, by omega⟩ hcr.out hout.out hfr.out hQ1 h2
          replace hjoin := Lib.hid hjoin
          replace hS3 := Lib.hid hS3
          clear hQ1 hS1 hS2 hcr hout hfr
          go_wp2_with fail
          go_end0
          exact ⟨rfl, ⟨τ, M, hpt, hjoin.out τ (SymQ.refl_ (hS3.out.triv (by omega)))⟩, BB, hgw⟩
end Go.Proofs.YtilhnjecnhpmlaaDoor
