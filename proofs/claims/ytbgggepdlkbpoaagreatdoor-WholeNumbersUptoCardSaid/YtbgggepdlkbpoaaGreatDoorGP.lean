/- Merged texts: BiP. -/
import Derived.Test.YtbgggepdlkbpoaaGreatDoorGO
import Derived.Test.YtbgggepdlkbpoaaGreatDoorGI
namespace Go.Proofs.YtbgggepdlkbpoaaGreatDoor
open Go.RowKit

/-- the same, and how the world stands to a world of the walk -/
def S2B (w w0 : World) (b : Nat) (l1 : List Value) (n : Nat) (w' : World) : Prop := S2 w b l1 n w' ∧ Below w0.heap.size w0 w'
theorem S2B.nx {w w0 w1 w2 : World} {b n : Nat} {l1 : List Value} (h : S2B w w0 b l1 n w1) (hb : Below w1.heap.size w1 w2) : S2B w w0 b l1 n w2 := ⟨h.1.nx hb, bt h.2 hb⟩
theorem S2B.dr {w w0 w1 : World} {b n : Nat} {l1 : List Value} (h : S2B w w0 b l1 n w1) : S2B w w0 b l1 n w1.drew := ⟨h.1.dr, bdN h.2 1⟩
theorem S2.kb {w w1 w2 : World} {b B n : Nat} {l1 : List Value} (h : S2 w b l1 n w1) (hb : Below B w1 w2) (hB : b + 1 < B) : S2 w b l1 n w2 := ⟨h.1.below hb (by omega), (h.2.1.sb.below hb hB).rc (by simp), h.2.2.trans (hb.mono (by omega))⟩
theorem S2.farS {w w1 : World} {b g n : Nat} {l1 : List Value} (h : S2 w b l1 n w1) (hg : b + 1 < g) (k : Nat) (v : Value) : S2 w b l1 n (w1.setCell ⟨g, k, none⟩ v) :=
  ⟨h.1.far (p := ⟨g, k, none⟩) (by show b ≠ g; omega) v, (h.2.1.sb.far (p := ⟨g, k, none⟩) (by show b + 1 ≠ g; omega) v).rc (by simp), h.2.2.setCell (p := ⟨g, k, none⟩) (by show b ≤ g; omega) v⟩
theorem OW.kb' {w w' : World} {base B c : Nat} {A : Option Addr} {l : List Nat} (h : OW w base A c l) (hb : Below B w w') (hlt : ∀ g, A = some ⟨g, 0, none⟩ → g < B) : OW w' base A c l := h.kb hb hlt
/-- an answer: a whole number by its sign and its value -/
theorem fit_in {s : Bool} {v : Nat} (h0 : v = 0 → s = false) : (rwq ((sgn s v : Int) : Rat), rwq 0, (0 : Int)) = ((⟨s, digs v, [1]⟩, ⟨false, [], [1]⟩, 0) : Rw × Rw × Int) := by rw [rwq_int s v h0, rwq_z']
theorem down_pos (v n : Nat) : (sgn false v : Int) / ((2 ^ n : Nat) : Int) = sgn false (v / 2 ^ n) := by rw [sgn_false, sgn_false]; exact (Int.natCast_ediv _ _).symm
theorem down_neg (v n : Nat) (hv : v ≠ 0) : (sgn true v : Int) / ((2 ^ n : Nat) : Int) = sgn true (if v / 2 ^ n * 2 ^ n = v then v / 2 ^ n else v / 2 ^ n + 1) := by
  have hp : 0 < 2 ^ n := Nat.pow_pos (by omega)
  rw [sgn_true, sgn_true]
  have h := floor_neg (v - 1) (2 ^ n) hp
  rw [show -((v - 1 : Nat) : Int) - 1 = -(v : Int) by omega] at h
  rw [h]
  have e1 := Nat.div_add_mod v (2 ^ n)
  have e2 := Nat.mod_lt v hp
  have e3 : v / 2 ^ n * 2 ^ n = 2 ^ n * (v / 2 ^ n) := Nat.mul_comm _ _
  by_cases hx : v / 2 ^ n * 2 ^ n = v
  · rw [if_pos hx]
    have hq : 0 < v / 2 ^ n := by
      rcases Nat.eq_zero_or_pos (v / 2 ^ n) with h0 | h0
      · rw [h0, Nat.zero_mul] at hx; omega
      · exact h0
    have : (v - 1) / 2 ^ n = v / 2 ^ n - 1 := by
      obtain ⟨q, hq'⟩ : ∃ q, v / 2 ^ n = q + 1 := ⟨v / 2 ^ n - 1, by omega⟩
      rw [hq'] at hx ⊢
      rw [Nat.div_eq_of_lt_le (k := q)] <;> rw [Nat.add_mul] at * <;> omega
    omega
  · rw [if_neg hx]
    have : (v - 1) / 2 ^ n = v / 2 ^ n := by
      generalize v / 2 ^ n = q at *
      have e5 : 2 ^ n * q = q * 2 ^ n := Nat.mul_comm _ _
      refine Nat.div_eq_of_lt_le (by omega) ?_
      rw [Nat.add_mul]
      omega
    omega


set_option maxRecDepth 100000 in
set_option maxHeartbeats 16000000 in
theorem bdown_pos (v n : Nat) (hn : n ≤ 20000) (s2 : Bool) (b1 : List Nat) (A1 D1 A2 D2 : Option Addr) (c1 d1 c2 d2 n2 m2 : Nat) (w : World) (hl : (digs v).length ≤ 20000) (p1 : RW w w.heap.size A1 c1 (digs v)) :
    Calls Tryz.prog 27 #[.agg #[.bool false, .slice A1 (digs v).length c1, .slice D1 b1.length d1, .bool s2, .slice A2 n2 c2, .slice D2 m2 d2], .int .i64 (n : Int)] w (RetNE w (⟨false, digs (v / 2 ^ n), [1]⟩, ⟨false, [], [1]⟩, 0)) := by
  have kk := S2.new w [.bool false, .slice A1 (digs v).length c1, .slice D1 b1.length d1, .bool s2, .slice A2 n2 c2, .slice D2 m2 d2] [.bool false, .slice none 0 0, .slice none 0 0, .bool false, .slice none 0 0, .slice none 0 0] 26 26 6
  have BW := kk.2.2
  have hcl : (digs (v / 2 ^ n)).length ≤ 20000 := Nat.le_trans (digs_mono (Nat.div_le_self _ _)) hl
  have hDn := fun w' h => down_any A1 c1 (digs v).length (digs v) w' n (by omega) rfl h
  rw [val_digs] at hDn
  obtain ⟨d0, hd0⟩ : ∃ d0, Hid (digs (v / 2 ^ n) = d0) := ⟨_, rfl⟩
  unfold RetW at hDn
  simp only [hd0.out] at hDn hcl
  obtain ⟨W, hW⟩ : ∃ W, W = ((w.alloc (.cells #[.bool false, .slice A1 (digs v).length c1, .slice D1 b1.length d1, .bool s2, .slice A2 n2 c2, .slice D2 m2 d2] 26)).alloc (.cells #[.bool false, .slice none 0 0, .slice none 0 0, .bool false, .slice none 0 0, .slice none 0 0] 26)) := ⟨_, rfl⟩
  go_enter Tryz.func27, Tryz.ntmps27
  go_upto_region 1 with fail
  rw [← hW] at kk BW ⊢
  clear hW
  have i1 := kk.1.cell 1
  go_wp2_with fail
  refine (hDn W (st p1 BW)).mono ?_; rintro e w3 ⟨T, ct, rfl, OT, B3⟩
  clear i1 hDn
  have k3 := kk.nx B3
  have hW2 : w.heap.size + 1 < W.heap.size := kk.2.1.2
  clear kk BW
  go_upto_region 2 with fail
  have i0 := k3.1.cell 0
  go_quiet (fail)
  go_upto_region 4 with fail
  have KK := k3.nx (bdN (Below.refl _ _) nq)
  have O5 := OT.drewN nq
  have hd5 := hd0
  have hb5 := hW2
  clear i0 k3 OT B3
  obtain ⟨w5, hw5⟩ : ∃ w5, w5 = w3.drewN nq := ⟨_, rfl⟩
  rw [← hw5] at KK O5 ⊢
  clear hw5
  have hz500 : w.heap.size + 1 < w5.heap.size := KK.2.1.2
  have OV : OW w5 (w.heap.size + 2) T ct d0 := O5.base_le hb5
  have hI := int_any 0 w5 (by omega) (by omega)
  rw [rwq_zi, rwq_z'] at hI
  go_wp2_with fail
  refine hI.mono ?_; rintro e w6 ⟨E1, e1, F1, f1, E2, e2, F2, f2, rfl, N1, N2, N3, N4, B7⟩
  dsimp only [List.length_nil, List.length_cons, Nat.zero_add] at N1 N2 N3 N4 ⊢
  clear hI
  have KK := KK.nx B7
  have hz50 : w.heap.size + 1 < w5.heap.size := hz500
  have hz60 : w.heap.size + 1 < w6.heap.size := KK.2.1.2
  have OV := OV.below B7 (Nat.le_refl _)
  have L8 := bal w6 (.cells #[.bool false, .slice E1 0 e1, .slice F1 1 f1, .bool false, .slice E2 0 e2, .slice F2 1 f2] 26)
  have Sn := SB.new w6 [.bool false, .slice E1 0 e1, .slice F1 1 f1, .bool false, .slice E2 0 e2, .slice F2 1 f2] 26
  have KK := KK.nx L8
  have hvb := OV.bet
  have OV := OV.alloc (.cells #[.bool false, .slice E1 0 e1, .slice F1 1 f1, .bool false, .slice E2 0 e2, .slice F2 1 f2] 26)
  have b2 := N2.bet
  have b3 := N3.bet
  have b4 := N4.bet
  have hzn : w6.heap.size < (w6.alloc (.cells #[.bool false, .slice E1 0 e1, .slice F1 1 f1, .bool false, .slice E2 0 e2, .slice F2 1 f2] 26)).heap.size := by simp
  have hz6 : w.heap.size + 1 < w6.heap.size := hz60
  obtain ⟨W9, hW9⟩ : ∃ W9, W9 = w6.alloc (.cells #[.bool false, .slice E1 0 e1, .slice F1 1 f1, .bool false, .slice E2 0 e2, .slice F2 1 f2] 26) := ⟨_, rfl⟩
  go_upto_region 5 with fail
  rw [← hW9] at KK Sn OV L8 hzn ⊢
  have n2 := N2.below L8 (Nat.le_refl _)
  have n3 := N3.below L8 (Nat.le_refl _)
  have n4 := N4.below L8 (Nat.le_refl _)
  clear hW9 N1 N2 N3 N4 L8
  have Bd : Below W9.heap.size W9 W9.drew := Below.drew (Below.refl _ _)
  have KK := KK.nx Bd
  have Sn := Sn.nx Bd
  have OV := OV.below Bd (Nat.le_refl _)
  have n2 := n2.below Bd (Nat.le_refl _)
  have n3 := n3.below Bd (Nat.le_refl _)
  have n4 := n4.below Bd (Nat.le_refl _)
  refine AnyU.regionQ 16 17 (fun w' => w'.cell? ⟨w.heap.size, 0, none⟩ = some (.bool false)) rfl (by kernel_rfl) (by kernel_rfl) (by repeat (first | refine quiet_then ?_ | refine quiet_block ?_ | exact quiet_body)) (KK.1.cell 0) (fun Q hQK hq hns hHeld => ?_)
  have hzw : Hid (w6.heap.size < W9.drew.heap.size) := hzn
  generalize W9.drew = w10 at *
  refine AnyU.next (i := 1) (v := ?_) hq hns hHeld rfl rfl (by kernel_rfl) (Or.inl ⟨by rfl, ?_⟩) ?_
  rotate_left
  · intro w' hSw; (try dsimp only at hSw); go_simp <;> with_reducible rfl
  try simp only [List.setIfInBounds_toArray, List.set_cons_zero, List.set_cons_succ]
  refine AnyU.next (i := 3) (v := ?_) hq hns hHeld rfl rfl (by kernel_rfl) (Or.inl ⟨by rfl, ?_⟩) ?_
  rotate_left
  · intro w' hSw; (try dsimp only at hSw); go_simp <;> with_reducible rfl
  try simp only [List.setIfInBounds_toArray, List.set_cons_zero, List.set_cons_succ]
  refine AnyU.next (i := 4) (v := ?_) hq hns hHeld rfl rfl (by kernel_rfl) (Or.inl ⟨by rfl, ?_⟩) ?_
  rotate_left
  · intro w' hSw; (try dsimp only at hSw); go_simp <;> with_reducible rfl
  try simp only [List.setIfInBounds_toArray, List.set_cons_zero, List.set_cons_succ]
  refine AnyU.next (i := 5) (v := ?_) hq hns hHeld rfl rfl (by kernel_rfl) (Or.inl ⟨by rfl, ?_⟩) ?_
  rotate_left
  · intro w' hSw; (try dsimp only at hSw); go_simp <;> with_reducible rfl
  try simp only [List.setIfInBounds_toArray, List.set_cons_zero, List.set_cons_succ]
  refine AnyU.one 0 (by kernel_rfl) rfl (fun K hK => ?_)
  go_simp
  have L10 := bal w10 (.cells #[] 55)
  have OE := OW.empty w10
  have KK := KK.nx L10
  have Sn := Sn.nx L10
  have OV := OV.below L10 (Nat.le_refl _)
  have n2 := n2.below L10 (Nat.le_refl _)
  have n3 := n3.below L10 (Nat.le_refl _)
  have n4 := n4.below L10 (Nat.le_refl _)
  refine hK.out _ _ (.inr (KK.1.cell 0)) (fun hHeld => ?_)
  have hHeld := hHeld.resolve_left (by decide)
  clear hK K L10
  try simp only [List.setIfInBounds_toArray, List.set_cons_zero, List.set_cons_succ]
  refine AnyU.one 2 (by kernel_rfl) rfl (fun K hK => ?_)
  refine step_appW _ rfl _ _ rfl w10.heap.size _ _ _ [] rfl rfl OE _ _ _ d0 rfl rfl _ OV.rw (by simp; omega) (by simp) ?_; intro A6 c6 w11 O11 B11
  clear hHeld
  have hz10 : w6.heap.size < w10.heap.size := hzw.out
  have KK := KK.kb B11 (by omega)
  have Sn := Sn.below B11 (by omega)
  have n2 := n2.kb B11 (fun g' hA => by have := b2 g' hA; omega)
  have n3 := n3.kb B11 (fun g' hA => by have := b3 g' hA; omega)
  have n4 := n4.kb B11 (fun g' hA => by have := b4 g' hA; omega)
  refine hK.out _ _ (.inr (KK.1.cell 0)) (fun hHeld => ?_)
  have hHeld := hHeld.resolve_left (by decide)
  clear hK K OV OE
  try simp only [List.setIfInBounds_toArray, List.set_cons_zero, List.set_cons_succ]
  rw [List.nil_append] at O11 ⊢
  refine AnyU.next (i := 6) (v := ?_) hq hns hHeld rfl rfl (by kernel_rfl) (Or.inl ⟨by rfl, ?_⟩) ?_
  rotate_left
  · intro w' hSw; (try dsimp only at hSw); go_simp <;> with_reducible rfl
  try simp only [List.setIfInBounds_toArray, List.set_cons_zero, List.set_cons_succ]
  refine AnyU.next (i := 7) (v := undef) hq hns hHeld rfl rfl (by kernel_rfl) (Or.inr ⟨by kernel_rfl, rfl⟩) ?_
  try simp only [List.setIfInBounds_toArray, List.set_cons_zero, List.set_cons_succ]
  refine AnyU.next (i := 8) (v := undef) hq hns hHeld rfl rfl (by kernel_rfl) (Or.inr ⟨by kernel_rfl, rfl⟩) ?_
  try simp only [List.setIfInBounds_toArray, List.set_cons_zero, List.set_cons_succ]
  refine AnyU.next (i := 9) (v := undef) hq hns hHeld rfl rfl (by kernel_rfl) (Or.inr ⟨by kernel_rfl, rfl⟩) ?_
  try simp only [List.setIfInBounds_toArray, List.set_cons_zero, List.set_cons_succ]
  refine AnyU.next (i := 10) (v := ?_) hq hns hHeld rfl rfl (by kernel_rfl) (Or.inl ⟨by rfl, ?_⟩) ?_
  rotate_left
  · intro w' hSw; (try dsimp only at hSw); go_simp <;> with_reducible rfl
  try simp only [List.setIfInBounds_toArray, List.set_cons_zero, List.set_cons_succ]
  refine AnyU.next (i := 11) (v := ?_) hq hns hHeld rfl rfl (by kernel_rfl) (Or.inl ⟨by rfl, ?_⟩) ?_
  rotate_left
  · intro w' hSw; (try dsimp only at hSw); go_simp <;> with_reducible rfl
  try simp only [List.setIfInBounds_toArray, List.set_cons_zero, List.set_cons_succ]
  refine AnyU.next (i := 12) (v := ?_) hq hns hHeld rfl rfl (by kernel_rfl) (Or.inl ⟨by rfl, ?_⟩) ?_
  rotate_left
  · intro w' hSw; (try dsimp only at hSw); go_simp <;> with_reducible rfl
  try simp only [List.setIfInBounds_toArray, List.set_cons_zero, List.set_cons_succ]
  have bo := O11.bet
  have f1 := Sn.frozen 1
  have i1 := Sn.cell 1
  refine AnyU.one 13 (by kernel_rfl) rfl (fun K hK => ?_)
  go_simp
  have KK := KK.farS (g := w6.heap.size) (by omega) 1 (.slice A6 d0.length c6)
  have Sn := Sn.set 1 (.slice A6 d0.length c6)
  have n2 := n2.far (p := ⟨w6.heap.size, 1, none⟩) (fun g' hA => by have := b2 g' hA; show g' ≠ w6.heap.size; omega) (.slice A6 d0.length c6)
  have n3 := n3.far (p := ⟨w6.heap.size, 1, none⟩) (fun g' hA => by have := b3 g' hA; show g' ≠ w6.heap.size; omega) (.slice A6 d0.length c6)
  have n4 := n4.far (p := ⟨w6.heap.size, 1, none⟩) (fun g' hA => by have := b4 g' hA; show g' ≠ w6.heap.size; omega) (.slice A6 d0.length c6)
  have O11 := O11.far (p := ⟨w6.heap.size, 1, none⟩) (fun g' hA => by have := bo g' hA; show g' ≠ w6.heap.size; omega) (.slice A6 d0.length c6)
  refine hK.out _ _ (.inr (KK.1.cell 0)) (fun hHeld => ?_)
  have hHeld := hHeld.resolve_left (by decide)
  clear hK K f1 i1
  try simp only [List.setIfInBounds_toArray, List.set_cons_zero, List.set_cons_succ]
  refine AnyU.one 14 (by kernel_rfl) rfl (fun K hK => ?_)
  go_simp
  refine hK.out _ _ (.inr (KK.1.cell 0)) (fun hHeld => ?_)
  have hHeld := hHeld.resolve_left (by decide)
  clear hK K
  try simp only [List.setIfInBounds_toArray, List.set_cons_zero, List.set_cons_succ]
  refine AnyU.one 15 (by kernel_rfl) rfl (fun K hK => ?_)
  go_simp
  refine hK.out _ _ (.inr (KK.1.cell 0)) (fun hHeld => ?_)
  have hHeld := hHeld.resolve_left (by decide)
  clear hK K
  try simp only [List.setIfInBounds_toArray, List.set_cons_zero, List.set_cons_succ]
  have f1 := Sn.frozen 0
  have i1 := Sn.cell 0
  refine AnyU.one 16 (by kernel_rfl) rfl (fun K hK => ?_)
  go_simp
  have KK := KK.farS (g := w6.heap.size) (by omega) 0 (.bool false)
  have Sn := Sn.set 0 (.bool false)
  have n2 := n2.far (p := ⟨w6.heap.size, 0, none⟩) (fun g' hA => by have := b2 g' hA; show g' ≠ w6.heap.size; omega) (.bool false)
  have n3 := n3.far (p := ⟨w6.heap.size, 0, none⟩) (fun g' hA => by have := b3 g' hA; show g' ≠ w6.heap.size; omega) (.bool false)
  have n4 := n4.far (p := ⟨w6.heap.size, 0, none⟩) (fun g' hA => by have := b4 g' hA; show g' ≠ w6.heap.size; omega) (.bool false)
  have O11 := O11.far (p := ⟨w6.heap.size, 0, none⟩) (fun g' hA => by have := bo g' hA; show g' ≠ w6.heap.size; omega) (.bool false)
  refine hK.out _ _ (.inl rfl) (fun _ => ?_)
  clear hK K f1 i1
  try simp only [List.setIfInBounds_toArray, List.set_cons_zero, List.set_cons_succ]
  refine AnyU.done (by kernel_rfl) (hQK.out _ _ ?_)
  clear hQK hq hns
  obtain ⟨W12, hW12⟩ : ∃ W12, (w11.setCell ⟨w6.heap.size, 1, none⟩ (.slice A6 d0.length c6)).setCell ⟨w6.heap.size, 0, none⟩ (.bool false) = W12 := ⟨_, rfl⟩
  rw [hW12] at KK Sn O11 n2 n3 n4
  skip
  have hRC := KK.2.1
  have BB := KK.2.2
  have j0 := Sn.cell 0
  have j1 := Sn.cell 1
  have j2 := Sn.cell 2
  have j3 := Sn.cell 3
  have j4 := Sn.cell 4
  have j5 := Sn.cell 5
  rw [hW12]
  clear hW12
  go_wp2_with (refine wp_st6 rfl (.tmp 4) (.tmp 45) rfl _ rfl _ _ _ _ _ _ rfl hRC rfl rfl rfl rfl rfl rfl ?_)
  clear j0 j1 j2 j3 j4 j5
  have s6 := hRC.put6 (.bool false) (.slice A6 d0.length c6) (.slice F1 1 f1) (.bool false) (.slice E2 0 e2) (.slice F2 1 f2)
  have B6 := wr6_below (b := w.heap.size + 1) BB (by omega) (.bool false) (.slice A6 d0.length c6) (.slice F1 1 f1) (.bool false) (.slice E2 0 e2) (.slice F2 1 f2)
  have O11 := O11.far6 (b := w.heap.size + 1) (fun g' hA => by have := bo g' hA; omega) (.bool false) (.slice A6 d0.length c6) (.slice F1 1 f1) (.bool false) (.slice E2 0 e2) (.slice F2 1 f2)
  have n2 := n2.far6 (b := w.heap.size + 1) (fun g' hA => by have := b2 g' hA; omega) (.bool false) (.slice A6 d0.length c6) (.slice F1 1 f1) (.bool false) (.slice E2 0 e2) (.slice F2 1 f2)
  have n3 := n3.far6 (b := w.heap.size + 1) (fun g' hA => by have := b3 g' hA; omega) (.bool false) (.slice A6 d0.length c6) (.slice F1 1 f1) (.bool false) (.slice E2 0 e2) (.slice F2 1 f2)
  have n4 := n4.far6 (b := w.heap.size + 1) (fun g' hA => by have := b4 g' hA; omega) (.bool false) (.slice A6 d0.length c6) (.slice F1 1 f1) (.bool false) (.slice E2 0 e2) (.slice F2 1 f2)
  have r0' := s6.cell 0
  have r1' := s6.cell 1
  have r2' := s6.cell 2
  have r3' := s6.cell 3
  have r4' := s6.cell 4
  have r5' := s6.cell 5
  refine bodyPost_ret (v := .tuple #[.agg #[.bool false, .slice A6 d0.length c6, .slice F1 1 f1, .bool false, .slice E2 0 e2, .slice F2 1 f2], .int .i64 0]) (by simp [results, r0', r1', r2', r3', r4', r5', go_sem]) rfl ?_
  rw [hd5.out]
  have hz56 : w5.heap.size ≤ w6.heap.size := B7.size
  exact ⟨A6, c6, F1, f1, E2, e2, F2, f2, rfl, O11.base_le (by omega), n2.base_le (by omega), n3.base_le (by omega), n4.base_le (by omega), B6⟩


set_option maxRecDepth 100000 in
set_option maxHeartbeats 16000000 in
theorem bdown_exact (v n : Nat) (hn : n ≤ 20000) (s2 : Bool) (b1 : List Nat) (A1 D1 A2 D2 : Option Addr) (c1 d1 c2 d2 n2 m2 : Nat) (w : World) (hv : v ≠ 0) (he : v / 2 ^ n * 2 ^ n = v) (hl : (digs v).length ≤ 20000) (p1 : RW w w.heap.size A1 c1 (digs v)) :
    Calls Tryz.prog 27 #[.agg #[.bool true, .slice A1 (digs v).length c1, .slice D1 b1.length d1, .bool s2, .slice A2 n2 c2, .slice D2 m2 d2], .int .i64 (n : Int)] w (RetNE w (⟨true, digs (v / 2 ^ n), [1]⟩, ⟨false, [], [1]⟩, 0)) := by
  have kk := S2.new w [.bool true, .slice A1 (digs v).length c1, .slice D1 b1.length d1, .bool s2, .slice A2 n2 c2, .slice D2 m2 d2] [.bool false, .slice none 0 0, .slice none 0 0, .bool false, .slice none 0 0, .slice none 0 0] 26 26 6
  have BW := kk.2.2
  have hcl : (digs (v / 2 ^ n)).length ≤ 20000 := Nat.le_trans (digs_mono (Nat.div_le_self _ _)) hl
  have hDn := fun w' h => down_any A1 c1 (digs v).length (digs v) w' n (by omega) rfl h
  rw [val_digs] at hDn
  have hUp := fun A c w' h => up_any A c (digs (v / 2 ^ n)).length (digs (v / 2 ^ n)) w' n (by omega) rfl h (by omega)
  rw [val_digs] at hUp
  have hOr := fun A c w' h1 h2 => order_any A A1 c c1 _ _ (digs (v / 2 ^ n * 2 ^ n)) (digs v) w' rfl rfl h1 h2 (Nrm_digs _) (Nrm_digs _)
  rw [val_digs, val_digs] at hOr
  have hcm : cmpN (v / 2 ^ n * 2 ^ n) v = 0 := by rw [he]; unfold cmpN; simp
  rw [hcm] at hOr
  clear hcm
  obtain ⟨d0, hd0⟩ : ∃ d0, Hid (digs (v / 2 ^ n) = d0) := ⟨_, rfl⟩
  unfold RetW at hDn hUp
  obtain ⟨u0, hu0⟩ : ∃ u0, Hid (digs (v / 2 ^ n * 2 ^ n) = u0) := ⟨_, rfl⟩
  simp only [hu0.out] at hUp hOr
  have HE := Lib.hid he
  clear he
  have HV := Lib.hid hv
  clear hv
  simp only [hd0.out] at hDn hcl hUp
  obtain ⟨W, hW⟩ : ∃ W, W = ((w.alloc (.cells #[.bool true, .slice A1 (digs v).length c1, .slice D1 b1.length d1, .bool s2, .slice A2 n2 c2, .slice D2 m2 d2] 26)).alloc (.cells #[.bool false, .slice none 0 0, .slice none 0 0, .bool false, .slice none 0 0, .slice none 0 0] 26)) := ⟨_, rfl⟩
  go_enter Tryz.func27, Tryz.ntmps27
  go_upto_region 1 with fail
  rw [← hW] at kk BW ⊢
  clear hW
  have i1 := kk.1.cell 1
  go_wp2_with fail
  refine (hDn W (st p1 BW)).mono ?_; rintro e w3 ⟨T, ct, rfl, OT, B3⟩
  clear i1 hDn
  have k3 := kk.nx B3
  have hW2 : w.heap.size + 1 < W.heap.size := kk.2.1.2
  clear kk BW
  go_upto_region 2 with fail
  have k0 : S2B w w3 w.heap.size [.bool true, .slice A1 (digs v).length c1, .slice D1 b1.length d1, .bool s2, .slice A2 n2 c2, .slice D2 m2 d2] 6 w3 := ⟨k3, Below.refl _ _⟩
  skip
  have k0d := k0.dr
  have k0s := And.intro (k0d.1.1.cell 0) (And.intro (k0d.1.1.cell 1) (k0d))
  go_region_held3 (fun w' => w'.cell? ⟨w.heap.size, 0, none⟩ = some (.bool true) ∧ w'.cell? ⟨w.heap.size, 1, none⟩ = some (.slice A1 (digs v).length c1) ∧ S2B w w3 w.heap.size [.bool true, .slice A1 (digs v).length c1, .slice D1 b1.length d1, .bool s2, .slice A2 n2 c2, .slice D2 m2 d2] 6 w')
    (first
      | with_reducible exact k0s
      | (have s1 := (by with_reducible assumption : _ ∧ _ ∧ S2B w w3 w.heap.size [.bool true, .slice A1 (digs v).length c1, .slice D1 b1.length d1, .bool s2, .slice A2 n2 c2, .slice D2 m2 d2] 6 _).2.2.nx BX; have q0_ := s1.1.1.cell 0; have q1_ := s1.1.1.cell 1; with_reducible exact ⟨q0_, q1_, s1⟩))
    (first
      | (go_at_call 26; have hh := (by with_reducible assumption : _ ∧ _ ∧ S2B w w3 w.heap.size [.bool true, .slice A1 (digs v).length c1, .slice D1 b1.length d1, .bool s2, .slice A2 n2 c2, .slice D2 m2 d2] 6 _).2.2; refine (hUp T ct _ ((OT.below hh.2 (Nat.le_refl _)).rw)).mono ?_; rintro e w21 ⟨U, cu, rfl, OU, BX⟩)
      | (go_at_call 45; have hh := (by with_reducible assumption : _ ∧ _ ∧ S2B w w3 w.heap.size [.bool true, .slice A1 (digs v).length c1, .slice D1 b1.length d1, .bool s2, .slice A2 n2 c2, .slice D2 m2 d2] 6 _).2.2; refine (hOr U cu _ OU.rw (st p1 hh.1.2.2)).mono ?_; rintro e w22 ⟨rfl, qq, rfl⟩; have BX := bdN (Below.refl w21.heap.size w21) qq; have kk := hh.nx BX))
  have KK := kk.1
  have O5 := (OT.below kk.2 (Nat.le_refl _))
  clear kk
  go_upto_region 4 with fail
  obtain ⟨w5, hw5⟩ : ∃ w5, w5 = w21.drewN qq := ⟨_, rfl⟩
  rw [← hw5] at KK O5 ⊢
  clear hw5
  have hd5 := hd0
  have hb5 := hW2
  have hz500 : w.heap.size + 1 < w5.heap.size := KK.2.1.2
  have OV : OW w5 (w.heap.size + 2) T ct d0 := O5.base_le hb5
  have hI := int_any 0 w5 (by omega) (by omega)
  rw [rwq_zi, rwq_z'] at hI
  go_wp2_with fail
  refine hI.mono ?_; rintro e w6 ⟨E1, e1, F1, f1, E2, e2, F2, f2, rfl, N1, N2, N3, N4, B7⟩
  dsimp only [List.length_nil, List.length_cons, Nat.zero_add] at N1 N2 N3 N4 ⊢
  clear hI
  have KK := KK.nx B7
  have hz50 : w.heap.size + 1 < w5.heap.size := hz500
  have hz60 : w.heap.size + 1 < w6.heap.size := KK.2.1.2
  have OV := OV.below B7 (Nat.le_refl _)
  have L8 := bal w6 (.cells #[.bool false, .slice E1 0 e1, .slice F1 1 f1, .bool false, .slice E2 0 e2, .slice F2 1 f2] 26)
  have Sn := SB.new w6 [.bool false, .slice E1 0 e1, .slice F1 1 f1, .bool false, .slice E2 0 e2, .slice F2 1 f2] 26
  have KK := KK.nx L8
  have hvb := OV.bet
  have OV := OV.alloc (.cells #[.bool false, .slice E1 0 e1, .slice F1 1 f1, .bool false, .slice E2 0 e2, .slice F2 1 f2] 26)
  have b2 := N2.bet
  have b3 := N3.bet
  have b4 := N4.bet
  have hzn : w6.heap.size < (w6.alloc (.cells #[.bool false, .slice E1 0 e1, .slice F1 1 f1, .bool false, .slice E2 0 e2, .slice F2 1 f2] 26)).heap.size := by simp
  have hz6 : w.heap.size + 1 < w6.heap.size := hz60
  obtain ⟨W9, hW9⟩ : ∃ W9, W9 = w6.alloc (.cells #[.bool false, .slice E1 0 e1, .slice F1 1 f1, .bool false, .slice E2 0 e2, .slice F2 1 f2] 26) := ⟨_, rfl⟩
  go_upto_region 5 with fail
  rw [← hW9] at KK Sn OV L8 hzn ⊢
  have n2 := N2.below L8 (Nat.le_refl _)
  have n3 := N3.below L8 (Nat.le_refl _)
  have n4 := N4.below L8 (Nat.le_refl _)
  clear hW9 N1 N2 N3 N4 L8
  have Bd : Below W9.heap.size W9 W9.drew := Below.drew (Below.refl _ _)
  have KK := KK.nx Bd
  have Sn := Sn.nx Bd
  have OV := OV.below Bd (Nat.le_refl _)
  have n2 := n2.below Bd (Nat.le_refl _)
  have n3 := n3.below Bd (Nat.le_refl _)
  have n4 := n4.below Bd (Nat.le_refl _)
  have hdp : Hid (0 < d0.length) := by
    show 0 < _
    rw [← hd5.out]
    refine Nat.pos_of_ne_zero (fun h => ?_)
    have h := digs_len0.1 h
    have h1 := HE.out
    rw [h, Nat.zero_mul] at h1
    exact HV.out h1.symm
  have hdl : decide (0 < d0.length) = true := decide_eq_true hdp.out
  refine AnyU.regionQ 16 17 (fun w' => w'.cell? ⟨w.heap.size, 0, none⟩ = some (.bool true)) rfl (by kernel_rfl) (by kernel_rfl) (by repeat (first | refine quiet_then ?_ | refine quiet_block ?_ | exact quiet_body)) (KK.1.cell 0) (fun Q hQK hq hns hHeld => ?_)
  have hzw : Hid (w6.heap.size < W9.drew.heap.size) := hzn
  generalize W9.drew = w10 at *
  refine AnyU.next (i := 1) (v := ?_) hq hns hHeld rfl rfl (by kernel_rfl) (Or.inl ⟨by rfl, ?_⟩) ?_
  rotate_left
  · intro w' hSw; (try dsimp only at hSw); go_simp <;> with_reducible rfl
  try simp only [List.setIfInBounds_toArray, List.set_cons_zero, List.set_cons_succ]
  refine AnyU.next (i := 3) (v := ?_) hq hns hHeld rfl rfl (by kernel_rfl) (Or.inl ⟨by rfl, ?_⟩) ?_
  rotate_left
  · intro w' hSw; (try dsimp only at hSw); go_simp <;> with_reducible rfl
  try simp only [List.setIfInBounds_toArray, List.set_cons_zero, List.set_cons_succ]
  refine AnyU.next (i := 4) (v := ?_) hq hns hHeld rfl rfl (by kernel_rfl) (Or.inl ⟨by rfl, ?_⟩) ?_
  rotate_left
  · intro w' hSw; (try dsimp only at hSw); go_simp <;> with_reducible rfl
  try simp only [List.setIfInBounds_toArray, List.set_cons_zero, List.set_cons_succ]
  refine AnyU.next (i := 5) (v := ?_) hq hns hHeld rfl rfl (by kernel_rfl) (Or.inl ⟨by rfl, ?_⟩) ?_
  rotate_left
  · intro w' hSw; (try dsimp only at hSw); go_simp <;> with_reducible rfl
  try simp only [List.setIfInBounds_toArray, List.set_cons_zero, List.set_cons_succ]
  refine AnyU.one 0 (by kernel_rfl) rfl (fun K hK => ?_)
  go_simp
  have L10 := bal w10 (.cells #[] 55)
  have OE := OW.empty w10
  have KK := KK.nx L10
  have Sn := Sn.nx L10
  have OV := OV.below L10 (Nat.le_refl _)
  have n2 := n2.below L10 (Nat.le_refl _)
  have n3 := n3.below L10 (Nat.le_refl _)
  have n4 := n4.below L10 (Nat.le_refl _)
  refine hK.out _ _ (.inr (KK.1.cell 0)) (fun hHeld => ?_)
  have hHeld := hHeld.resolve_left (by decide)
  clear hK K L10
  try simp only [List.setIfInBounds_toArray, List.set_cons_zero, List.set_cons_succ]
  refine AnyU.one 2 (by kernel_rfl) rfl (fun K hK => ?_)
  refine step_appW _ rfl _ _ rfl w10.heap.size _ _ _ [] rfl rfl OE _ _ _ d0 rfl rfl _ OV.rw (by simp; omega) (by simp) ?_; intro A6 c6 w11 O11 B11
  clear hHeld
  have hz10 : w6.heap.size < w10.heap.size := hzw.out
  have KK := KK.kb B11 (by omega)
  have Sn := Sn.below B11 (by omega)
  have n2 := n2.kb B11 (fun g' hA => by have := b2 g' hA; omega)
  have n3 := n3.kb B11 (fun g' hA => by have := b3 g' hA; omega)
  have n4 := n4.kb B11 (fun g' hA => by have := b4 g' hA; omega)
  refine hK.out _ _ (.inr (KK.1.cell 0)) (fun hHeld => ?_)
  have hHeld := hHeld.resolve_left (by decide)
  clear hK K OV OE
  try simp only [List.setIfInBounds_toArray, List.set_cons_zero, List.set_cons_succ]
  rw [List.nil_append] at O11 ⊢
  refine AnyU.next (i := 6) (v := ?_) hq hns hHeld rfl rfl (by kernel_rfl) (Or.inl ⟨by rfl, ?_⟩) ?_
  rotate_left
  · intro w' hSw; (try dsimp only at hSw); go_simp <;> with_reducible rfl
  try simp only [List.setIfInBounds_toArray, List.set_cons_zero, List.set_cons_succ]
  refine AnyU.next (i := 7) (v := ?_) hq hns hHeld rfl rfl (by kernel_rfl) (Or.inl ⟨by rfl, ?_⟩) ?_
  rotate_left
  · intro w' hSw; (try dsimp only at hSw); go_simp <;> with_reducible rfl
  try simp only [List.setIfInBounds_toArray, List.set_cons_zero, List.set_cons_succ]
  refine AnyU.next (i := 8) (v := ?_) hq hns hHeld rfl rfl (by kernel_rfl) (Or.inl ⟨by rfl, ?_⟩) ?_
  rotate_left
  · intro w' hSw; (try dsimp only at hSw); go_simp <;> with_reducible rfl
  try simp only [List.setIfInBounds_toArray, List.set_cons_zero, List.set_cons_succ]
  refine AnyU.next (i := 9) (v := ?_) hq hns hHeld rfl rfl (by kernel_rfl) (Or.inl ⟨by rfl, ?_⟩) ?_
  rotate_left
  · intro w' hSw; (try dsimp only at hSw); go_simp <;> with_reducible rfl
  try simp only [List.setIfInBounds_toArray, List.set_cons_zero, List.set_cons_succ]
  refine AnyU.next (i := 10) (v := ?_) hq hns hHeld rfl rfl (by kernel_rfl) (Or.inl ⟨by rfl, ?_⟩) ?_
  rotate_left
  · intro w' hSw; (try dsimp only at hSw); go_simp <;> with_reducible rfl
  try simp only [List.setIfInBounds_toArray, List.set_cons_zero, List.set_cons_succ]
  refine AnyU.next (i := 11) (v := ?_) hq hns hHeld rfl rfl (by kernel_rfl) (Or.inl ⟨by rfl, ?_⟩) ?_
  rotate_left
  · intro w' hSw; (try dsimp only at hSw); go_simp <;> with_reducible rfl
  try simp only [List.setIfInBounds_toArray, List.set_cons_zero, List.set_cons_succ]
  refine AnyU.next (i := 12) (v := ?_) hq hns hHeld rfl rfl (by kernel_rfl) (Or.inl ⟨by rfl, ?_⟩) ?_
  rotate_left
  · intro w' hSw; (try dsimp only at hSw); go_simp <;> with_reducible rfl
  try simp only [List.setIfInBounds_toArray, List.set_cons_zero, List.set_cons_succ]
  have bo := O11.bet
  have f1 := Sn.frozen 1
  have i1 := Sn.cell 1
  refine AnyU.one 13 (by kernel_rfl) rfl (fun K hK => ?_)
  go_simp
  have KK := KK.farS (g := w6.heap.size) (by omega) 1 (.slice A6 d0.length c6)
  have Sn := Sn.set 1 (.slice A6 d0.length c6)
  have n2 := n2.far (p := ⟨w6.heap.size, 1, none⟩) (fun g' hA => by have := b2 g' hA; show g' ≠ w6.heap.size; omega) (.slice A6 d0.length c6)
  have n3 := n3.far (p := ⟨w6.heap.size, 1, none⟩) (fun g' hA => by have := b3 g' hA; show g' ≠ w6.heap.size; omega) (.slice A6 d0.length c6)
  have n4 := n4.far (p := ⟨w6.heap.size, 1, none⟩) (fun g' hA => by have := b4 g' hA; show g' ≠ w6.heap.size; omega) (.slice A6 d0.length c6)
  have O11 := O11.far (p := ⟨w6.heap.size, 1, none⟩) (fun g' hA => by have := bo g' hA; show g' ≠ w6.heap.size; omega) (.slice A6 d0.length c6)
  refine hK.out _ _ (.inr (KK.1.cell 0)) (fun hHeld => ?_)
  have hHeld := hHeld.resolve_left (by decide)
  clear hK K f1 i1
  try simp only [List.setIfInBounds_toArray, List.set_cons_zero, List.set_cons_succ]
  refine AnyU.one 14 (by kernel_rfl) rfl (fun K hK => ?_)
  go_simp
  refine hK.out _ _ (.inr (KK.1.cell 0)) (fun hHeld => ?_)
  have hHeld := hHeld.resolve_left (by decide)
  clear hK K
  try simp only [List.setIfInBounds_toArray, List.set_cons_zero, List.set_cons_succ]
  refine AnyU.one 15 (by kernel_rfl) rfl (fun K hK => ?_)
  go_simp
  refine hK.out _ _ (.inr (KK.1.cell 0)) (fun hHeld => ?_)
  have hHeld := hHeld.resolve_left (by decide)
  clear hK K
  try simp only [List.setIfInBounds_toArray, List.set_cons_zero, List.set_cons_succ]
  have f1 := Sn.frozen 0
  have i1 := Sn.cell 0
  refine AnyU.one 16 (by kernel_rfl) rfl (fun K hK => ?_)
  go_simp
  have KK := KK.farS (g := w6.heap.size) (by omega) 0 (.bool true)
  have Sn := Sn.set 0 (.bool true)
  have n2 := n2.far (p := ⟨w6.heap.size, 0, none⟩) (fun g' hA => by have := b2 g' hA; show g' ≠ w6.heap.size; omega) (.bool true)
  have n3 := n3.far (p := ⟨w6.heap.size, 0, none⟩) (fun g' hA => by have := b3 g' hA; show g' ≠ w6.heap.size; omega) (.bool true)
  have n4 := n4.far (p := ⟨w6.heap.size, 0, none⟩) (fun g' hA => by have := b4 g' hA; show g' ≠ w6.heap.size; omega) (.bool true)
  have O11 := O11.far (p := ⟨w6.heap.size, 0, none⟩) (fun g' hA => by have := bo g' hA; show g' ≠ w6.heap.size; omega) (.bool true)
  refine hK.out _ _ (.inl rfl) (fun _ => ?_)
  clear hK K f1 i1
  try simp only [List.setIfInBounds_toArray, List.set_cons_zero, List.set_cons_succ]
  refine AnyU.done (by kernel_rfl) (hQK.out _ _ ?_)
  clear hQK hq hns
  obtain ⟨W12, hW12⟩ : ∃ W12, (w11.setCell ⟨w6.heap.size, 1, none⟩ (.slice A6 d0.length c6)).setCell ⟨w6.heap.size, 0, none⟩ (.bool true) = W12 := ⟨_, rfl⟩
  rw [hW12] at KK Sn O11 n2 n3 n4
  skip
  have hRC := KK.2.1
  have BB := KK.2.2
  have j0 := Sn.cell 0
  have j1 := Sn.cell 1
  have j2 := Sn.cell 2
  have j3 := Sn.cell 3
  have j4 := Sn.cell 4
  have j5 := Sn.cell 5
  rw [hW12]
  clear hW12
  go_wp2_with (refine wp_st6 rfl (.tmp 4) (.tmp 45) rfl _ rfl _ _ _ _ _ _ rfl hRC rfl rfl rfl rfl rfl rfl ?_)
  clear j0 j1 j2 j3 j4 j5
  have s6 := hRC.put6 (.bool true) (.slice A6 d0.length c6) (.slice F1 1 f1) (.bool false) (.slice E2 0 e2) (.slice F2 1 f2)
  have B6 := wr6_below (b := w.heap.size + 1) BB (by omega) (.bool true) (.slice A6 d0.length c6) (.slice F1 1 f1) (.bool false) (.slice E2 0 e2) (.slice F2 1 f2)
  have O11 := O11.far6 (b := w.heap.size + 1) (fun g' hA => by have := bo g' hA; omega) (.bool true) (.slice A6 d0.length c6) (.slice F1 1 f1) (.bool false) (.slice E2 0 e2) (.slice F2 1 f2)
  have n2 := n2.far6 (b := w.heap.size + 1) (fun g' hA => by have := b2 g' hA; omega) (.bool true) (.slice A6 d0.length c6) (.slice F1 1 f1) (.bool false) (.slice E2 0 e2) (.slice F2 1 f2)
  have n3 := n3.far6 (b := w.heap.size + 1) (fun g' hA => by have := b3 g' hA; omega) (.bool true) (.slice A6 d0.length c6) (.slice F1 1 f1) (.bool false) (.slice E2 0 e2) (.slice F2 1 f2)
  have n4 := n4.far6 (b := w.heap.size + 1) (fun g' hA => by have := b4 g' hA; omega) (.bool true) (.slice A6 d0.length c6) (.slice F1 1 f1) (.bool false) (.slice E2 0 e2) (.slice F2 1 f2)
  have r0' := s6.cell 0
  have r1' := s6.cell 1
  have r2' := s6.cell 2
  have r3' := s6.cell 3
  have r4' := s6.cell 4
  have r5' := s6.cell 5
  refine bodyPost_ret (v := .tuple #[.agg #[.bool true, .slice A6 d0.length c6, .slice F1 1 f1, .bool false, .slice E2 0 e2, .slice F2 1 f2], .int .i64 0]) (by simp [results, r0', r1', r2', r3', r4', r5', go_sem]) rfl ?_
  rw [hd5.out]
  have hz56 : w5.heap.size ≤ w6.heap.size := B7.size
  exact ⟨A6, c6, F1, f1, E2, e2, F2, f2, rfl, O11.base_le (by omega), n2.base_le (by omega), n3.base_le (by omega), n4.base_le (by omega), B6⟩


set_option maxRecDepth 100000 in
set_option maxHeartbeats 16000000 in
theorem bdown_more (v n : Nat) (hn : n ≤ 20000) (s2 : Bool) (b1 : List Nat) (A1 D1 A2 D2 : Option Addr) (c1 d1 c2 d2 n2 m2 : Nat) (w : World) (he : ¬ v / 2 ^ n * 2 ^ n = v) (hl : (digs v).length ≤ 20000) (p1 : RW w w.heap.size A1 c1 (digs v)) :
    Calls Tryz.prog 27 #[.agg #[.bool true, .slice A1 (digs v).length c1, .slice D1 b1.length d1, .bool s2, .slice A2 n2 c2, .slice D2 m2 d2], .int .i64 (n : Int)] w (RetNE w (⟨true, digs (v / 2 ^ n + 1), [1]⟩, ⟨false, [], [1]⟩, 0)) := by
  have kk := S2.new w [.bool true, .slice A1 (digs v).length c1, .slice D1 b1.length d1, .bool s2, .slice A2 n2 c2, .slice D2 m2 d2] [.bool false, .slice none 0 0, .slice none 0 0, .bool false, .slice none 0 0, .slice none 0 0] 26 26 6
  have BW := kk.2.2
  have hcl : (digs (v / 2 ^ n)).length ≤ 20000 := Nat.le_trans (digs_mono (Nat.div_le_self _ _)) hl
  have hDn := fun w' h => down_any A1 c1 (digs v).length (digs v) w' n (by omega) rfl h
  rw [val_digs] at hDn
  have hUp := fun A c w' h => up_any A c (digs (v / 2 ^ n)).length (digs (v / 2 ^ n)) w' n (by omega) rfl h (by omega)
  rw [val_digs] at hUp
  have hOr := fun A c w' h1 h2 => order_any A A1 c c1 _ _ (digs (v / 2 ^ n * 2 ^ n)) (digs v) w' rfl rfl h1 h2 (Nrm_digs _) (Nrm_digs _)
  rw [val_digs, val_digs] at hOr
  obtain ⟨cm, hcm⟩ : ∃ z, Hid (cmpN (v / 2 ^ n * 2 ^ n) v = z) := ⟨_, rfl⟩
  have hcn : (cm != 0) = true := by
    have h1 := hcm.out
    rw [bne_iff_ne, ← h1]
    unfold cmpN
    split
    · decide
    · decide
  rw [hcm.out] at hOr
  obtain ⟨d0, hd0⟩ : ∃ d0, Hid (digs (v / 2 ^ n) = d0) := ⟨_, rfl⟩
  unfold RetW at hDn hUp
  obtain ⟨u0, hu0⟩ : ∃ u0, Hid (digs (v / 2 ^ n * 2 ^ n) = u0) := ⟨_, rfl⟩
  simp only [hu0.out] at hUp hOr
  have HE := Lib.hid he
  clear he
  simp only [hd0.out] at hDn hcl hUp
  obtain ⟨W, hW⟩ : ∃ W, W = ((w.alloc (.cells #[.bool true, .slice A1 (digs v).length c1, .slice D1 b1.length d1, .bool s2, .slice A2 n2 c2, .slice D2 m2 d2] 26)).alloc (.cells #[.bool false, .slice none 0 0, .slice none 0 0, .bool false, .slice none 0 0, .slice none 0 0] 26)) := ⟨_, rfl⟩
  go_enter Tryz.func27, Tryz.ntmps27
  go_upto_region 1 with fail
  rw [← hW] at kk BW ⊢
  clear hW
  have i1 := kk.1.cell 1
  go_wp2_with fail
  refine (hDn W (st p1 BW)).mono ?_; rintro e w3 ⟨T, ct, rfl, OT, B3⟩
  clear i1 hDn
  have k3 := kk.nx B3
  have hW2 : w.heap.size + 1 < W.heap.size := kk.2.1.2
  clear kk BW
  go_upto_region 2 with fail
  have k0 : S2B w w3 w.heap.size [.bool true, .slice A1 (digs v).length c1, .slice D1 b1.length d1, .bool s2, .slice A2 n2 c2, .slice D2 m2 d2] 6 w3 := ⟨k3, Below.refl _ _⟩
  skip
  have k0d := k0.dr
  have k0s := And.intro (k0d.1.1.cell 0) (And.intro (k0d.1.1.cell 1) (k0d))
  go_region_held3 (fun w' => w'.cell? ⟨w.heap.size, 0, none⟩ = some (.bool true) ∧ w'.cell? ⟨w.heap.size, 1, none⟩ = some (.slice A1 (digs v).length c1) ∧ S2B w w3 w.heap.size [.bool true, .slice A1 (digs v).length c1, .slice D1 b1.length d1, .bool s2, .slice A2 n2 c2, .slice D2 m2 d2] 6 w')
    (first
      | with_reducible exact k0s
      | (have s1 := (by with_reducible assumption : _ ∧ _ ∧ S2B w w3 w.heap.size [.bool true, .slice A1 (digs v).length c1, .slice D1 b1.length d1, .bool s2, .slice A2 n2 c2, .slice D2 m2 d2] 6 _).2.2.nx BX; have q0_ := s1.1.1.cell 0; have q1_ := s1.1.1.cell 1; with_reducible exact ⟨q0_, q1_, s1⟩))
    (first
      | (go_at_call 26; have hh := (by with_reducible assumption : _ ∧ _ ∧ S2B w w3 w.heap.size [.bool true, .slice A1 (digs v).length c1, .slice D1 b1.length d1, .bool s2, .slice A2 n2 c2, .slice D2 m2 d2] 6 _).2.2; refine (hUp T ct _ ((OT.below hh.2 (Nat.le_refl _)).rw)).mono ?_; rintro e w21 ⟨U, cu, rfl, OU, BX⟩)
      | (go_at_call 45; have hh := (by with_reducible assumption : _ ∧ _ ∧ S2B w w3 w.heap.size [.bool true, .slice A1 (digs v).length c1, .slice D1 b1.length d1, .bool s2, .slice A2 n2 c2, .slice D2 m2 d2] 6 _).2.2; refine (hOr U cu _ OU.rw (st p1 hh.1.2.2)).mono ?_; rintro e w22 ⟨rfl, qq, rfl⟩; have BX := bdN (Below.refl w21.heap.size w21) qq; have kk := hh.nx BX))
  have KK := kk.1
  have O5 := (OT.below kk.2 (Nat.le_refl _))
  clear kk
  have L4 := bal (w21.drewN qq) (.cells #[.int .u32 (1 : Int)] 55)
  have hone : RW ((w21.drewN qq).alloc (.cells #[.int .u32 (1 : Int)] 55)) ((w21.drewN qq).heap.size + 1) (some ⟨(w21.drewN qq).heap.size, 0, none⟩) 1 [1] := RW.one (w21.drewN qq) 55 (x := 1) (by omega)
  have KK := KK.nx L4
  have O5 := O5.alloc (.cells #[.int .u32 (1 : Int)] 55)
  have hz5 := KK.2.1.2
  have hPl := plus_any T (some ⟨(w21.drewN qq).heap.size, 0, none⟩) ct 1 d0.length 1 d0 [1] _ rfl rfl O5.rw (hone.more (by simp)) (by omega) (by simp)
  have hvl : val d0 + val [1] = v / 2 ^ n + 1 := by rw [← hd0.out, val_digs]; rfl
  rw [hvl] at hPl
  obtain ⟨d5, hd5⟩ : ∃ d5, Hid (digs (v / 2 ^ n + 1) = d5) := ⟨_, rfl⟩
  have hd5l : d5.length ≤ 20001 := by
    rw [← hd5.out]
    exact digs_add (k := 20000) (by rw [hd0.out]; exact hcl) (by rw [digs_one1]; simp)
  unfold RetW at hPl
  rw [hd5.out] at hPl
  clear hvl
  go_wp2_with fail
  refine hPl.mono ?_; rintro e w5 ⟨T5, ct5, rfl, O6, B6⟩
  have KK := KK.nx B6
  clear O5 hPl hone
  have hb5 := hz5
  go_upto_region 4 with fail
  have hz500 : w.heap.size + 1 < w5.heap.size := KK.2.1.2
  have OV : OW w5 (w.heap.size + 2) T5 ct5 d5 := O6.base_le hb5
  have hI := int_any 0 w5 (by omega) (by omega)
  rw [rwq_zi, rwq_z'] at hI
  go_wp2_with fail
  refine hI.mono ?_; rintro e w6 ⟨E1, e1, F1, f1, E2, e2, F2, f2, rfl, N1, N2, N3, N4, B7⟩
  dsimp only [List.length_nil, List.length_cons, Nat.zero_add] at N1 N2 N3 N4 ⊢
  clear hI
  have KK := KK.nx B7
  have hz50 : w.heap.size + 1 < w5.heap.size := hz500
  have hz60 : w.heap.size + 1 < w6.heap.size := KK.2.1.2
  have OV := OV.below B7 (Nat.le_refl _)
  have L8 := bal w6 (.cells #[.bool false, .slice E1 0 e1, .slice F1 1 f1, .bool false, .slice E2 0 e2, .slice F2 1 f2] 26)
  have Sn := SB.new w6 [.bool false, .slice E1 0 e1, .slice F1 1 f1, .bool false, .slice E2 0 e2, .slice F2 1 f2] 26
  have KK := KK.nx L8
  have hvb := OV.bet
  have OV := OV.alloc (.cells #[.bool false, .slice E1 0 e1, .slice F1 1 f1, .bool false, .slice E2 0 e2, .slice F2 1 f2] 26)
  have b2 := N2.bet
  have b3 := N3.bet
  have b4 := N4.bet
  have hzn : w6.heap.size < (w6.alloc (.cells #[.bool false, .slice E1 0 e1, .slice F1 1 f1, .bool false, .slice E2 0 e2, .slice F2 1 f2] 26)).heap.size := by simp
  have hz6 : w.heap.size + 1 < w6.heap.size := hz60
  obtain ⟨W9, hW9⟩ : ∃ W9, W9 = w6.alloc (.cells #[.bool false, .slice E1 0 e1, .slice F1 1 f1, .bool false, .slice E2 0 e2, .slice F2 1 f2] 26) := ⟨_, rfl⟩
  go_upto_region 5 with fail
  rw [← hW9] at KK Sn OV L8 hzn ⊢
  have n2 := N2.below L8 (Nat.le_refl _)
  have n3 := N3.below L8 (Nat.le_refl _)
  have n4 := N4.below L8 (Nat.le_refl _)
  clear hW9 N1 N2 N3 N4 L8
  have Bd : Below W9.heap.size W9 W9.drew := Below.drew (Below.refl _ _)
  have KK := KK.nx Bd
  have Sn := Sn.nx Bd
  have OV := OV.below Bd (Nat.le_refl _)
  have n2 := n2.below Bd (Nat.le_refl _)
  have n3 := n3.below Bd (Nat.le_refl _)
  have n4 := n4.below Bd (Nat.le_refl _)
  have hdp : Hid (0 < d5.length) := by
    show 0 < _
    rw [← hd5.out]
    refine Nat.pos_of_ne_zero (fun h => ?_)
    have h := digs_len0.1 h
    exact absurd h (Nat.succ_ne_zero _)
  have hdl : decide (0 < d5.length) = true := decide_eq_true hdp.out
  refine AnyU.regionQ 16 17 (fun w' => w'.cell? ⟨w.heap.size, 0, none⟩ = some (.bool true)) rfl (by kernel_rfl) (by kernel_rfl) (by repeat (first | refine quiet_then ?_ | refine quiet_block ?_ | exact quiet_body)) (KK.1.cell 0) (fun Q hQK hq hns hHeld => ?_)
  have hzw : Hid (w6.heap.size < W9.drew.heap.size) := hzn
  generalize W9.drew = w10 at *
  refine AnyU.next (i := 1) (v := ?_) hq hns hHeld rfl rfl (by kernel_rfl) (Or.inl ⟨by rfl, ?_⟩) ?_
  rotate_left
  · intro w' hSw; (try dsimp only at hSw); go_simp <;> with_reducible rfl
  try simp only [List.setIfInBounds_toArray, List.set_cons_zero, List.set_cons_succ]
  refine AnyU.next (i := 3) (v := ?_) hq hns hHeld rfl rfl (by kernel_rfl) (Or.inl ⟨by rfl, ?_⟩) ?_
  rotate_left
  · intro w' hSw; (try dsimp only at hSw); go_simp <;> with_reducible rfl
  try simp only [List.setIfInBounds_toArray, List.set_cons_zero, List.set_cons_succ]
  refine AnyU.next (i := 4) (v := ?_) hq hns hHeld rfl rfl (by kernel_rfl) (Or.inl ⟨by rfl, ?_⟩) ?_
  rotate_left
  · intro w' hSw; (try dsimp only at hSw); go_simp <;> with_reducible rfl
  try simp only [List.setIfInBounds_toArray, List.set_cons_zero, List.set_cons_succ]
  refine AnyU.next (i := 5) (v := ?_) hq hns hHeld rfl rfl (by kernel_rfl) (Or.inl ⟨by rfl, ?_⟩) ?_
  rotate_left
  · intro w' hSw; (try dsimp only at hSw); go_simp <;> with_reducible rfl
  try simp only [List.setIfInBounds_toArray, List.set_cons_zero, List.set_cons_succ]
  refine AnyU.one 0 (by kernel_rfl) rfl (fun K hK => ?_)
  go_simp
  have L10 := bal w10 (.cells #[] 55)
  have OE := OW.empty w10
  have KK := KK.nx L10
  have Sn := Sn.nx L10
  have OV := OV.below L10 (Nat.le_refl _)
  have n2 := n2.below L10 (Nat.le_refl _)
  have n3 := n3.below L10 (Nat.le_refl _)
  have n4 := n4.below L10 (Nat.le_refl _)
  refine hK.out _ _ (.inr (KK.1.cell 0)) (fun hHeld => ?_)
  have hHeld := hHeld.resolve_left (by decide)
  clear hK K L10
  try simp only [List.setIfInBounds_toArray, List.set_cons_zero, List.set_cons_succ]
  refine AnyU.one 2 (by kernel_rfl) rfl (fun K hK => ?_)
  refine step_appW _ rfl _ _ rfl w10.heap.size _ _ _ [] rfl rfl OE _ _ _ d5 rfl rfl _ OV.rw (by simp; omega) (by simp) ?_; intro A6 c6 w11 O11 B11
  clear hHeld
  have hz10 : w6.heap.size < w10.heap.size := hzw.out
  have KK := KK.kb B11 (by omega)
  have Sn := Sn.below B11 (by omega)
  have n2 := n2.kb B11 (fun g' hA => by have := b2 g' hA; omega)
  have n3 := n3.kb B11 (fun g' hA => by have := b3 g' hA; omega)
  have n4 := n4.kb B11 (fun g' hA => by have := b4 g' hA; omega)
  refine hK.out _ _ (.inr (KK.1.cell 0)) (fun hHeld => ?_)
  have hHeld := hHeld.resolve_left (by decide)
  clear hK K OV OE
  try simp only [List.setIfInBounds_toArray, List.set_cons_zero, List.set_cons_succ]
  rw [List.nil_append] at O11 ⊢
  refine AnyU.next (i := 6) (v := ?_) hq hns hHeld rfl rfl (by kernel_rfl) (Or.inl ⟨by rfl, ?_⟩) ?_
  rotate_left
  · intro w' hSw; (try dsimp only at hSw); go_simp <;> with_reducible rfl
  try simp only [List.setIfInBounds_toArray, List.set_cons_zero, List.set_cons_succ]
  refine AnyU.next (i := 7) (v := ?_) hq hns hHeld rfl rfl (by kernel_rfl) (Or.inl ⟨by rfl, ?_⟩) ?_
  rotate_left
  · intro w' hSw; (try dsimp only at hSw); go_simp <;> with_reducible rfl
  try simp only [List.setIfInBounds_toArray, List.set_cons_zero, List.set_cons_succ]
  refine AnyU.next (i := 8) (v := ?_) hq hns hHeld rfl rfl (by kernel_rfl) (Or.inl ⟨by rfl, ?_⟩) ?_
  rotate_left
  · intro w' hSw; (try dsimp only at hSw); go_simp <;> with_reducible rfl
  try simp only [List.setIfInBounds_toArray, List.set_cons_zero, List.set_cons_succ]
  refine AnyU.next (i := 9) (v := ?_) hq hns hHeld rfl rfl (by kernel_rfl) (Or.inl ⟨by rfl, ?_⟩) ?_
  rotate_left
  · intro w' hSw; (try dsimp only at hSw); go_simp <;> with_reducible rfl
  try simp only [List.setIfInBounds_toArray, List.set_cons_zero, List.set_cons_succ]
  refine AnyU.next (i := 10) (v := ?_) hq hns hHeld rfl rfl (by kernel_rfl) (Or.inl ⟨by rfl, ?_⟩) ?_
  rotate_left
  · intro w' hSw; (try dsimp only at hSw); go_simp <;> with_reducible rfl
  try simp only [List.setIfInBounds_toArray, List.set_cons_zero, List.set_cons_succ]
  refine AnyU.next (i := 11) (v := ?_) hq hns hHeld rfl rfl (by kernel_rfl) (Or.inl ⟨by rfl, ?_⟩) ?_
  rotate_left
  · intro w' hSw; (try dsimp only at hSw); go_simp <;> with_reducible rfl
  try simp only [List.setIfInBounds_toArray, List.set_cons_zero, List.set_cons_succ]
  refine AnyU.next (i := 12) (v := ?_) hq hns hHeld rfl rfl (by kernel_rfl) (Or.inl ⟨by rfl, ?_⟩) ?_
  rotate_left
  · intro w' hSw; (try dsimp only at hSw); go_simp <;> with_reducible rfl
  try simp only [List.setIfInBounds_toArray, List.set_cons_zero, List.set_cons_succ]
  have bo := O11.bet
  have f1 := Sn.frozen 1
  have i1 := Sn.cell 1
  refine AnyU.one 13 (by kernel_rfl) rfl (fun K hK => ?_)
  go_simp
  have KK := KK.farS (g := w6.heap.size) (by omega) 1 (.slice A6 d5.length c6)
  have Sn := Sn.set 1 (.slice A6 d5.length c6)
  have n2 := n2.far (p := ⟨w6.heap.size, 1, none⟩) (fun g' hA => by have := b2 g' hA; show g' ≠ w6.heap.size; omega) (.slice A6 d5.length c6)
  have n3 := n3.far (p := ⟨w6.heap.size, 1, none⟩) (fun g' hA => by have := b3 g' hA; show g' ≠ w6.heap.size; omega) (.slice A6 d5.length c6)
  have n4 := n4.far (p := ⟨w6.heap.size, 1, none⟩) (fun g' hA => by have := b4 g' hA; show g' ≠ w6.heap.size; omega) (.slice A6 d5.length c6)
  have O11 := O11.far (p := ⟨w6.heap.size, 1, none⟩) (fun g' hA => by have := bo g' hA; show g' ≠ w6.heap.size; omega) (.slice A6 d5.length c6)
  refine hK.out _ _ (.inr (KK.1.cell 0)) (fun hHeld => ?_)
  have hHeld := hHeld.resolve_left (by decide)
  clear hK K f1 i1
  try simp only [List.setIfInBounds_toArray, List.set_cons_zero, List.set_cons_succ]
  refine AnyU.one 14 (by kernel_rfl) rfl (fun K hK => ?_)
  go_simp
  refine hK.out _ _ (.inr (KK.1.cell 0)) (fun hHeld => ?_)
  have hHeld := hHeld.resolve_left (by decide)
  clear hK K
  try simp only [List.setIfInBounds_toArray, List.set_cons_zero, List.set_cons_succ]
  refine AnyU.one 15 (by kernel_rfl) rfl (fun K hK => ?_)
  go_simp
  refine hK.out _ _ (.inr (KK.1.cell 0)) (fun hHeld => ?_)
  have hHeld := hHeld.resolve_left (by decide)
  clear hK K
  try simp only [List.setIfInBounds_toArray, List.set_cons_zero, List.set_cons_succ]
  have f1 := Sn.frozen 0
  have i1 := Sn.cell 0
  refine AnyU.one 16 (by kernel_rfl) rfl (fun K hK => ?_)
  go_simp
  have KK := KK.farS (g := w6.heap.size) (by omega) 0 (.bool true)
  have Sn := Sn.set 0 (.bool true)
  have n2 := n2.far (p := ⟨w6.heap.size, 0, none⟩) (fun g' hA => by have := b2 g' hA; show g' ≠ w6.heap.size; omega) (.bool true)
  have n3 := n3.far (p := ⟨w6.heap.size, 0, none⟩) (fun g' hA => by have := b3 g' hA; show g' ≠ w6.heap.size; omega) (.bool true)
  have n4 := n4.far (p := ⟨w6.heap.size, 0, none⟩) (fun g' hA => by have := b4 g' hA; show g' ≠ w6.heap.size; omega) (.bool true)
  have O11 := O11.far (p := ⟨w6.heap.size, 0, none⟩) (fun g' hA => by have := bo g' hA; show g' ≠ w6.heap.size; omega) (.bool true)
  refine hK.out _ _ (.inl rfl) (fun _ => ?_)
  clear hK K f1 i1
  try simp only [List.setIfInBounds_toArray, List.set_cons_zero, List.set_cons_succ]
  refine AnyU.done (by kernel_rfl) (hQK.out _ _ ?_)
  clear hQK hq hns
  obtain ⟨W12, hW12⟩ : ∃ W12, (w11.setCell ⟨w6.heap.size, 1, none⟩ (.slice A6 d5.length c6)).setCell ⟨w6.heap.size, 0, none⟩ (.bool true) = W12 := ⟨_, rfl⟩
  rw [hW12] at KK Sn O11 n2 n3 n4
  skip
  have hRC := KK.2.1
  have BB := KK.2.2
  have j0 := Sn.cell 0
  have j1 := Sn.cell 1
  have j2 := Sn.cell 2
  have j3 := Sn.cell 3
  have j4 := Sn.cell 4
  have j5 := Sn.cell 5
  rw [hW12]
  clear hW12
  go_wp2_with (refine wp_st6 rfl (.tmp 4) (.tmp 45) rfl _ rfl _ _ _ _ _ _ rfl hRC rfl rfl rfl rfl rfl rfl ?_)
  clear j0 j1 j2 j3 j4 j5
  have s6 := hRC.put6 (.bool true) (.slice A6 d5.length c6) (.slice F1 1 f1) (.bool false) (.slice E2 0 e2) (.slice F2 1 f2)
  have B6 := wr6_below (b := w.heap.size + 1) BB (by omega) (.bool true) (.slice A6 d5.length c6) (.slice F1 1 f1) (.bool false) (.slice E2 0 e2) (.slice F2 1 f2)
  have O11 := O11.far6 (b := w.heap.size + 1) (fun g' hA => by have := bo g' hA; omega) (.bool true) (.slice A6 d5.length c6) (.slice F1 1 f1) (.bool false) (.slice E2 0 e2) (.slice F2 1 f2)
  have n2 := n2.far6 (b := w.heap.size + 1) (fun g' hA => by have := b2 g' hA; omega) (.bool true) (.slice A6 d5.length c6) (.slice F1 1 f1) (.bool false) (.slice E2 0 e2) (.slice F2 1 f2)
  have n3 := n3.far6 (b := w.heap.size + 1) (fun g' hA => by have := b3 g' hA; omega) (.bool true) (.slice A6 d5.length c6) (.slice F1 1 f1) (.bool false) (.slice E2 0 e2) (.slice F2 1 f2)
  have n4 := n4.far6 (b := w.heap.size + 1) (fun g' hA => by have := b4 g' hA; omega) (.bool true) (.slice A6 d5.length c6) (.slice F1 1 f1) (.bool false) (.slice E2 0 e2) (.slice F2 1 f2)
  have r0' := s6.cell 0
  have r1' := s6.cell 1
  have r2' := s6.cell 2
  have r3' := s6.cell 3
  have r4' := s6.cell 4
  have r5' := s6.cell 5
  refine bodyPost_ret (v := .tuple #[.agg #[.bool true, .slice A6 d5.length c6, .slice F1 1 f1, .bool false, .slice E2 0 e2, .slice F2 1 f2], .int .i64 0]) (by simp [results, r0', r1', r2', r3', r4', r5', go_sem]) rfl ?_
  rw [hd5.out]
  have hz56 : w5.heap.size ≤ w6.heap.size := B7.size
  exact ⟨A6, c6, F1, f1, E2, e2, F2, f2, rfl, O11.base_le (by omega), n2.base_le (by omega), n3.base_le (by omega), n4.base_le (by omega), B6⟩

/-- down of a whole number: over a power of 2, down to a whole number -/
theorem bdown_any (X : Int) (n : Nat) (hn : n ≤ 20000) (s1 s2 : Bool) (a1 b1 : List Nat) (A1 D1 A2 D2 : Option Addr) (c1 d1 c2 d2 n2 m2 : Nat) (w : World) (h : (⟨s1, a1, b1⟩ : Rw) = rwq ((X : Int) : Rat)) (hl : a1.length ≤ 20000) (p1 : RW w w.heap.size A1 c1 a1) :
    Calls Tryz.prog 27 #[.agg #[.bool s1, .slice A1 a1.length c1, .slice D1 b1.length d1, .bool s2, .slice A2 n2 c2, .slice D2 m2 d2], .int .i64 (n : Int)] w (RetNE w (rwq (((X / ((2 ^ n : Nat) : Int) : Int)) : Rat), rwq 0, 0)) := by
  have e1 : s1 = decide (X < 0) := congrArg Rw.s h
  have e2 : a1 = digs X.natAbs := congrArg Rw.a h
  by_cases hX : X < 0
  · obtain ⟨v, rfl⟩ : ∃ v : Nat, X = sgn true v := ⟨X.natAbs, by rw [sgn_true]; omega⟩
    rw [decide_eq_true hX] at e1
    have hv : v ≠ 0 := fun e => by rw [e, sgn_true] at hX; omega
    rw [show (sgn true v).natAbs = v by rw [sgn_true]; omega] at e2
    subst e1 e2
    rw [down_neg v n hv]
    by_cases he : v / 2 ^ n * 2 ^ n = v
    · rw [if_pos he, fit_in (fun h => by rw [h, Nat.zero_mul] at he; exact absurd he.symm hv)]
      exact bdown_exact v n hn s2 b1 A1 D1 A2 D2 c1 d1 c2 d2 n2 m2 w hv he hl p1
    · rw [if_neg he, fit_in (fun h => absurd h (Nat.succ_ne_zero _))]
      exact bdown_more v n hn s2 b1 A1 D1 A2 D2 c1 d1 c2 d2 n2 m2 w he hl p1
  · obtain ⟨v, rfl⟩ : ∃ v : Nat, X = sgn false v := ⟨X.natAbs, by rw [sgn_false]; omega⟩
    rw [decide_eq_false hX] at e1
    rw [show (sgn false v).natAbs = v by rw [sgn_false]; omega] at e2
    subst e1 e2
    rw [down_pos v n, fit_in (fun _ => rfl)]
    exact bdown_pos v n hn s2 b1 A1 D1 A2 D2 c1 d1 c2 d2 n2 m2 w hl p1

end Go.Proofs.YtbgggepdlkbpoaaGreatDoor
