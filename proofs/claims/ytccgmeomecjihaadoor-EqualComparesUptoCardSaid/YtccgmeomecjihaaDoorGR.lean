/- Merged texts: DatS, DatV, EqC. -/
import Derived.Test.YtccgmeomecjihaaDoorGJ
import Derived.Test.YtccgmeomecjihaaDoorGQ
import Derived.Test.YtccgmeomecjihaaDoorGL
namespace Go.Proofs.YtccgmeomecjihaaDoor
open Go.RowKit

theorem RD.words {w : World} {B : Nat} {a : Dat} {x0 x1 x2 x5 x8 x9 x10 : Value} {A1 D1 A2 D2 : Option Addr} {n1 m1 n2 m2 c1 d1 c2 d2 : Nat} (h : RD w B a (.agg #[x0, x1, x2, .slice A1 n1 c1, .slice D1 m1 d1, x5, .slice A2 n2 c2, .slice D2 m2 d2, x8, x9, x10])) : RW w B A1 c1 a.re.a ∧ RW w B D1 d1 a.re.b ∧ RW w B A2 c2 a.im.a ∧ RW w B D2 d2 a.im.b := by
  obtain ⟨_, _, _, _, _, _, _, _, _, _, _, _, hv, ⟨h1, h2, h3, h4, -⟩, -⟩ := h.view
  have := congrArg Array.toList (Value.agg.inj hv)
  simp only [List.cons.injEq, Value.slice.injEq] at this
  rw [this.2.2.2.1.1, this.2.2.2.1.2.2, this.2.2.2.2.1.1, this.2.2.2.2.1.2.2, this.2.2.2.2.2.2.1.1, this.2.2.2.2.2.2.1.2.2, this.2.2.2.2.2.2.2.1.1, this.2.2.2.2.2.2.2.1.2.2]
  exact ⟨h1, h2, h3, h4⟩
theorem shape_valid {v : ByteArray → Bool} {d : Dat} (h : d.shape v = true) : v d.t = true := by
  unfold Dat.shape at h
  simp only [Bool.and_eq_true] at h
  exact h.2.2.1
theorem ord_raw' {nm : Rw → Rw → Rw → Rw → Int} {a b : Dat} (h : a.k = b.k) (h7 : a.k = 7) : a.ord nm b = cmpL (a.raw.map (·.toNat)) (b.raw.map (·.toNat)) := by
  rw [ord_at h, if_neg (by omega), if_neg (textK_no (by omega)), if_pos h7]
theorem ord_list {nm : Rw → Rw → Rw → Rw → Int} {a b : Dat} (h : a.k = b.k) (h9 : a.k = 8 ∨ a.k = 9) : a.ord nm b = if cmpZ a.l.length b.l.length ≠ 0 then cmpZ a.l.length b.l.length else ordL nm a.l b.l := by
  rw [ord_at h, if_neg (by omega), if_neg (textK_no (by omega)), if_neg (by omega), if_pos h9]
theorem raw_le (l : List UInt8) : ∀ x ∈ l.map (·.toNat), x < 2147483648 := by
  intro x hx
  obtain ⟨y, _, rfl⟩ := List.mem_map.1 hx
  have := y.toNat_lt
  omega
/-- the order of fractions that are sound -/
theorem rOrd_any {V U : Value} {r r' : Rw} {w : World} (hV : VR w w.heap.size V r.s r.a r.b) (hU : VR w w.heap.size U r'.s r'.a r'.b) (h : rsB r.s r.a r.b = true) (h' : rsB r'.s r'.a r'.b = true) :
    Calls Tryd.prog 25 #[V, U] w fun e w' => e = .returned (.int .i64 (cmpQ (qv r) (qv r'))) ∧ Below w.heap.size w w' := by
  obtain ⟨x, rfl, h1⟩ := rw_rat h
  obtain ⟨y, rfl, h2⟩ := rw_rat h'
  rw [qv_rwq, qv_rwq]
  exact rratOrder_any V U x y w hV hU (by omega)

set_option maxRecDepth 100000 in
set_option maxHeartbeats 16000000 in
theorem rord_go (m : Nat) : ∀ (p q : Dat), SizeOf.sizeOf p ≤ m → ∀ (vp vq : Value) (w : World), RD w w.heap.size p vp → RD w w.heap.size q vq → p.Good vU → q.Good vU →
    Calls Tryd.prog 16 #[vp, vq] w fun e w' => e = .returned (.int .i64 (p.ord numQ q)) ∧ Below w.heap.size w w' := by
  induction m with
  | zero =>
    intro p q hd
    exfalso
    cases p
    simp only [Dat.mk.sizeOf_spec] at hd
    omega
  | succ m ih =>
    intro p q hk2 vp vq w hR hS gp gq
    obtain ⟨T, hT⟩ : ∃ T, Hid (p.ord numQ q = T) := ⟨_, rfl⟩
    rw [hT.out]
    have hTp := hT
    clear hT
    have hR0 := hR
    have hS0 := hS
    obtain ⟨A1p, c1p, D1p, d1p, A2p, c2p, D2p, d2p, Rp, rcp, Lp, lcp, rfl, -⟩ := hR.view
    obtain ⟨A1q, c1q, D1q, d1q, A2q, c2q, D2q, d2q, Rq, rcq, Lq, lcq, rfl, -⟩ := hS.view
    have SP := SB.new w [.int .i64 p.k, .int .i64 p.n, .bool p.re.s, .slice A1p p.re.a.length c1p, .slice D1p p.re.b.length d1p, .bool p.im.s, .slice A2p p.im.a.length c2p, .slice D2p p.im.b.length d2p, .string p.t, .slice Rp p.raw.length rcp, .slice Lp p.l.length lcp] 30
    have B1 := bal w (.cells #[.int .i64 p.k, .int .i64 p.n, .bool p.re.s, .slice A1p p.re.a.length c1p, .slice D1p p.re.b.length d1p, .bool p.im.s, .slice A2p p.im.a.length c2p, .slice D2p p.im.b.length d2p, .string p.t, .slice Rp p.raw.length rcp, .slice Lp p.l.length lcp] 30)
    have SQ := SB.new (w.alloc (.cells #[.int .i64 p.k, .int .i64 p.n, .bool p.re.s, .slice A1p p.re.a.length c1p, .slice D1p p.re.b.length d1p, .bool p.im.s, .slice A2p p.im.a.length c2p, .slice D2p p.im.b.length d2p, .string p.t, .slice Rp p.raw.length rcp, .slice Lp p.l.length lcp] 30)) [.int .i64 q.k, .int .i64 q.n, .bool q.re.s, .slice A1q q.re.a.length c1q, .slice D1q q.re.b.length d1q, .bool q.im.s, .slice A2q q.im.a.length c2q, .slice D2q q.im.b.length d2q, .string q.t, .slice Rq q.raw.length rcq, .slice Lq q.l.length lcq] 30
    have B2 := bal (w.alloc (.cells #[.int .i64 p.k, .int .i64 p.n, .bool p.re.s, .slice A1p p.re.a.length c1p, .slice D1p p.re.b.length d1p, .bool p.im.s, .slice A2p p.im.a.length c2p, .slice D2p p.im.b.length d2p, .string p.t, .slice Rp p.raw.length rcp, .slice Lp p.l.length lcp] 30)) (.cells #[.int .i64 q.k, .int .i64 q.n, .bool q.re.s, .slice A1q q.re.a.length c1q, .slice D1q q.re.b.length d1q, .bool q.im.s, .slice A2q q.im.a.length c2q, .slice D2q q.im.b.length d2q, .string q.t, .slice Rq q.raw.length rcq, .slice Lq q.l.length lcq] 30)
    replace SP := SP.nx B2
    have BP := bt B1 B2
    have RP := hR0.st BP
    have RQ_ := hS0.st BP
    have z1 : (w.alloc (.cells #[.int .i64 p.k, .int .i64 p.n, .bool p.re.s, .slice A1p p.re.a.length c1p, .slice D1p p.re.b.length d1p, .bool p.im.s, .slice A2p p.im.a.length c2p, .slice D2p p.im.b.length d2p, .string p.t, .slice Rp p.raw.length rcp, .slice Lp p.l.length lcp] 30)).heap.size = w.heap.size + 1 := by simp
    rw [z1] at SQ
    obtain ⟨W0, hW0⟩ : ∃ W0, W0 = (w.alloc (.cells #[.int .i64 p.k, .int .i64 p.n, .bool p.re.s, .slice A1p p.re.a.length c1p, .slice D1p p.re.b.length d1p, .bool p.im.s, .slice A2p p.im.a.length c2p, .slice D2p p.im.b.length d2p, .string p.t, .slice Rp p.raw.length rcp, .slice Lp p.l.length lcp] 30)).alloc (.cells #[.int .i64 q.k, .int .i64 q.n, .bool q.re.s, .slice A1q q.re.a.length c1q, .slice D1q q.re.b.length d1q, .bool q.im.s, .slice A2q q.im.a.length c2q, .slice D2q q.im.b.length d2q, .string q.t, .slice Rq q.raw.length rcq, .slice Lq q.l.length lcq] 30) := ⟨_, rfl⟩
    go_enter Tryd.func16, Tryd.ntmps16
    go_upto_region 1 with fail
    rw [← hW0] at SP SQ BP RP RQ_ ⊢
    clear hW0 hR hS hR0 hS0 B1 B2 z1
    generalize hn : w.heap.size = n at *
    have hnw : n < W0.heap.size := SP.2
    have i0 := SP.cell 0
    have i1 := SP.cell 1
    have i2 := SP.cell 2
    have i3 := SP.cell 3
    have i4 := SP.cell 4
    have i5 := SP.cell 5
    have i6 := SP.cell 6
    have i7 := SP.cell 7
    have i8 := SP.cell 8
    have i9 := SP.cell 9
    have i10 := SP.cell 10
    have j0 := SQ.cell 0
    have j1 := SQ.cell 1
    have j2 := SQ.cell 2
    have j3 := SQ.cell 3
    have j4 := SQ.cell 4
    have j5 := SQ.cell 5
    have j6 := SQ.cell 6
    have j7 := SQ.cell 7
    have j8 := SQ.cell 8
    have j9 := SQ.cell 9
    have j10 := SQ.cell 10
    by_cases hk : p.k = q.k
    rotate_left
    · have hz : ¬ cmpZ p.k q.k = 0 := fun e => hk (cmpZ_zero.1 e)
      have t1 : (p.k != q.k) = true := bne_iff_ne.2 hk
      have hf : Hid (cmpZ p.k q.k = T) := Lib.hid (by rw [← hTp.out, ord_far hz])
      have hcall := fun w' => ints_any p.k q.k w'
      rw [hf.out] at hcall
      clear hTp hz hf hk
      go_wp2_with fail
      refine (hcall _).mono ?_; rintro e w6 ⟨rfl, rfl⟩
      go_wp2_with fail
      go_ret
      exact ⟨rfl, by rw [hn]; exact BP⟩
    have t1 : (p.k != q.k) = false := by rw [hk]; simp
    by_cases hc : p.k = 3
    · have n1 := gp.numOk hc
      have n2 := gq.numOk (hk.symm.trans hc)
      unfold nB at n1 n2
      rw [Bool.and_eq_true] at n1 n2
      obtain ⟨a1, a2, a3, a4⟩ := RP.words
      obtain ⟨b1, b2, b3, b4⟩ := RQ_.words
      have hcall := rOrd_any (r := p.re) (r' := q.re) ⟨_, _, _, _, rfl, a1, a2⟩ ⟨_, _, _, _, rfl, b1, b2⟩ n1.1 n2.1
      have hcall2 := fun V U w' h1 h2 => rOrd_any (V := V) (U := U) (w := w') (r := p.im) (r' := q.im) h1 h2 n1.2 n2.2
      have hf : Hid (T = if cmpQ (qv p.re) (qv q.re) ≠ 0 then cmpQ (qv p.re) (qv q.re) else cmpQ (qv p.im) (qv q.im)) := Lib.hid (by rw [← hTp.out, ord_num hk hc]; rfl)
      generalize cmpQ (qv p.re) (qv q.re) = k1 at *
      generalize cmpQ (qv p.im) (qv q.im) = k2 at *
      have s3 : (p.k == 3) = true := by rw [hc]; rfl
      have s5 : (p.k == 5) = false := by rw [hc]; rfl
      have s6 : (p.k == 6) = false := by rw [hc]; rfl
      have s11 : (p.k == 11) = false := by rw [hc]; rfl
      have s7 : (p.k == 7) = false := by rw [hc]; rfl
      have s8 : (p.k == 8) = false := by rw [hc]; rfl
      have s9 : (p.k == 9) = false := by rw [hc]; rfl
      replace hk := Lib.hid hk
      clear hc hTp
      go_wp2_with fail
      refine hcall.mono ?_; rintro e w6 ⟨rfl, B6⟩
      clear i0 j0 i1 j1 i2 j2 i3 j3 i4 j4 i5 j5 i6 j6 i7 j7 i8 j8 i9 j9 i10 j10
      have BP := BP.trans (B6.mono (Nat.le_of_lt hnw))
      have SP := SP.nx B6
      have SQ := SQ.nx B6
      have hcall2 := hcall2 _ _ w6 ⟨_, _, _, _, rfl, st a3 B6, st a4 B6⟩ ⟨_, _, _, _, rfl, st b3 B6, st b4 B6⟩
      have hnw := Nat.lt_of_lt_of_le hnw B6.size
      have i5 := SP.cell 5
      have j5 := SQ.cell 5
      have i6 := SP.cell 6
      have j6 := SQ.cell 6
      have i7 := SP.cell 7
      have j7 := SQ.cell 7
      by_cases h0 : k1 = 0
      · have t5 : (k1 != 0) = false := by rw [h0]; rfl
        have hf2 : Hid (T = k2) := Lib.hid (by rw [hf.out, if_neg (by simp [h0])])
        clear hf h0
        go_wp2_with fail
        refine hcall2.mono ?_; rintro e w7 ⟨rfl, B7⟩
        go_wp2_with fail
        go_ret
        exact ⟨by rw [hf2.out]; rfl, by rw [hn]; exact BP.trans (B7.mono (Nat.le_of_lt hnw))⟩
      · have t5 : (k1 != 0) = true := bne_iff_ne.2 h0
        have hf2 : Hid (T = k1) := Lib.hid (by rw [hf.out, if_pos h0])
        clear hf h0 hcall2
        go_wp2_with fail
        go_ret
        exact ⟨by rw [hf2.out]; rfl, by rw [hn]; exact BP⟩
    have h3 := hc
    clear hc
    by_cases hc : p.k = 5
    · have hf : Hid (cmpL (runesD p.t.data.toList) (runesD q.t.data.toList) = T) := Lib.hid (by rw [← hTp.out, ord_text hk (by unfold textK; simp [hc]), text_order (shape_valid gp.shape) (shape_valid gq.shape)])
      have zp : p.t.size ≤ 1048576 := by obtain ⟨_, _, _, _, _, _, _, _, _, _, _, _, _, _, hh, _⟩ := RP.view; exact hh.2.2
      have zq : q.t.size ≤ 1048576 := by obtain ⟨_, _, _, _, _, _, _, _, _, _, _, _, _, _, hh, _⟩ := RQ_.view; exact hh.2.2
      have hc1 := fun w' => runes_any p.t w' zp
      have hc2 := fun w' => runes_any q.t w' zq
      have hrow := fun A c D d w' h1 h2 => row_any A c D d (runesD p.t.data.toList) (runesD q.t.data.toList) w' h1 h2 (runesD_le _) (runesD_le _)
      rw [hf.out] at hrow
      generalize runesD p.t.data.toList = la at *
      generalize runesD q.t.data.toList = lb at *
      have s3 : (p.k == 3) = false := by rw [hc]; rfl
      have s5 : (p.k == 5) = true := by rw [hc]; rfl
      have s6 : (p.k == 6) = false := by rw [hc]; rfl
      have s11 : (p.k == 11) = false := by rw [hc]; rfl
      have s7 : (p.k == 7) = false := by rw [hc]; rfl
      have s8 : (p.k == 8) = false := by rw [hc]; rfl
      have s9 : (p.k == 9) = false := by rw [hc]; rfl
      replace hk := Lib.hid hk
      clear hc hTp hf
      go_upto_region 12 with fail
      have Dw := (Below.refl W0.heap.size W0).drew
      have BP : Below n w W0.drew := bdN BP 1
      have SP := SP.nx Dw
      have SQ := SQ.nx Dw
      have RP := RP.st Dw
      have RQ_ := RQ_.st Dw
      have hnw : n < W0.drew.heap.size := SP.2
      clear i0 j0 i1 j1 i2 j2 i3 j3 i4 j4 i5 j5 i6 j6 i7 j7 i8 j8 i9 j9 i10 j10 Dw
      refine AnyV.regionQ 8 8 (fun w' => w'.cell? ⟨n, 8, none⟩ = some (.string p.t) ∧ w'.cell? ⟨n + 1, 8, none⟩ = some (.string q.t)) rfl (by kernel_rfl) (by kernel_rfl) (by repeat (first | refine quiet_then ?_ | refine quiet_block ?_ | exact quiet_body)) ⟨SP.cell 8, SQ.cell 8⟩ (fun Q hQK hq hns hHeld => ?_)
      generalize W0.drew = w6 at *
      refine AnyV.next (i := 0) (v := ?_) hq hns hHeld rfl rfl (by kernel_rfl) (Or.inl ⟨by rfl, ?_⟩) ?_
      rotate_left
      · intro w' hSw; (try dsimp only at hSw); go_simp <;> with_reducible rfl
      try simp only [List.setIfInBounds_toArray, List.set_cons_zero, List.set_cons_succ]
      refine AnyV.next (i := 1) (v := ?_) hq hns hHeld rfl rfl (by kernel_rfl) (Or.inl ⟨by rfl, ?_⟩) ?_
      rotate_left
      · intro w' hSw; (try dsimp only at hSw); go_simp <;> with_reducible rfl
      try simp only [List.setIfInBounds_toArray, List.set_cons_zero, List.set_cons_succ]
      refine AnyV.next (i := 3) (v := ?_) hq hns hHeld rfl rfl (by kernel_rfl) (Or.inl ⟨by rfl, ?_⟩) ?_
      rotate_left
      · intro w' hSw; (try dsimp only at hSw); go_simp <;> with_reducible rfl
      try simp only [List.setIfInBounds_toArray, List.set_cons_zero, List.set_cons_succ]
      refine AnyV.next (i := 4) (v := ?_) hq hns hHeld rfl rfl (by kernel_rfl) (Or.inl ⟨by rfl, ?_⟩) ?_
      rotate_left
      · intro w' hSw; (try dsimp only at hSw); go_simp <;> with_reducible rfl
      try simp only [List.setIfInBounds_toArray, List.set_cons_zero, List.set_cons_succ]
      refine AnyV.one 2 (by kernel_rfl) rfl (fun K hK => ?_)
      go_simp
      refine (hc1 w6).mono ?_; rintro e w7 ⟨E1, k1, rfl, O1, B7⟩
      go_wp2_with fail
      refine hK.out _ _ (.inr ⟨(SP.nx B7).cell 8, (SQ.nx B7).cell 8⟩) (fun hHeld => ?_)
      have hHeld := hHeld.resolve_left (by decide)
      clear hK K
      try simp only [List.setIfInBounds_toArray, List.set_cons_zero, List.set_cons_succ]
      refine AnyV.one 5 (by kernel_rfl) rfl (fun K hK => ?_)
      go_simp
      refine (hc2 w7).mono ?_; rintro e w8 ⟨E2, k2, rfl, O2, B8⟩
      have O1' := RL.step O1.rl B8 B8.size
      go_wp2_with fail
      refine hK.out _ _ (.inr ⟨((SP.nx B7).nx B8).cell 8, ((SQ.nx B7).nx B8).cell 8⟩) (fun hHeld => ?_)
      have hHeld := hHeld.resolve_left (by decide)
      clear hK K
      try simp only [List.setIfInBounds_toArray, List.set_cons_zero, List.set_cons_succ]
      refine AnyV.one 6 (by kernel_rfl) rfl (fun K hK => ?_)
      go_simp
      refine (hrow _ _ _ _ w8 O1' O2.rl).mono ?_; rintro e w9 ⟨rfl, B9⟩
      go_wp2_with fail
      refine hK.out _ _ (.inr ⟨(((SP.nx B7).nx B8).nx B9).cell 8, (((SQ.nx B7).nx B8).nx B9).cell 8⟩) (fun hHeld => ?_)
      have hHeld := hHeld.resolve_left (by decide)
      clear hK K
      try simp only [List.setIfInBounds_toArray, List.set_cons_zero, List.set_cons_succ]
      refine AnyV.one 7 (by kernel_rfl) rfl (fun K hK => ?_)
      go_simp
      refine hK.out _ _ (.inr hHeld) (fun _ => ?_)
      clear hK K
      try simp only [List.setIfInBounds_toArray, List.set_cons_zero, List.set_cons_succ]
      refine AnyV.done (by kernel_rfl) (hQK.out _ _ ?_)
      clear hQK hq hns hHeld
      go_wp2_with fail
      go_ret
      exact ⟨rfl, by rw [hn]; exact ((BP.trans (B7.mono (Nat.le_of_lt hnw))).trans (B8.mono (Nat.le_trans (Nat.le_of_lt hnw) B7.size))).trans (B9.mono (Nat.le_trans (Nat.le_trans (Nat.le_of_lt hnw) B7.size) B8.size))⟩
    have h5 := hc
    clear hc
    by_cases hc : p.k = 6
    · have hf : Hid (cmpL (runesD p.t.data.toList) (runesD q.t.data.toList) = T) := Lib.hid (by rw [← hTp.out, ord_text hk (by unfold textK; simp [hc]), text_order (shape_valid gp.shape) (shape_valid gq.shape)])
      have zp : p.t.size ≤ 1048576 := by obtain ⟨_, _, _, _, _, _, _, _, _, _, _, _, _, _, hh, _⟩ := RP.view; exact hh.2.2
      have zq : q.t.size ≤ 1048576 := by obtain ⟨_, _, _, _, _, _, _, _, _, _, _, _, _, _, hh, _⟩ := RQ_.view; exact hh.2.2
      have hc1 := fun w' => runes_any p.t w' zp
      have hc2 := fun w' => runes_any q.t w' zq
      have hrow := fun A c D d w' h1 h2 => row_any A c D d (runesD p.t.data.toList) (runesD q.t.data.toList) w' h1 h2 (runesD_le _) (runesD_le _)
      rw [hf.out] at hrow
      generalize runesD p.t.data.toList = la at *
      generalize runesD q.t.data.toList = lb at *
      have s3 : (p.k == 3) = false := by rw [hc]; rfl
      have s5 : (p.k == 5) = false := by rw [hc]; rfl
      have s6 : (p.k == 6) = true := by rw [hc]; rfl
      have s11 : (p.k == 11) = false := by rw [hc]; rfl
      have s7 : (p.k == 7) = false := by rw [hc]; rfl
      have s8 : (p.k == 8) = false := by rw [hc]; rfl
      have s9 : (p.k == 9) = false := by rw [hc]; rfl
      replace hk := Lib.hid hk
      clear hc hTp hf
      go_upto_region 12 with fail
      have Dw := (Below.refl W0.heap.size W0).drew
      have BP : Below n w W0.drew := bdN BP 1
      have SP := SP.nx Dw
      have SQ := SQ.nx Dw
      have RP := RP.st Dw
      have RQ_ := RQ_.st Dw
      have hnw : n < W0.drew.heap.size := SP.2
      clear i0 j0 i1 j1 i2 j2 i3 j3 i4 j4 i5 j5 i6 j6 i7 j7 i8 j8 i9 j9 i10 j10 Dw
      refine AnyV.regionQ 8 8 (fun w' => w'.cell? ⟨n, 8, none⟩ = some (.string p.t) ∧ w'.cell? ⟨n + 1, 8, none⟩ = some (.string q.t)) rfl (by kernel_rfl) (by kernel_rfl) (by repeat (first | refine quiet_then ?_ | refine quiet_block ?_ | exact quiet_body)) ⟨SP.cell 8, SQ.cell 8⟩ (fun Q hQK hq hns hHeld => ?_)
      generalize W0.drew = w6 at *
      refine AnyV.next (i := 0) (v := ?_) hq hns hHeld rfl rfl (by kernel_rfl) (Or.inl ⟨by rfl, ?_⟩) ?_
      rotate_left
      · intro w' hSw; (try dsimp only at hSw); go_simp <;> with_reducible rfl
      try simp only [List.setIfInBounds_toArray, List.set_cons_zero, List.set_cons_succ]
      refine AnyV.next (i := 1) (v := ?_) hq hns hHeld rfl rfl (by kernel_rfl) (Or.inl ⟨by rfl, ?_⟩) ?_
      rotate_left
      · intro w' hSw; (try dsimp only at hSw); go_simp <;> with_reducible rfl
      try simp only [List.setIfInBounds_toArray, List.set_cons_zero, List.set_cons_succ]
      refine AnyV.next (i := 3) (v := ?_) hq hns hHeld rfl rfl (by kernel_rfl) (Or.inl ⟨by rfl, ?_⟩) ?_
      rotate_left
      · intro w' hSw; (try dsimp only at hSw); go_simp <;> with_reducible rfl
      try simp only [List.setIfInBounds_toArray, List.set_cons_zero, List.set_cons_succ]
      refine AnyV.next (i := 4) (v := ?_) hq hns hHeld rfl rfl (by kernel_rfl) (Or.inl ⟨by rfl, ?_⟩) ?_
      rotate_left
      · intro w' hSw; (try dsimp only at hSw); go_simp <;> with_reducible rfl
      try simp only [List.setIfInBounds_toArray, List.set_cons_zero, List.set_cons_succ]
      refine AnyV.one 2 (by kernel_rfl) rfl (fun K hK => ?_)
      go_simp
      refine (hc1 w6).mono ?_; rintro e w7 ⟨E1, k1, rfl, O1, B7⟩
      go_wp2_with fail
      refine hK.out _ _ (.inr ⟨(SP.nx B7).cell 8, (SQ.nx B7).cell 8⟩) (fun hHeld => ?_)
      have hHeld := hHeld.resolve_left (by decide)
      clear hK K
      try simp only [List.setIfInBounds_toArray, List.set_cons_zero, List.set_cons_succ]
      refine AnyV.one 5 (by kernel_rfl) rfl (fun K hK => ?_)
      go_simp
      refine (hc2 w7).mono ?_; rintro e w8 ⟨E2, k2, rfl, O2, B8⟩
      have O1' := RL.step O1.rl B8 B8.size
      go_wp2_with fail
      refine hK.out _ _ (.inr ⟨((SP.nx B7).nx B8).cell 8, ((SQ.nx B7).nx B8).cell 8⟩) (fun hHeld => ?_)
      have hHeld := hHeld.resolve_left (by decide)
      clear hK K
      try simp only [List.setIfInBounds_toArray, List.set_cons_zero, List.set_cons_succ]
      refine AnyV.one 6 (by kernel_rfl) rfl (fun K hK => ?_)
      go_simp
      refine (hrow _ _ _ _ w8 O1' O2.rl).mono ?_; rintro e w9 ⟨rfl, B9⟩
      go_wp2_with fail
      refine hK.out _ _ (.inr ⟨(((SP.nx B7).nx B8).nx B9).cell 8, (((SQ.nx B7).nx B8).nx B9).cell 8⟩) (fun hHeld => ?_)
      have hHeld := hHeld.resolve_left (by decide)
      clear hK K
      try simp only [List.setIfInBounds_toArray, List.set_cons_zero, List.set_cons_succ]
      refine AnyV.one 7 (by kernel_rfl) rfl (fun K hK => ?_)
      go_simp
      refine hK.out _ _ (.inr hHeld) (fun _ => ?_)
      clear hK K
      try simp only [List.setIfInBounds_toArray, List.set_cons_zero, List.set_cons_succ]
      refine AnyV.done (by kernel_rfl) (hQK.out _ _ ?_)
      clear hQK hq hns hHeld
      go_wp2_with fail
      go_ret
      exact ⟨rfl, by rw [hn]; exact ((BP.trans (B7.mono (Nat.le_of_lt hnw))).trans (B8.mono (Nat.le_trans (Nat.le_of_lt hnw) B7.size))).trans (B9.mono (Nat.le_trans (Nat.le_trans (Nat.le_of_lt hnw) B7.size) B8.size))⟩
    have h6 := hc
    clear hc
    by_cases hc : p.k = 11
    · have hf : Hid (cmpL (runesD p.t.data.toList) (runesD q.t.data.toList) = T) := Lib.hid (by rw [← hTp.out, ord_text hk (by unfold textK; simp [hc]), text_order (shape_valid gp.shape) (shape_valid gq.shape)])
      have zp : p.t.size ≤ 1048576 := by obtain ⟨_, _, _, _, _, _, _, _, _, _, _, _, _, _, hh, _⟩ := RP.view; exact hh.2.2
      have zq : q.t.size ≤ 1048576 := by obtain ⟨_, _, _, _, _, _, _, _, _, _, _, _, _, _, hh, _⟩ := RQ_.view; exact hh.2.2
      have hc1 := fun w' => runes_any p.t w' zp
      have hc2 := fun w' => runes_any q.t w' zq
      have hrow := fun A c D d w' h1 h2 => row_any A c D d (runesD p.t.data.toList) (runesD q.t.data.toList) w' h1 h2 (runesD_le _) (runesD_le _)
      rw [hf.out] at hrow
      generalize runesD p.t.data.toList = la at *
      generalize runesD q.t.data.toList = lb at *
      have s3 : (p.k == 3) = false := by rw [hc]; rfl
      have s5 : (p.k == 5) = false := by rw [hc]; rfl
      have s6 : (p.k == 6) = false := by rw [hc]; rfl
      have s11 : (p.k == 11) = true := by rw [hc]; rfl
      have s7 : (p.k == 7) = false := by rw [hc]; rfl
      have s8 : (p.k == 8) = false := by rw [hc]; rfl
      have s9 : (p.k == 9) = false := by rw [hc]; rfl
      replace hk := Lib.hid hk
      clear hc hTp hf
      go_upto_region 12 with fail
      have Dw := (Below.refl W0.heap.size W0).drew
      have BP : Below n w W0.drew := bdN BP 1
      have SP := SP.nx Dw
      have SQ := SQ.nx Dw
      have RP := RP.st Dw
      have RQ_ := RQ_.st Dw
      have hnw : n < W0.drew.heap.size := SP.2
      clear i0 j0 i1 j1 i2 j2 i3 j3 i4 j4 i5 j5 i6 j6 i7 j7 i8 j8 i9 j9 i10 j10 Dw
      refine AnyV.regionQ 8 8 (fun w' => w'.cell? ⟨n, 8, none⟩ = some (.string p.t) ∧ w'.cell? ⟨n + 1, 8, none⟩ = some (.string q.t)) rfl (by kernel_rfl) (by kernel_rfl) (by repeat (first | refine quiet_then ?_ | refine quiet_block ?_ | exact quiet_body)) ⟨SP.cell 8, SQ.cell 8⟩ (fun Q hQK hq hns hHeld => ?_)
      generalize W0.drew = w6 at *
      refine AnyV.next (i := 0) (v := ?_) hq hns hHeld rfl rfl (by kernel_rfl) (Or.inl ⟨by rfl, ?_⟩) ?_
      rotate_left
      · intro w' hSw; (try dsimp only at hSw); go_simp <;> with_reducible rfl
      try simp only [List.setIfInBounds_toArray, List.set_cons_zero, List.set_cons_succ]
      refine AnyV.next (i := 1) (v := ?_) hq hns hHeld rfl rfl (by kernel_rfl) (Or.inl ⟨by rfl, ?_⟩) ?_
      rotate_left
      · intro w' hSw; (try dsimp only at hSw); go_simp <;> with_reducible rfl
      try simp only [List.setIfInBounds_toArray, List.set_cons_zero, List.set_cons_succ]
      refine AnyV.next (i := 3) (v := ?_) hq hns hHeld rfl rfl (by kernel_rfl) (Or.inl ⟨by rfl, ?_⟩) ?_
      rotate_left
      · intro w' hSw; (try dsimp only at hSw); go_simp <;> with_reducible rfl
      try simp only [List.setIfInBounds_toArray, List.set_cons_zero, List.set_cons_succ]
      refine AnyV.next (i := 4) (v := ?_) hq hns hHeld rfl rfl (by kernel_rfl) (Or.inl ⟨by rfl, ?_⟩) ?_
      rotate_left
      · intro w' hSw; (try dsimp only at hSw); go_simp <;> with_reducible rfl
      try simp only [List.setIfInBounds_toArray, List.set_cons_zero, List.set_cons_succ]
      refine AnyV.one 2 (by kernel_rfl) rfl (fun K hK => ?_)
      go_simp
      refine (hc1 w6).mono ?_; rintro e w7 ⟨E1, k1, rfl, O1, B7⟩
      go_wp2_with fail
      refine hK.out _ _ (.inr ⟨(SP.nx B7).cell 8, (SQ.nx B7).cell 8⟩) (fun hHeld => ?_)
      have hHeld := hHeld.resolve_left (by decide)
      clear hK K
      try simp only [List.setIfInBounds_toArray, List.set_cons_zero, List.set_cons_succ]
      refine AnyV.one 5 (by kernel_rfl) rfl (fun K hK => ?_)
      go_simp
      refine (hc2 w7).mono ?_; rintro e w8 ⟨E2, k2, rfl, O2, B8⟩
      have O1' := RL.step O1.rl B8 B8.size
      go_wp2_with fail
      refine hK.out _ _ (.inr ⟨((SP.nx B7).nx B8).cell 8, ((SQ.nx B7).nx B8).cell 8⟩) (fun hHeld => ?_)
      have hHeld := hHeld.resolve_left (by decide)
      clear hK K
      try simp only [List.setIfInBounds_toArray, List.set_cons_zero, List.set_cons_succ]
      refine AnyV.one 6 (by kernel_rfl) rfl (fun K hK => ?_)
      go_simp
      refine (hrow _ _ _ _ w8 O1' O2.rl).mono ?_; rintro e w9 ⟨rfl, B9⟩
      go_wp2_with fail
      refine hK.out _ _ (.inr ⟨(((SP.nx B7).nx B8).nx B9).cell 8, (((SQ.nx B7).nx B8).nx B9).cell 8⟩) (fun hHeld => ?_)
      have hHeld := hHeld.resolve_left (by decide)
      clear hK K
      try simp only [List.setIfInBounds_toArray, List.set_cons_zero, List.set_cons_succ]
      refine AnyV.one 7 (by kernel_rfl) rfl (fun K hK => ?_)
      go_simp
      refine hK.out _ _ (.inr hHeld) (fun _ => ?_)
      clear hK K
      try simp only [List.setIfInBounds_toArray, List.set_cons_zero, List.set_cons_succ]
      refine AnyV.done (by kernel_rfl) (hQK.out _ _ ?_)
      clear hQK hq hns hHeld
      go_wp2_with fail
      go_ret
      exact ⟨rfl, by rw [hn]; exact ((BP.trans (B7.mono (Nat.le_of_lt hnw))).trans (B8.mono (Nat.le_trans (Nat.le_of_lt hnw) B7.size))).trans (B9.mono (Nat.le_trans (Nat.le_trans (Nat.le_of_lt hnw) B7.size) B8.size))⟩
    have h11 := hc
    clear hc
    by_cases hc : p.k = 7
    · have hf : Hid (cmpL (p.raw.map (·.toNat)) (q.raw.map (·.toNat)) = T) := Lib.hid (by rw [← hTp.out, ord_raw' hk hc])
      have hc1 := fun w' h => raw_any Rp rcp p.raw w' h
      have hc2 := fun w' h => raw_any Rq rcq q.raw w' h
      have hrow := fun A c D d w' h1 h2 => row_any A c D d (p.raw.map (·.toNat)) (q.raw.map (·.toNat)) w' h1 h2 (raw_le _) (raw_le _)
      rw [hf.out] at hrow
      generalize p.raw.map (·.toNat) = la at *
      generalize q.raw.map (·.toNat) = lb at *
      have s3 : (p.k == 3) = false := by rw [hc]; rfl
      have s5 : (p.k == 5) = false := by rw [hc]; rfl
      have s6 : (p.k == 6) = false := by rw [hc]; rfl
      have s11 : (p.k == 11) = false := by rw [hc]; rfl
      have s7 : (p.k == 7) = true := by rw [hc]; rfl
      have s8 : (p.k == 8) = false := by rw [hc]; rfl
      have s9 : (p.k == 9) = false := by rw [hc]; rfl
      replace hk := Lib.hid hk
      clear hc hTp hf
      go_upto_region 14 with fail
      have Dw := (Below.refl W0.heap.size W0).drew
      have BP : Below n w W0.drew := bdN BP 1
      have SP := SP.nx Dw
      have SQ := SQ.nx Dw
      have RP := RP.st Dw
      have RQ_ := RQ_.st Dw
      have hnw : n < W0.drew.heap.size := SP.2
      clear i0 j0 i1 j1 i2 j2 i3 j3 i4 j4 i5 j5 i6 j6 i7 j7 i8 j8 i9 j9 i10 j10 Dw
      refine AnyV.regionQ 8 8 (fun w' => w'.cell? ⟨n, 9, none⟩ = some (.slice Rp p.raw.length rcp) ∧ w'.cell? ⟨n + 1, 9, none⟩ = some (.slice Rq q.raw.length rcq)) rfl (by kernel_rfl) (by kernel_rfl) (by repeat (first | refine quiet_then ?_ | refine quiet_block ?_ | exact quiet_body)) ⟨SP.cell 9, SQ.cell 9⟩ (fun Q hQK hq hns hHeld => ?_)
      generalize W0.drew = w6 at *
      refine AnyV.next (i := 0) (v := ?_) hq hns hHeld rfl rfl (by kernel_rfl) (Or.inl ⟨by rfl, ?_⟩) ?_
      rotate_left
      · intro w' hSw; (try dsimp only at hSw); go_simp <;> with_reducible rfl
      try simp only [List.setIfInBounds_toArray, List.set_cons_zero, List.set_cons_succ]
      refine AnyV.next (i := 1) (v := ?_) hq hns hHeld rfl rfl (by kernel_rfl) (Or.inl ⟨by rfl, ?_⟩) ?_
      rotate_left
      · intro w' hSw; (try dsimp only at hSw); go_simp <;> with_reducible rfl
      try simp only [List.setIfInBounds_toArray, List.set_cons_zero, List.set_cons_succ]
      refine AnyV.next (i := 3) (v := ?_) hq hns hHeld rfl rfl (by kernel_rfl) (Or.inl ⟨by rfl, ?_⟩) ?_
      rotate_left
      · intro w' hSw; (try dsimp only at hSw); go_simp <;> with_reducible rfl
      try simp only [List.setIfInBounds_toArray, List.set_cons_zero, List.set_cons_succ]
      refine AnyV.next (i := 4) (v := ?_) hq hns hHeld rfl rfl (by kernel_rfl) (Or.inl ⟨by rfl, ?_⟩) ?_
      rotate_left
      · intro w' hSw; (try dsimp only at hSw); go_simp <;> with_reducible rfl
      try simp only [List.setIfInBounds_toArray, List.set_cons_zero, List.set_cons_succ]
      refine AnyV.one 2 (by kernel_rfl) rfl (fun K hK => ?_)
      go_simp
      refine (hc1 w6 RP.rawR).mono ?_; rintro e w7 ⟨E1, k1, rfl, O1, B7⟩
      go_wp2_with fail
      refine hK.out _ _ (.inr ⟨(SP.nx B7).cell 9, (SQ.nx B7).cell 9⟩) (fun hHeld => ?_)
      have hHeld := hHeld.resolve_left (by decide)
      clear hK K
      try simp only [List.setIfInBounds_toArray, List.set_cons_zero, List.set_cons_succ]
      refine AnyV.one 5 (by kernel_rfl) rfl (fun K hK => ?_)
      go_simp
      refine (hc2 w7 (RQ_.st B7).rawR).mono ?_; rintro e w8 ⟨E2, k2, rfl, O2, B8⟩
      have O1' := RL.step O1.rl B8 B8.size
      go_wp2_with fail
      refine hK.out _ _ (.inr ⟨((SP.nx B7).nx B8).cell 9, ((SQ.nx B7).nx B8).cell 9⟩) (fun hHeld => ?_)
      have hHeld := hHeld.resolve_left (by decide)
      clear hK K
      try simp only [List.setIfInBounds_toArray, List.set_cons_zero, List.set_cons_succ]
      refine AnyV.one 6 (by kernel_rfl) rfl (fun K hK => ?_)
      go_simp
      refine (hrow _ _ _ _ w8 O1' O2.rl).mono ?_; rintro e w9 ⟨rfl, B9⟩
      go_wp2_with fail
      refine hK.out _ _ (.inr ⟨(((SP.nx B7).nx B8).nx B9).cell 9, (((SQ.nx B7).nx B8).nx B9).cell 9⟩) (fun hHeld => ?_)
      have hHeld := hHeld.resolve_left (by decide)
      clear hK K
      try simp only [List.setIfInBounds_toArray, List.set_cons_zero, List.set_cons_succ]
      refine AnyV.one 7 (by kernel_rfl) rfl (fun K hK => ?_)
      go_simp
      refine hK.out _ _ (.inr hHeld) (fun _ => ?_)
      clear hK K
      try simp only [List.setIfInBounds_toArray, List.set_cons_zero, List.set_cons_succ]
      refine AnyV.done (by kernel_rfl) (hQK.out _ _ ?_)
      clear hQK hq hns hHeld
      go_wp2_with fail
      go_ret
      exact ⟨rfl, by rw [hn]; exact ((BP.trans (B7.mono (Nat.le_of_lt hnw))).trans (B8.mono (Nat.le_trans (Nat.le_of_lt hnw) B7.size))).trans (B9.mono (Nat.le_trans (Nat.le_trans (Nat.le_of_lt hnw) B7.size) B8.size))⟩
    have h7 := hc
    clear hc
    by_cases h89 : p.k = 8 ∨ p.k = 9
    rotate_left
    · have h8 : ¬ p.k = 8 := fun e => h89 (.inl e)
      have h9 : ¬ p.k = 9 := fun e => h89 (.inr e)
      have hf : Hid (cmpZ p.n q.n = T) := Lib.hid (by rw [← hTp.out, ord_else hk h3 (by unfold textK; simp [h5, h6, h11]) h7 h8 h9])
      have hcall := fun w' => ints_any p.n q.n w'
      rw [hf.out] at hcall
      have s3 : (p.k == 3) = false := beq_false_of_ne h3
      have s5 : (p.k == 5) = false := beq_false_of_ne h5
      have s6 : (p.k == 6) = false := beq_false_of_ne h6
      have s11 : (p.k == 11) = false := beq_false_of_ne h11
      have s7 : (p.k == 7) = false := beq_false_of_ne h7
      have s8 : (p.k == 8) = false := beq_false_of_ne h8
      have s9 : (p.k == 9) = false := beq_false_of_ne h9
      replace hk := Lib.hid hk
      clear hTp hf h89 h3 h5 h6 h11 h7 h8 h9
      go_wp2_with fail
      refine (hcall _).mono ?_; rintro e w6 ⟨rfl, rfl⟩
      go_wp2_with fail
      go_ret
      exact ⟨rfl, by rw [hn]; exact BP⟩
    have hTv := Lib.hid (hTp.out ▸ ord_list hk h89 : T = if cmpZ p.l.length q.l.length ≠ 0 then cmpZ p.l.length q.l.length else ordL numQ p.l q.l)
    have hlP : p.l.length ≤ 35184372088832 := by obtain ⟨_, _, _, _, _, _, _, _, _, _, _, _, _, _, _, hh, _⟩ := RP.view; exact hh.2
    have s3 : (p.k == 3) = false := beq_false_of_ne h3
    have s5 : (p.k == 5) = false := beq_false_of_ne h5
    have s6 : (p.k == 6) = false := beq_false_of_ne h6
    have s11 : (p.k == 11) = false := beq_false_of_ne h11
    have s7 : (p.k == 7) = false := beq_false_of_ne h7
    clear hTp h3 h5 h6 h11 h7
    replace hk := Lib.hid hk
    obtain ⟨b8, hb8⟩ : ∃ b8, (p.k == 8) = b8 := ⟨_, rfl⟩
    go_upto_if 59 with fail
    go_cut [59] (fun s59 wx => s59 = .bool true ∧ wx = W0)
    case first =>
      cases b8 with
      | true =>
        go_wp2_with fail
        go_meet
        exact ⟨rfl, rfl⟩
      | false =>
        have s9 : (p.k == 9) = true := by
          rcases h89 with h8 | h8
          · rw [h8] at hb8; cases hb8
          · rw [h8]; rfl
        go_wp2_with fail
        go_meet
        exact ⟨rfl, rfl⟩
    case rest =>
    obtain ⟨rfl, hwc⟩ := hcut
    subst hwc
    clear hb8
    replace h89 := Lib.hid h89
    by_cases hll : p.l.length = q.l.length
    rotate_left
    · have hz : ¬ cmpZ p.l.length q.l.length = 0 := fun e => hll (by have := cmpZ_zero.1 e; omega)
      have t5 : ((p.l.length : Int) != (q.l.length : Int)) = true := bne_iff_ne.2 (by omega)
      have hf : Hid (cmpZ p.l.length q.l.length = T) := Lib.hid (by rw [hTv.out, if_pos hz])
      have hcall := fun w' => ints_any (p.l.length : Int) (q.l.length : Int) w'
      rw [hf.out] at hcall
      clear hTv hz hf hll
      go_wp2_with fail
      refine (hcall _).mono ?_; rintro e w6 ⟨rfl, rfl⟩
      go_wp2_with fail
      go_ret
      exact ⟨rfl, by rw [hn]; exact BP⟩
    have t5 : ((p.l.length : Int) != (q.l.length : Int)) = false := by rw [hll]; simp
    replace hTv : Hid (ordL numQ (p.l.drop 0) (q.l.drop 0) = T) := Lib.hid (by rw [hTv.out, if_neg (by simp [cmpZ_zero, hll])]; rfl)
    replace hll := Lib.hid hll
    go_upto_region 20 with fail
    clear i0 j0 i1 j1 i2 j2 i3 j3 i4 j4 i5 j5 i6 j6 i7 j7 i8 j8 i9 j9 i10 j10
    go_loopg [6] p.l.length (fun gk s6 wx => ∃ i : Nat, s6 = .int .i64 (i : Int) ∧ i ≤ p.l.length ∧ p.l.length - i = gk ∧ Hid (ordL numQ (p.l.drop i) (q.l.drop i) = T) ∧ SB wx n [.int .i64 p.k, .int .i64 p.n, .bool p.re.s, .slice A1p p.re.a.length c1p, .slice D1p p.re.b.length d1p, .bool p.im.s, .slice A2p p.im.a.length c2p, .slice D2p p.im.b.length d2p, .string p.t, .slice Rp p.raw.length rcp, .slice Lp p.l.length lcp] ∧ SB wx (n + 1) [.int .i64 q.k, .int .i64 q.n, .bool q.re.s, .slice A1q q.re.a.length c1q, .slice D1q q.re.b.length d1q, .bool q.im.s, .slice A2q q.im.a.length c2q, .slice D2q q.im.b.length d2q, .string q.t, .slice Rq q.raw.length rcq, .slice Lq q.l.length lcq] ∧ RD wx wx.heap.size p (.agg #[.int .i64 p.k, .int .i64 p.n, .bool p.re.s, .slice A1p p.re.a.length c1p, .slice D1p p.re.b.length d1p, .bool p.im.s, .slice A2p p.im.a.length c2p, .slice D2p p.im.b.length d2p, .string p.t, .slice Rp p.raw.length rcp, .slice Lp p.l.length lcp]) ∧ RD wx wx.heap.size q (.agg #[.int .i64 q.k, .int .i64 q.n, .bool q.re.s, .slice A1q q.re.a.length c1q, .slice D1q q.re.b.length d1q, .bool q.im.s, .slice A2q q.im.a.length c2q, .slice D2q q.im.b.length d2q, .string q.t, .slice Rq q.raw.length rcq, .slice Lq q.l.length lcq]) ∧ Below n w wx)
    case atStart => exact ⟨0, rfl, Nat.zero_le _, rfl, hTv, SP, SQ, RP, RQ_, BP⟩
    case round =>
      obtain ⟨i, rfl, hil, hgk, hTi, SP2, SQ2, RP2, RQ2, BP2⟩ := hrel
      clear SP SQ RP RQ_ BP hTv hnw
      have hnw : n < wr.heap.size := SP2.2
      have i10 := SP2.cell 10
      by_cases hi : i < p.l.length
      · have hi' : i < q.l.length := by rw [← hll.out]; exact hi
        obtain ⟨bA, oA, hA, hbA, dA⟩ := RP2.kids (by omega)
        obtain ⟨bB, oB, hB, hbB, dB⟩ := RQ2.kids (by omega)
        have hx1 := List.getElem?_eq_getElem hi
        have hy1 := List.getElem?_eq_getElem hi'
        have gx := gp.kids _ (List.getElem_mem hi)
        have gy := gq.kids _ (List.getElem_mem hi')
        have hsz : SizeOf.sizeOf p.l[i] ≤ m := by have := Dat.lt_of_mem (d := p) (List.getElem_mem hi); omega
        have hTi := hTi.out
        rw [List.drop_eq_getElem_cons hi, List.drop_eq_getElem_cons hi', ordL] at hTi
        generalize p.l[i] = x at *
        generalize q.l[i] = y at *
        obtain ⟨vx, Rx, cx⟩ := dA.get hx1
        obtain ⟨vy, Ry, cy⟩ := dB.get hy1
        obtain ⟨xs, rfl, xl, -⟩ := Rx.agg
        obtain ⟨ys, rfl, yl, -⟩ := Ry.agg
        have cx : wr.drew.rangeAt bA (oA + i * 11) xs := fun j u hj => cx _ rfl j u (by simpa using hj)
        have cy : wr.drew.rangeAt bB (oB + i * 11) ys := fun j u hj => cy _ rfl j u (by simpa using hj)
        clear dA dB hx1 hy1
        subst hA hB
        have hwi : IntKind.i64.wrap ((i : Int) + 1) = (i : Int) + 1 := IntWalk.i64_in _ (by omega)
        have hli : (i : Int) < (p.l.length : Int) := by omega
        have hli' : (i : Int) < (q.l.length : Int) := by omega
        go_upto_region 22 with fail
        clear i10
        have Dw := (Below.refl wr.heap.size wr).drew
        have hcall := ih x y hsz _ _ wr.drew (Rx.st Dw) (Ry.st Dw) gx gy
        have BP2 : Below n w wr.drew := bdN BP2 1
        have SP2 := SP2.nx Dw
        have SQ2 := SQ2.nx Dw
        have RP2 := RP2.st Dw
        have RQ2 := RQ2.st Dw
        have hnw : n < wr.drew.heap.size := SP2.2
        have hbA : bA < wr.drew.heap.size := Nat.lt_of_lt_of_le hbA Dw.size
        have hbB : bB < wr.drew.heap.size := Nat.lt_of_lt_of_le hbB Dw.size
        have i10 := SP2.cell 10
        have j10 := SQ2.cell 10
        obtain ⟨zx, hzx⟩ : ∃ zx, x.ord numQ y = zx := ⟨_, rfl⟩
        rw [hzx] at hcall hTi
        replace hTi := Lib.hid hTi
        clear hzx Dw
        refine AnyV.regionQ 11 12 (fun w' => w'.cell? ⟨n, 10, none⟩ = some (.slice (some ⟨bA, oA, none⟩) p.l.length lcp) ∧ w'.cell? ⟨n + 1, 10, none⟩ = some (.slice (some ⟨bB, oB, none⟩) q.l.length lcq) ∧ w'.rangeAt bA (oA + i * 11) xs ∧ w'.rangeAt bB (oB + i * 11) ys) rfl (by kernel_rfl) (by kernel_rfl) (by repeat (first | refine quiet_then ?_ | refine quiet_block ?_ | exact quiet_body)) ⟨i10, j10, cx, cy⟩ (fun Q hQK hq hns hHeld => ?_)
        generalize wr.drew = w6 at *
        refine AnyV.next (i := 0) (v := ?_) hq hns hHeld rfl rfl (by kernel_rfl) (Or.inl ⟨by rfl, ?_⟩) ?_
        rotate_left
        · intro w' hSw; (try dsimp only at hSw); go_simp <;> with_reducible rfl
        try simp only [List.setIfInBounds_toArray, List.set_cons_zero, List.set_cons_succ]
        refine AnyV.next (i := 1) (v := ?_) hq hns hHeld rfl rfl (by kernel_rfl) (Or.inl ⟨by rfl, ?_⟩) ?_
        rotate_left
        · intro w' hSw; (try dsimp only at hSw); go_simp <;> with_reducible rfl
        try simp only [List.setIfInBounds_toArray, List.set_cons_zero, List.set_cons_succ]
        refine AnyV.next (i := 2) (v := ?_) hq hns hHeld rfl rfl (by kernel_rfl) (Or.inl ⟨by rfl, ?_⟩) ?_
        rotate_left
        · intro w' hSw; (try dsimp only at hSw); go_simp <;> with_reducible rfl
        try simp only [List.setIfInBounds_toArray, List.set_cons_zero, List.set_cons_succ]
        refine AnyV.next (i := 3) (v := ?_) hq hns hHeld rfl rfl (by kernel_rfl) (Or.inl ⟨by rfl, ?_⟩) ?_
        rotate_left
        · intro w' hSw; (try dsimp only at hSw); go_simp <;> with_reducible rfl
        try simp only [List.setIfInBounds_toArray, List.set_cons_zero, List.set_cons_succ]
        refine AnyV.next (i := 4) (v := .agg xs.toArray) hq hns hHeld rfl rfl (by kernel_rfl) (yieldsIf_load_mid (by rfl) 30 (.tmp 86) rfl bA (oA + i * 11) rfl xs _ (fun w' h => h.2.2.1) Tryd.underlying30 rfl (infoD.trans (by rw [xl]))) ?_
        try simp only [List.setIfInBounds_toArray, List.set_cons_zero, List.set_cons_succ]
        refine AnyV.next (i := 5) (v := ?_) hq hns hHeld rfl rfl (by kernel_rfl) (Or.inl ⟨by rfl, ?_⟩) ?_
        rotate_left
        · intro w' hSw; (try dsimp only at hSw); go_simp <;> with_reducible rfl
        try simp only [List.setIfInBounds_toArray, List.set_cons_zero, List.set_cons_succ]
        refine AnyV.next (i := 6) (v := ?_) hq hns hHeld rfl rfl (by kernel_rfl) (Or.inl ⟨by rfl, ?_⟩) ?_
        rotate_left
        · intro w' hSw; (try dsimp only at hSw); go_simp <;> with_reducible rfl
        try simp only [List.setIfInBounds_toArray, List.set_cons_zero, List.set_cons_succ]
        refine AnyV.next (i := 7) (v := ?_) hq hns hHeld rfl rfl (by kernel_rfl) (Or.inl ⟨by rfl, ?_⟩) ?_
        rotate_left
        · intro w' hSw; (try dsimp only at hSw); go_simp <;> with_reducible rfl
        try simp only [List.setIfInBounds_toArray, List.set_cons_zero, List.set_cons_succ]
        refine AnyV.next (i := 8) (v := ?_) hq hns hHeld rfl rfl (by kernel_rfl) (Or.inl ⟨by rfl, ?_⟩) ?_
        rotate_left
        · intro w' hSw; (try dsimp only at hSw); go_simp <;> with_reducible rfl
        try simp only [List.setIfInBounds_toArray, List.set_cons_zero, List.set_cons_succ]
        refine AnyV.next (i := 9) (v := .agg ys.toArray) hq hns hHeld rfl rfl (by kernel_rfl) (yieldsIf_load_mid (by rfl) 30 (.tmp 91) rfl bB (oB + i * 11) rfl ys _ (fun w' h => h.2.2.2) Tryd.underlying30 rfl (infoD.trans (by rw [yl]))) ?_
        try simp only [List.setIfInBounds_toArray, List.set_cons_zero, List.set_cons_succ]
        refine AnyV.one 10 (by kernel_rfl) rfl (fun K hK => ?_)
        go_simp
        refine hcall.mono ?_; rintro e w7 ⟨rfl, B7⟩
        go_wp2_with fail
        refine hK.out _ _ (.inr ⟨(SP2.nx B7).cell 10, (SQ2.nx B7).cell 10, fun j u hj => (B7.cell (p := ⟨bA, oA + i * 11 + j, none⟩) hbA).trans (cx j u hj), fun j u hj => (B7.cell (p := ⟨bB, oB + i * 11 + j, none⟩) hbB).trans (cy j u hj)⟩) (fun _ => ?_)
        clear hK K
        try simp only [List.setIfInBounds_toArray, List.set_cons_zero, List.set_cons_succ]
        refine AnyV.one 11 (by kernel_rfl) rfl (fun K hK => ?_)
        go_simp
        refine hK.out _ _ (.inl (by decide)) (fun _ => ?_)
        clear hK K
        try simp only [List.setIfInBounds_toArray, List.set_cons_zero, List.set_cons_succ]
        refine AnyV.done (by kernel_rfl) (hQK.out _ _ ?_)
        clear hQK hq hns hHeld
        have BP := BP2.trans (B7.mono (Nat.le_of_lt hnw))
        have SP := SP2.nx B7
        have SQ := SQ2.nx B7
        have RP := RP2.st B7
        have RQ_ := RQ2.st B7
        clear i10 j10 cx cy Rx Ry SP2 SQ2 RP2 RQ2 BP2 B7 hcall
        by_cases hz : zx = 0
        rotate_left
        · have t6 : (zx != 0) = true := bne_iff_ne.2 hz
          have hf : Hid (T = zx) := Lib.hid (by rw [← hTi.out, if_pos hz])
          clear hTi hz
          go_wp2_with fail
          go_ret
          exact ⟨by rw [hf.out]; rfl, by rw [hn]; exact BP⟩
        have t6 : (zx != 0) = false := by rw [hz]; rfl
        have hTn : Hid (ordL numQ (p.l.drop (i + 1)) (q.l.drop (i + 1)) = T) := Lib.hid (by rw [← hTi.out, if_neg (by simp [hz])])
        clear hz hTi
        go_wp2_with fail
        go_roundg (p.l.length - (i + 1))
        case measure => omega
        case rel => exact ⟨i + 1, by go_num, by omega, rfl, hTn, SP, SQ, RP, RQ_, BP⟩
      · obtain rfl : i = p.l.length := by omega
        have hf : Hid (T = 0) := Lib.hid (by rw [← hTi.out, List.drop_length, ordL])
        clear hTi RP2 RQ2 hgk hil
        generalize p.l.length = lm at *
        go_wp2_with fail
        go_ret
        exact ⟨by rw [hf.out]; rfl, by rw [hn]; exact BP2⟩
theorem rord_any {a b : Dat} {va vb : Value} {w : World} (h1 : RD w w.heap.size a va) (h2 : RD w w.heap.size b vb) (ga : a.Good vU) (gb : b.Good vU) :
    Calls Tryd.prog 16 #[va, vb] w fun e w' => e = .returned (.int .i64 (a.ord numQ b)) ∧ Below w.heap.size w w' := rord_go _ a b (Nat.le_refl _) va vb w h1 h2 ga gb
end Go.Proofs.YtccgmeomecjihaaDoor
namespace Go.Proofs.YtccgmeomecjihaaDoor
open Go.RowKit

set_option maxRecDepth 100000 in
set_option maxHeartbeats 8000000 in
theorem requal_any {a b : Dat} {va vb : Value} {w : World} (hR : RD w w.heap.size a va) (hS : RD w w.heap.size b vb) (hV : RVS vU w.heap.size w) :
    Calls Tryd.prog 8 #[va, vb] w fun e w' => e = .returned (.bool (a.sound vU && (b.sound vU && sameD a b))) ∧ Below w.heap.size w w' := by
  obtain ⟨z, hz⟩ : ∃ z, Hid ((a.sound vU && (b.sound vU && sameD a b)) = z) := ⟨_, rfl⟩
  rw [hz.out]
  have hR0 := hR
  have hS0 := hS
  obtain ⟨A1, c1, D1, d1, A2, c2, D2, d2, R, rc, L, lc, rfl, -⟩ := hR.view
  obtain ⟨A1', c1', D1', d1', A2', c2', D2', d2', R', rc', L', lc', rfl, -⟩ := hS.view
  have SA := SB.new w [.int .i64 a.k, .int .i64 a.n, .bool a.re.s, .slice A1 a.re.a.length c1, .slice D1 a.re.b.length d1, .bool a.im.s, .slice A2 a.im.a.length c2, .slice D2 a.im.b.length d2, .string a.t, .slice R a.raw.length rc, .slice L a.l.length lc] 30
  have B1 := bal w (.cells #[.int .i64 a.k, .int .i64 a.n, .bool a.re.s, .slice A1 a.re.a.length c1, .slice D1 a.re.b.length d1, .bool a.im.s, .slice A2 a.im.a.length c2, .slice D2 a.im.b.length d2, .string a.t, .slice R a.raw.length rc, .slice L a.l.length lc] 30)
  have SB_ := SB.new (w.alloc (.cells #[.int .i64 a.k, .int .i64 a.n, .bool a.re.s, .slice A1 a.re.a.length c1, .slice D1 a.re.b.length d1, .bool a.im.s, .slice A2 a.im.a.length c2, .slice D2 a.im.b.length d2, .string a.t, .slice R a.raw.length rc, .slice L a.l.length lc] 30)) [.int .i64 b.k, .int .i64 b.n, .bool b.re.s, .slice A1' b.re.a.length c1', .slice D1' b.re.b.length d1', .bool b.im.s, .slice A2' b.im.a.length c2', .slice D2' b.im.b.length d2', .string b.t, .slice R' b.raw.length rc', .slice L' b.l.length lc'] 30
  have B2 := bal (w.alloc (.cells #[.int .i64 a.k, .int .i64 a.n, .bool a.re.s, .slice A1 a.re.a.length c1, .slice D1 a.re.b.length d1, .bool a.im.s, .slice A2 a.im.a.length c2, .slice D2 a.im.b.length d2, .string a.t, .slice R a.raw.length rc, .slice L a.l.length lc] 30)) (.cells #[.int .i64 b.k, .int .i64 b.n, .bool b.re.s, .slice A1' b.re.a.length c1', .slice D1' b.re.b.length d1', .bool b.im.s, .slice A2' b.im.a.length c2', .slice D2' b.im.b.length d2', .string b.t, .slice R' b.raw.length rc', .slice L' b.l.length lc'] 30)
  have SA := SA.nx B2
  have B1 := bt B1 B2
  have RA := hR0.st B1
  have RB_ := hS0.st B1
  have V := (hV.st B1).more B1.size
  obtain ⟨W0, hW0⟩ : ∃ W0, W0 = (w.alloc (.cells #[.int .i64 a.k, .int .i64 a.n, .bool a.re.s, .slice A1 a.re.a.length c1, .slice D1 a.re.b.length d1, .bool a.im.s, .slice A2 a.im.a.length c2, .slice D2 a.im.b.length d2, .string a.t, .slice R a.raw.length rc, .slice L a.l.length lc] 30)).alloc (.cells #[.int .i64 b.k, .int .i64 b.n, .bool b.re.s, .slice A1' b.re.a.length c1', .slice D1' b.re.b.length d1', .bool b.im.s, .slice A2' b.im.a.length c2', .slice D2' b.im.b.length d2', .string b.t, .slice R' b.raw.length rc', .slice L' b.l.length lc'] 30) := ⟨_, rfl⟩
  have z1 : (w.alloc (.cells #[.int .i64 a.k, .int .i64 a.n, .bool a.re.s, .slice A1 a.re.a.length c1, .slice D1 a.re.b.length d1, .bool a.im.s, .slice A2 a.im.a.length c2, .slice D2 a.im.b.length d2, .string a.t, .slice R a.raw.length rc, .slice L a.l.length lc] 30)).heap.size = w.heap.size + 1 := by simp
  rw [z1] at SB_
  go_enter Tryd.func8, Tryd.ntmps8
  go_upto_region 1 with fail
  rw [← hW0] at SA SB_ B1 RA RB_ V ⊢
  clear hW0 hR hS hR0 hS0 B2 z1 hV
  have i0 := SA.cell 0; have i1 := SA.cell 1; have i2 := SA.cell 2; have i3 := SA.cell 3; have i4 := SA.cell 4; have i5 := SA.cell 5; have i6 := SA.cell 6; have i7 := SA.cell 7; have i8 := SA.cell 8; have i9 := SA.cell 9; have i10 := SA.cell 10
  go_wp2_with fail
  refine (rdsound_any vU a _ _ RA V).mono ?_; rintro e w3 ⟨rfl, B3⟩
  clear i0 i1 i2 i3 i4 i5 i6 i7 i8 i9 i10
  have BN := bt B1 B3
  replace SA := SA.nx B3
  replace SB_ := SB_.nx B3
  replace RA := RA.st B3
  replace RB_ := RB_.st B3
  replace V := (V.st B3).more B3.size
  clear B1 B3
  have B1 := BN
  clear BN
  cases hs : a.sound vU with
  | false =>
    have hf : Hid (z = false) := Lib.hid (by rw [← hz.out]; simp [hs])
    clear hz hs
    go_wp2_with fail
    go_ret
    exact ⟨by rw [hf.out]; rfl, B1⟩
  | true =>
  replace hs := Lib.hid hs
  have j0 := SB_.cell 0; have j1 := SB_.cell 1; have j2 := SB_.cell 2; have j3 := SB_.cell 3; have j4 := SB_.cell 4; have j5 := SB_.cell 5; have j6 := SB_.cell 6; have j7 := SB_.cell 7; have j8 := SB_.cell 8; have j9 := SB_.cell 9; have j10 := SB_.cell 10
  go_wp2_with fail
  refine (rdsound_any vU b _ _ RB_ V).mono ?_; rintro e w4 ⟨rfl, B4⟩
  clear j0 j1 j2 j3 j4 j5 j6 j7 j8 j9 j10
  have BN := bt B1 B4
  replace SA := SA.nx B4
  replace SB_ := SB_.nx B4
  replace RA := RA.st B4
  replace RB_ := RB_.st B4
  replace V := (V.st B4).more B4.size
  clear B1 B4
  have B1 := BN
  clear BN
  cases hs2 : b.sound vU with
  | false =>
    have hf : Hid (z = false) := Lib.hid (by rw [← hz.out]; simp [hs.out, hs2])
    clear hz hs hs2
    go_wp2_with fail
    go_ret
    exact ⟨by rw [hf.out]; rfl, B1⟩
  | true =>
  have hcall := rsame_go _ a b (Nat.le_refl _) _ _ _ RA RB_
  replace hs2 := Lib.hid hs2
  have i0 := SA.cell 0; have i1 := SA.cell 1; have i2 := SA.cell 2; have i3 := SA.cell 3; have i4 := SA.cell 4; have i5 := SA.cell 5; have i6 := SA.cell 6; have i7 := SA.cell 7; have i8 := SA.cell 8; have i9 := SA.cell 9; have i10 := SA.cell 10
  have j0 := SB_.cell 0; have j1 := SB_.cell 1; have j2 := SB_.cell 2; have j3 := SB_.cell 3; have j4 := SB_.cell 4; have j5 := SB_.cell 5; have j6 := SB_.cell 6; have j7 := SB_.cell 7; have j8 := SB_.cell 8; have j9 := SB_.cell 9; have j10 := SB_.cell 10
  have hf : Hid (z = sameD a b) := Lib.hid (by rw [← hz.out]; simp [hs.out, hs2.out])
  generalize sameD a b = sm at *
  clear hz
  go_wp2_with fail
  refine hcall.mono ?_; rintro e w5 ⟨rfl, B5⟩
  go_wp2_with fail
  go_ret
  exact ⟨by rw [hf.out]; rfl, bt B1 B5⟩
set_option maxRecDepth 100000 in
set_option maxHeartbeats 8000000 in
theorem rcmpd_any {a b : Dat} {va vb : Value} {w : World} (hR : RD w w.heap.size a va) (hS : RD w w.heap.size b vb) (hV : RVS vU w.heap.size w) :
    Calls Tryd.prog 10 #[va, vb] w fun e w' => e = .returned (.int .i64 (if a.sound vU = true ∧ b.sound vU = true then a.ord numQ b else 0)) ∧ Below w.heap.size w w' := by
  obtain ⟨z, hz⟩ : ∃ z, Hid ((if a.sound vU = true ∧ b.sound vU = true then a.ord numQ b else 0) = z) := ⟨_, rfl⟩
  rw [hz.out]
  have hR0 := hR
  have hS0 := hS
  obtain ⟨A1, c1, D1, d1, A2, c2, D2, d2, R, rc, L, lc, rfl, -⟩ := hR.view
  obtain ⟨A1', c1', D1', d1', A2', c2', D2', d2', R', rc', L', lc', rfl, -⟩ := hS.view
  have SA := SB.new w [.int .i64 a.k, .int .i64 a.n, .bool a.re.s, .slice A1 a.re.a.length c1, .slice D1 a.re.b.length d1, .bool a.im.s, .slice A2 a.im.a.length c2, .slice D2 a.im.b.length d2, .string a.t, .slice R a.raw.length rc, .slice L a.l.length lc] 30
  have B1 := bal w (.cells #[.int .i64 a.k, .int .i64 a.n, .bool a.re.s, .slice A1 a.re.a.length c1, .slice D1 a.re.b.length d1, .bool a.im.s, .slice A2 a.im.a.length c2, .slice D2 a.im.b.length d2, .string a.t, .slice R a.raw.length rc, .slice L a.l.length lc] 30)
  have SB_ := SB.new (w.alloc (.cells #[.int .i64 a.k, .int .i64 a.n, .bool a.re.s, .slice A1 a.re.a.length c1, .slice D1 a.re.b.length d1, .bool a.im.s, .slice A2 a.im.a.length c2, .slice D2 a.im.b.length d2, .string a.t, .slice R a.raw.length rc, .slice L a.l.length lc] 30)) [.int .i64 b.k, .int .i64 b.n, .bool b.re.s, .slice A1' b.re.a.length c1', .slice D1' b.re.b.length d1', .bool b.im.s, .slice A2' b.im.a.length c2', .slice D2' b.im.b.length d2', .string b.t, .slice R' b.raw.length rc', .slice L' b.l.length lc'] 30
  have B2 := bal (w.alloc (.cells #[.int .i64 a.k, .int .i64 a.n, .bool a.re.s, .slice A1 a.re.a.length c1, .slice D1 a.re.b.length d1, .bool a.im.s, .slice A2 a.im.a.length c2, .slice D2 a.im.b.length d2, .string a.t, .slice R a.raw.length rc, .slice L a.l.length lc] 30)) (.cells #[.int .i64 b.k, .int .i64 b.n, .bool b.re.s, .slice A1' b.re.a.length c1', .slice D1' b.re.b.length d1', .bool b.im.s, .slice A2' b.im.a.length c2', .slice D2' b.im.b.length d2', .string b.t, .slice R' b.raw.length rc', .slice L' b.l.length lc'] 30)
  have SA := SA.nx B2
  have B1 := bt B1 B2
  have RA := hR0.st B1
  have RB_ := hS0.st B1
  have V := (hV.st B1).more B1.size
  obtain ⟨W0, hW0⟩ : ∃ W0, W0 = (w.alloc (.cells #[.int .i64 a.k, .int .i64 a.n, .bool a.re.s, .slice A1 a.re.a.length c1, .slice D1 a.re.b.length d1, .bool a.im.s, .slice A2 a.im.a.length c2, .slice D2 a.im.b.length d2, .string a.t, .slice R a.raw.length rc, .slice L a.l.length lc] 30)).alloc (.cells #[.int .i64 b.k, .int .i64 b.n, .bool b.re.s, .slice A1' b.re.a.length c1', .slice D1' b.re.b.length d1', .bool b.im.s, .slice A2' b.im.a.length c2', .slice D2' b.im.b.length d2', .string b.t, .slice R' b.raw.length rc', .slice L' b.l.length lc'] 30) := ⟨_, rfl⟩
  have z1 : (w.alloc (.cells #[.int .i64 a.k, .int .i64 a.n, .bool a.re.s, .slice A1 a.re.a.length c1, .slice D1 a.re.b.length d1, .bool a.im.s, .slice A2 a.im.a.length c2, .slice D2 a.im.b.length d2, .string a.t, .slice R a.raw.length rc, .slice L a.l.length lc] 30)).heap.size = w.heap.size + 1 := by simp
  rw [z1] at SB_
  go_enter Tryd.func10, Tryd.ntmps10
  go_upto_region 1 with fail
  rw [← hW0] at SA SB_ B1 RA RB_ V ⊢
  clear hW0 hR hS hR0 hS0 B2 z1 hV
  have i0 := SA.cell 0; have i1 := SA.cell 1; have i2 := SA.cell 2; have i3 := SA.cell 3; have i4 := SA.cell 4; have i5 := SA.cell 5; have i6 := SA.cell 6; have i7 := SA.cell 7; have i8 := SA.cell 8; have i9 := SA.cell 9; have i10 := SA.cell 10
  go_wp2_with fail
  refine (rdsound_any vU a _ _ RA V).mono ?_; rintro e w3 ⟨rfl, B3⟩
  clear i0 i1 i2 i3 i4 i5 i6 i7 i8 i9 i10
  have BN := bt B1 B3
  replace SA := SA.nx B3
  replace SB_ := SB_.nx B3
  replace RA := RA.st B3
  replace RB_ := RB_.st B3
  replace V := (V.st B3).more B3.size
  clear B1 B3
  have B1 := BN
  clear BN
  cases hs : a.sound vU with
  | false =>
    have hf : Hid (z = 0) := Lib.hid (by rw [← hz.out]; simp [hs])
    clear hz hs
    go_wp2_with fail
    go_ret
    exact ⟨by rw [hf.out]; rfl, B1⟩
  | true =>
  replace hs := Lib.hid hs
  have j0 := SB_.cell 0; have j1 := SB_.cell 1; have j2 := SB_.cell 2; have j3 := SB_.cell 3; have j4 := SB_.cell 4; have j5 := SB_.cell 5; have j6 := SB_.cell 6; have j7 := SB_.cell 7; have j8 := SB_.cell 8; have j9 := SB_.cell 9; have j10 := SB_.cell 10
  go_wp2_with fail
  refine (rdsound_any vU b _ _ RB_ V).mono ?_; rintro e w4 ⟨rfl, B4⟩
  clear j0 j1 j2 j3 j4 j5 j6 j7 j8 j9 j10
  have BN := bt B1 B4
  replace SA := SA.nx B4
  replace SB_ := SB_.nx B4
  replace RA := RA.st B4
  replace RB_ := RB_.st B4
  replace V := (V.st B4).more B4.size
  clear B1 B4
  have B1 := BN
  clear BN
  cases hs2 : b.sound vU with
  | false =>
    have hf : Hid (z = 0) := Lib.hid (by rw [← hz.out]; simp [hs.out, hs2])
    clear hz hs hs2
    go_wp2_with fail
    go_ret
    exact ⟨by rw [hf.out]; rfl, B1⟩
  | true =>
  have hcall := rord_any RA RB_ (Dat.sound_good hs.out) (Dat.sound_good hs2)
  replace hs2 := Lib.hid hs2
  have i0 := SA.cell 0; have i1 := SA.cell 1; have i2 := SA.cell 2; have i3 := SA.cell 3; have i4 := SA.cell 4; have i5 := SA.cell 5; have i6 := SA.cell 6; have i7 := SA.cell 7; have i8 := SA.cell 8; have i9 := SA.cell 9; have i10 := SA.cell 10
  have j0 := SB_.cell 0; have j1 := SB_.cell 1; have j2 := SB_.cell 2; have j3 := SB_.cell 3; have j4 := SB_.cell 4; have j5 := SB_.cell 5; have j6 := SB_.cell 6; have j7 := SB_.cell 7; have j8 := SB_.cell 8; have j9 := SB_.cell 9; have j10 := SB_.cell 10
  have hf : Hid (z = a.ord numQ b) := Lib.hid (by rw [← hz.out]; simp [hs.out, hs2.out])
  generalize a.ord numQ b = zx at *
  clear hz
  go_wp2_with fail
  refine hcall.mono ?_; rintro e w5 ⟨rfl, B5⟩
  go_wp2_with fail
  go_ret
  exact ⟨by rw [hf.out]; rfl, bt B1 B5⟩
end Go.Proofs.YtccgmeomecjihaaDoor
namespace Go.Proofs.YtccgmeomecjihaaDoor
open Go.RowKit

theorem eqD_same (a b : Dat) : (a.sound vU && (b.sound vU && sameD a b)) = eqD vU a b := by
  unfold eqD
  cases ha : a.sound vU with
  | false => rfl
  | true =>
    cases hb : b.sound vU with
    | false => rfl
    | true =>
      simp only [Bool.true_and]
      by_cases e : a = b
      · subst e
        rw [same_yes rfl, ord_self numOrd a (Dat.sound_good ha)]
        rfl
      · rw [same_no e]
        exact (decide_eq_false (fun h => e (ord_same numOrd a b (Dat.sound_good ha) (Dat.sound_good hb) h))).symm
set_option maxRecDepth 100000 in
set_option maxHeartbeats 16000000 in
theorem compares_walk (a b : Dat) (va vb : Value) (w : World) (ha : RD w w.heap.size a va) (hb : RD w w.heap.size b vb) (hV : VS vU w.heap.size w) :
    Calls Tryd.prog 3 #[va, vb] w fun e w' => e = .returned (.bool true) ∧ Below w.heap.size w w' := by
  obtain ⟨E, hE⟩ : ∃ E, eqD vU a b = E := ⟨_, rfl⟩
  obtain ⟨X, hX⟩ : ∃ X, (if a.sound vU = true ∧ b.sound vU = true then a.ord numQ b else 0) = X := ⟨_, rfl⟩
  have c1 : ∀ (w : World) (va vb : Value), RD w w.heap.size a va → RD w w.heap.size b vb → VS vU w.heap.size w → Calls Tryd.prog 7 #[va, vb] w fun e w' => e = .returned (.bool E) ∧ Below w.heap.size w w' := fun w va vb h1 h2 h3 => by
    rw [← hE]; exact eequal_any vU h1 h2 h3
  have c2 : ∀ (w : World) (va vb : Value), RD w w.heap.size a va → RD w w.heap.size b vb → Calls Tryd.prog 8 #[va, vb] w fun e w' => e = .returned (.bool E) ∧ Below w.heap.size w w' := fun w va vb h1 h2 => by
    rw [← hE, ← eqD_same]; exact requal_any h1 h2 (RVS.of _ _)
  have c3 : ∀ (w : World) (va vb : Value), RD w w.heap.size a va → RD w w.heap.size b vb → VS vU w.heap.size w → Calls Tryd.prog 9 #[va, vb] w fun e w' => e = .returned (.int .i64 X) ∧ Below w.heap.size w w' := fun w va vb h1 h2 h3 => by
    rw [← hX]; exact ecmpd_any vU h1 h2 h3
  have c4 : ∀ (w : World) (va vb : Value), RD w w.heap.size a va → RD w w.heap.size b vb → Calls Tryd.prog 10 #[va, vb] w fun e w' => e = .returned (.int .i64 X) ∧ Below w.heap.size w w' := fun w va vb h1 h2 => by
    rw [← hX]; exact rcmpd_any h1 h2 (RVS.of _ _)
  clear hE hX
  obtain ⟨la, rfl, hla, -⟩ := ha.agg
  obtain ⟨lb, rfl, hlb, -⟩ := hb.agg
  match la, hla, lb, hlb with
  | [x0, x1, x2, x3, x4, x5, x6, x7, x8, x9, x10], _, [y0, y1, y2, y3, y4, y5, y6, y7, y8, y9, y10], _ =>
  have SA := SB.new (w) [x0, x1, x2, x3, x4, x5, x6, x7, x8, x9, x10] 30
  have Ba := bal (w) (.cells #[x0, x1, x2, x3, x4, x5, x6, x7, x8, x9, x10] 30)
  have SB_ := SB.new ((w).alloc (.cells #[x0, x1, x2, x3, x4, x5, x6, x7, x8, x9, x10] 30)) [y0, y1, y2, y3, y4, y5, y6, y7, y8, y9, y10] 30
  have Bb := bal ((w).alloc (.cells #[x0, x1, x2, x3, x4, x5, x6, x7, x8, x9, x10] 30)) (.cells #[y0, y1, y2, y3, y4, y5, y6, y7, y8, y9, y10] 30)
  replace SA := SA.nx Bb
  have BB := Ba
  replace BB := bt BB Bb
  have RA := ha.st BB
  have RB_ := hb.st BB
  have V := (hV.st BB).more BB.size
  have z1_ : ((w).alloc (.cells #[x0, x1, x2, x3, x4, x5, x6, x7, x8, x9, x10] 30)).heap.size = w.heap.size + 1 := by simp
  rw [z1_] at SB_
  go_enter Tryd.func3, Tryd.ntmps3
  go_upto_region 1 with fail
  obtain ⟨W0, hW0⟩ : ∃ W0, W0 = ((w).alloc (.cells #[x0, x1, x2, x3, x4, x5, x6, x7, x8, x9, x10] 30)).alloc (.cells #[y0, y1, y2, y3, y4, y5, y6, y7, y8, y9, y10] 30) := ⟨_, rfl⟩
  rw [← hW0] at SA SB_ BB RA RB_ V ⊢
  clear hW0 Ba Bb ha hb hV z1_
  generalize hn : w.heap.size = n at *
  have hnw : n < W0.heap.size := Nat.lt_of_le_of_lt (Nat.le_of_eq hn.symm) (by rw [hn]; exact SA.2)
  have D := (Below.refl W0.heap.size W0).drew
  have BD : Below n w W0.drew := bdN BB 1
  replace SA := SA.nx D
  replace SB_ := SB_.nx D
  replace RA := RA.st D
  replace RB_ := RB_.st D
  replace V := (V.st D).more D.size
  refine AnyV.regionQ 20 20 (fun w' => w'.rangeAt n 0 [x0, x1, x2, x3, x4, x5, x6, x7, x8, x9, x10] ∧ w'.rangeAt (n + 1) 0 [y0, y1, y2, y3, y4, y5, y6, y7, y8, y9, y10]) rfl (by kernel_rfl) (by kernel_rfl) (by repeat (first | refine quiet_then ?_ | refine quiet_block ?_ | exact quiet_body)) ⟨(fun j u hj => by rw [Nat.zero_add]; exact (SA.1 j u hj).1), (fun j u hj => by rw [Nat.zero_add]; exact (SB_.1 j u hj).1)⟩ (fun Q hQK hq hns hHeld => ?_)
  replace hnw : n < W0.drew.heap.size := SA.2
  clear D BB
  have BB := BD
  clear BD
  generalize W0.drew = w9 at *
  refine AnyV.one 0 (by kernel_rfl) rfl (fun K hK => ?_)
  go_simp
  refine (awake10_any _ V).mono ?_; rintro e w10 ⟨rfl, B10⟩
  go_wp2_with fail
  replace SA := SA.nx B10
  replace SB_ := SB_.nx B10
  replace RA := RA.st B10
  replace RB_ := RB_.st B10
  replace V := (V.st B10).more B10.size
  have BN := BB.trans (B10.mono (Nat.le_of_lt hnw))
  clear BB B10
  have BB := BN
  clear BN
  replace hnw : n < w10.heap.size := SA.2
  refine hK.out _ _ (.inr ⟨(fun j u hj => by rw [Nat.zero_add]; exact (SA.1 j u hj).1), (fun j u hj => by rw [Nat.zero_add]; exact (SB_.1 j u hj).1)⟩) (fun hHeld => ?_)
  have hHeld := hHeld.resolve_left (by decide)
  clear hK K
  try simp only [List.setIfInBounds_toArray, List.set_cons_zero, List.set_cons_succ]
  refine AnyV.next (i := 1) (v := ?_) hq hns hHeld rfl rfl (by kernel_rfl) (Or.inl ⟨by rfl, ?_⟩) ?_
  rotate_left
  · intro w' hSw; (try dsimp only at hSw); go_simp <;> with_reducible rfl
  try simp only [List.setIfInBounds_toArray, List.set_cons_zero, List.set_cons_succ]
  refine AnyV.next (i := 2) (v := .agg [x0, x1, x2, x3, x4, x5, x6, x7, x8, x9, x10].toArray) hq hns hHeld rfl rfl (by kernel_rfl) (yieldsIf_load_mid (by rfl) 30 (.tmp 2) rfl n 0 rfl [x0, x1, x2, x3, x4, x5, x6, x7, x8, x9, x10] _ (fun w' h => h.1) Tryd.underlying30 rfl (infoD.trans (by rfl))) ?_
  try simp only [List.setIfInBounds_toArray, List.set_cons_zero, List.set_cons_succ]
  refine AnyV.next (i := 3) (v := .agg [y0, y1, y2, y3, y4, y5, y6, y7, y8, y9, y10].toArray) hq hns hHeld rfl rfl (by kernel_rfl) (yieldsIf_load_mid (by rfl) 30 (.tmp 3) rfl (n + 1) 0 rfl [y0, y1, y2, y3, y4, y5, y6, y7, y8, y9, y10] _ (fun w' h => h.2) Tryd.underlying30 rfl (infoD.trans (by rfl))) ?_
  try simp only [List.setIfInBounds_toArray, List.set_cons_zero, List.set_cons_succ]
  refine AnyV.next (i := 5) (v := .agg [x0, x1, x2, x3, x4, x5, x6, x7, x8, x9, x10].toArray) hq hns hHeld rfl rfl (by kernel_rfl) (yieldsIf_load_mid (by rfl) 30 (.tmp 2) rfl n 0 rfl [x0, x1, x2, x3, x4, x5, x6, x7, x8, x9, x10] _ (fun w' h => h.1) Tryd.underlying30 rfl (infoD.trans (by rfl))) ?_
  try simp only [List.setIfInBounds_toArray, List.set_cons_zero, List.set_cons_succ]
  refine AnyV.next (i := 6) (v := .agg [y0, y1, y2, y3, y4, y5, y6, y7, y8, y9, y10].toArray) hq hns hHeld rfl rfl (by kernel_rfl) (yieldsIf_load_mid (by rfl) 30 (.tmp 3) rfl (n + 1) 0 rfl [y0, y1, y2, y3, y4, y5, y6, y7, y8, y9, y10] _ (fun w' h => h.2) Tryd.underlying30 rfl (infoD.trans (by rfl))) ?_
  try simp only [List.setIfInBounds_toArray, List.set_cons_zero, List.set_cons_succ]
  refine AnyV.one 4 (by kernel_rfl) rfl (fun K hK => ?_)
  go_simp
  refine (c1 _ _ _ RA RB_ V).mono ?_; rintro e w11 ⟨rfl, B11⟩
  go_wp2_with fail
  replace SA := SA.nx B11
  replace SB_ := SB_.nx B11
  replace RA := RA.st B11
  replace RB_ := RB_.st B11
  replace V := (V.st B11).more B11.size
  have BN := BB.trans (B11.mono (Nat.le_of_lt hnw))
  clear BB B11
  have BB := BN
  clear BN
  replace hnw : n < w11.heap.size := SA.2
  refine hK.out _ _ (.inr ⟨(fun j u hj => by rw [Nat.zero_add]; exact (SA.1 j u hj).1), (fun j u hj => by rw [Nat.zero_add]; exact (SB_.1 j u hj).1)⟩) (fun hHeld => ?_)
  have hHeld := hHeld.resolve_left (by decide)
  clear hK K
  try simp only [List.setIfInBounds_toArray, List.set_cons_zero, List.set_cons_succ]
  refine AnyV.one 7 (by kernel_rfl) rfl (fun K hK => ?_)
  go_simp
  refine (c2 _ _ _ RA RB_).mono ?_; rintro e w12 ⟨rfl, B12⟩
  go_wp2_with fail
  replace SA := SA.nx B12
  replace SB_ := SB_.nx B12
  replace RA := RA.st B12
  replace RB_ := RB_.st B12
  replace V := (V.st B12).more B12.size
  have BN := BB.trans (B12.mono (Nat.le_of_lt hnw))
  clear BB B12
  have BB := BN
  clear BN
  replace hnw : n < w12.heap.size := SA.2
  refine hK.out _ _ (.inr ⟨(fun j u hj => by rw [Nat.zero_add]; exact (SA.1 j u hj).1), (fun j u hj => by rw [Nat.zero_add]; exact (SB_.1 j u hj).1)⟩) (fun hHeld => ?_)
  have hHeld := hHeld.resolve_left (by decide)
  clear hK K
  try simp only [List.setIfInBounds_toArray, List.set_cons_zero, List.set_cons_succ]
  have tE : (E == E) = true := by simp
  refine AnyV.next (i := 8) (v := ?_) hq hns hHeld rfl rfl (by kernel_rfl) (Or.inl ⟨by rfl, ?_⟩) ?_
  rotate_left
  · intro w' hSw; (try dsimp only at hSw); go_simp <;> with_reducible rfl
  try simp only [List.setIfInBounds_toArray, List.set_cons_zero, List.set_cons_succ]
  refine AnyV.next (i := 9) (v := ?_) hq hns hHeld rfl rfl (by kernel_rfl) (Or.inl ⟨by rfl, ?_⟩) ?_
  rotate_left
  · intro w' hSw; (try dsimp only at hSw); go_simp <;> with_reducible rfl
  try simp only [List.setIfInBounds_toArray, List.set_cons_zero, List.set_cons_succ]
  refine AnyV.next (i := 10) (v := ?_) hq hns hHeld rfl rfl (by kernel_rfl) (Or.inl ⟨by rfl, ?_⟩) ?_
  rotate_left
  · intro w' hSw; (try dsimp only at hSw); go_simp <;> with_reducible rfl
  try simp only [List.setIfInBounds_toArray, List.set_cons_zero, List.set_cons_succ]
  refine AnyV.next (i := 11) (v := .agg [x0, x1, x2, x3, x4, x5, x6, x7, x8, x9, x10].toArray) hq hns hHeld rfl rfl (by kernel_rfl) (yieldsIf_load_mid (by rfl) 30 (.tmp 2) rfl n 0 rfl [x0, x1, x2, x3, x4, x5, x6, x7, x8, x9, x10] _ (fun w' h => h.1) Tryd.underlying30 rfl (infoD.trans (by rfl))) ?_
  try simp only [List.setIfInBounds_toArray, List.set_cons_zero, List.set_cons_succ]
  refine AnyV.next (i := 12) (v := .agg [y0, y1, y2, y3, y4, y5, y6, y7, y8, y9, y10].toArray) hq hns hHeld rfl rfl (by kernel_rfl) (yieldsIf_load_mid (by rfl) 30 (.tmp 3) rfl (n + 1) 0 rfl [y0, y1, y2, y3, y4, y5, y6, y7, y8, y9, y10] _ (fun w' h => h.2) Tryd.underlying30 rfl (infoD.trans (by rfl))) ?_
  try simp only [List.setIfInBounds_toArray, List.set_cons_zero, List.set_cons_succ]
  refine AnyV.next (i := 14) (v := .agg [x0, x1, x2, x3, x4, x5, x6, x7, x8, x9, x10].toArray) hq hns hHeld rfl rfl (by kernel_rfl) (yieldsIf_load_mid (by rfl) 30 (.tmp 2) rfl n 0 rfl [x0, x1, x2, x3, x4, x5, x6, x7, x8, x9, x10] _ (fun w' h => h.1) Tryd.underlying30 rfl (infoD.trans (by rfl))) ?_
  try simp only [List.setIfInBounds_toArray, List.set_cons_zero, List.set_cons_succ]
  refine AnyV.next (i := 15) (v := .agg [y0, y1, y2, y3, y4, y5, y6, y7, y8, y9, y10].toArray) hq hns hHeld rfl rfl (by kernel_rfl) (yieldsIf_load_mid (by rfl) 30 (.tmp 3) rfl (n + 1) 0 rfl [y0, y1, y2, y3, y4, y5, y6, y7, y8, y9, y10] _ (fun w' h => h.2) Tryd.underlying30 rfl (infoD.trans (by rfl))) ?_
  try simp only [List.setIfInBounds_toArray, List.set_cons_zero, List.set_cons_succ]
  refine AnyV.one 13 (by kernel_rfl) rfl (fun K hK => ?_)
  go_simp
  refine (c3 _ _ _ RA RB_ V).mono ?_; rintro e w13 ⟨rfl, B13⟩
  go_wp2_with fail
  replace SA := SA.nx B13
  replace SB_ := SB_.nx B13
  replace RA := RA.st B13
  replace RB_ := RB_.st B13
  replace V := (V.st B13).more B13.size
  have BN := BB.trans (B13.mono (Nat.le_of_lt hnw))
  clear BB B13
  have BB := BN
  clear BN
  replace hnw : n < w13.heap.size := SA.2
  refine hK.out _ _ (.inr ⟨(fun j u hj => by rw [Nat.zero_add]; exact (SA.1 j u hj).1), (fun j u hj => by rw [Nat.zero_add]; exact (SB_.1 j u hj).1)⟩) (fun hHeld => ?_)
  have hHeld := hHeld.resolve_left (by decide)
  clear hK K
  try simp only [List.setIfInBounds_toArray, List.set_cons_zero, List.set_cons_succ]
  refine AnyV.one 16 (by kernel_rfl) rfl (fun K hK => ?_)
  go_simp
  refine (c4 _ _ _ RA RB_).mono ?_; rintro e w14 ⟨rfl, B14⟩
  go_wp2_with fail
  replace SA := SA.nx B14
  replace SB_ := SB_.nx B14
  replace RA := RA.st B14
  replace RB_ := RB_.st B14
  replace V := (V.st B14).more B14.size
  have BN := BB.trans (B14.mono (Nat.le_of_lt hnw))
  clear BB B14
  have BB := BN
  clear BN
  replace hnw : n < w14.heap.size := SA.2
  refine hK.out _ _ (.inr ⟨(fun j u hj => by rw [Nat.zero_add]; exact (SA.1 j u hj).1), (fun j u hj => by rw [Nat.zero_add]; exact (SB_.1 j u hj).1)⟩) (fun hHeld => ?_)
  have hHeld := hHeld.resolve_left (by decide)
  clear hK K
  try simp only [List.setIfInBounds_toArray, List.set_cons_zero, List.set_cons_succ]
  have tX : (X == X) = true := by simp
  refine AnyV.next (i := 17) (v := ?_) hq hns hHeld rfl rfl (by kernel_rfl) (Or.inl ⟨by rfl, ?_⟩) ?_
  rotate_left
  · intro w' hSw; (try dsimp only at hSw); go_simp <;> with_reducible rfl
  try simp only [List.setIfInBounds_toArray, List.set_cons_zero, List.set_cons_succ]
  refine AnyV.next (i := 18) (v := ?_) hq hns hHeld rfl rfl (by kernel_rfl) (Or.inl ⟨by rfl, ?_⟩) ?_
  rotate_left
  · intro w' hSw; (try dsimp only at hSw); go_simp <;> with_reducible rfl
  try simp only [List.setIfInBounds_toArray, List.set_cons_zero, List.set_cons_succ]
  refine AnyV.one 19 (by kernel_rfl) rfl (fun K hK => ?_)
  go_simp
  refine hK.out _ _ (.inr hHeld) (fun _ => ?_)
  clear hK K
  try simp only [List.setIfInBounds_toArray, List.set_cons_zero, List.set_cons_succ]
  refine AnyV.done (by kernel_rfl) (hQK.out _ _ ?_)
  clear hQK hq hns hHeld
  go_wp2_with fail
  go_ret
  exact ⟨rfl, by rw [hn]; exact BB⟩
end Go.Proofs.YtccgmeomecjihaaDoor
