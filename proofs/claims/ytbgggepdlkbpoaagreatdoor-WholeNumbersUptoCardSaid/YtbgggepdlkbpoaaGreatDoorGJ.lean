/- Merged texts: RdA, ExX, RdT, RdU, StrA, RdB. -/
import Derived.Test.YtbgggepdlkbpoaaGreatDoorGG
import Derived.Test.YtbgggepdlkbpoaaGreatDoorGI
import Derived.BigQuiet
import Derived.Lib.Strings
import Derived.Lib.IndexBytes
import Derived.Test.YtbgggepdlkbpoaaGreatDoorGH
import Derived.Test.YtbgggepdlkbpoaaGreatDoorGF
import Derived.Test.YtbgggepdlkbpoaaGreatDoorGA
namespace Go.Proofs.YtbgggepdlkbpoaaGreatDoor
open Go.RowKit

/-- only block g is written, of all that stand -/
structure FarW (g : Nat) (w w' : World) : Prop where
  below : Below g w w'
  above : ∀ k, g < k → k < w.heap.size → w'.heap[k]? = w.heap[k]?
theorem FarW.refl (g : Nat) (w : World) : FarW g w w := ⟨Below.refl g w, fun _ _ _ => rfl⟩
theorem FarW.trans {g : Nat} {w w1 w2 : World} (h1 : FarW g w w1) (h2 : FarW g w1 w2) : FarW g w w2 :=
  ⟨h1.below.trans h2.below, fun k hk hw => (h2.above k hk (Nat.lt_of_lt_of_le hw h1.below.size)).trans (h1.above k hk hw)⟩
theorem FarW.of {g : Nat} {w w1 : World} (h : Below w.heap.size w w1) (hg : g ≤ w.heap.size) : FarW g w w1 := ⟨h.mono hg, fun k _ hw => h.block k hw⟩
theorem FarW.nx {g : Nat} {w w1 w2 : World} (h1 : FarW g w w1) (h2 : Below w1.heap.size w1 w2) (hg : g ≤ w1.heap.size) : FarW g w w2 := h1.trans (FarW.of h2 hg)
theorem FarW.dN {g : Nat} {w w1 : World} (h : FarW g w w1) (n : Nat) : FarW g w (w1.drewN n) := ⟨bdN h.below n, fun k hk hw => h.above k hk hw⟩
theorem FarW.size {g : Nat} {w w1 : World} (h : FarW g w w1) : w.heap.size ≤ w1.heap.size ∨ w1.heap.size < g := by
  exact .inl h.below.size
theorem FarW.set {g : Nat} {w w1 : World} (h : FarW g w w1) (k : Nat) (v : Value) : FarW g w (w1.setCell ⟨g, k, none⟩ v) :=
  ⟨h.below.setCell (p := ⟨g, k, none⟩) (Nat.le_refl _) v, fun j hj hw => (heap_setCell_other w1 ⟨g, k, none⟩ j v (by show j ≠ g; omega)).trans (h.above j hj hw)⟩
theorem FarW.far {g b : Nat} {w w1 : World} (h : FarW g w w1) (hb : w.heap.size ≤ b) (hg : g ≤ w.heap.size) (k : Nat) (v : Value) : FarW g w (w1.setCell ⟨b, k, none⟩ v) :=
  ⟨h.below.setCell (p := ⟨b, k, none⟩) (by show g ≤ b; omega) v, fun j hj hw => (heap_setCell_other w1 ⟨b, k, none⟩ j v (by show j ≠ b; omega)).trans (h.above j hj hw)⟩
theorem OW.farW {g base : Nat} {w w1 : World} {A : Option Addr} {c : Nat} {l : List Nat} (h : OW w base A c l) (hf : FarW g w w1) (hg : g < base) : OW w1 base A c l := by
  refine ⟨h.1.kept fun b hb => ?_, h.2⟩
  subst hb
  have := h.lt
  exact hf.above b (by omega) this.2
theorem SB.farW {g b : Nat} {w w1 : World} {vs : List Value} (h : SB w b vs) (hf : FarW g w w1) (hb : g < b) : SB w1 b vs := by
  have hl := h.lt
  have e := hf.above b hb hl
  refine ⟨fun i v hv => ?_, Nat.lt_of_lt_of_le hl hf.below.size⟩
  have := h.1 i v hv
  rw [World.cell?, World.frozen?, e]
  exact this

theorem tw_split {r k : Nat} {l : List UInt8} (hok : okd r (l.take k) = true) (hr : ∀ c, (l.drop k).head? = some c → isDr r c = false) : l.takeWhile (isDr r) = l.take k ∧ l.dropWhile (isDr r) = l.drop k := by
  have := take_dt (isD := isDr r) (a := l.take k) (r := l.drop k) (fun c hc => List.all_eq_true.1 hok c hc) hr
  rwa [List.take_append_drop] at this
theorem dig_none {r : Nat} {l : List UInt8} (e : Int) (hr : ∀ c, l.head? = some c → isDr r c = false) : digP (isDr r) (rdr r) l e = ([], false, l, e) := by
  have h := (tw_split (r := r) (k := 0) (l := l) rfl (by rw [List.drop_zero]; exact hr)).1
  unfold digP
  rw [h, List.take_zero, if_pos rfl]
theorem dig_some {r k : Nat} {l : List UInt8} (e : Int) (h0 : k ≠ 0) (hk : k ≤ l.length) (hok : okd r (l.take k) = true) (hr : ∀ c, (l.drop k).head? = some c → isDr r c = false) :
    digP (isDr r) (rdr r) l e = (digs (readA (l.take k) (r : Int)).1, true, l.drop k, if (readA (l.take k) (r : Int)).2 ≠ 0 then 4 else e) := by
  obtain ⟨h1, h2⟩ := tw_split hok hr
  have hn : l.take k ≠ [] := fun h => by have := congrArg List.length h; rw [List.length_take, List.length_nil] at this; omega
  unfold digP
  rw [h1, h2, if_neg hn]
  rfl
theorem ext_take (s : ByteArray) (k : Nat) : (s.extract 0 k).data.toList = s.data.toList.take k := by
  rw [Lib.extract_data, List.drop_zero, Nat.sub_zero]
theorem ext_drop (s : ByteArray) (k : Nat) : (s.extract k s.size).data.toList = s.data.toList.drop k := Lib.extract_to_end s k
/-- what digits gives, and leaves in the reader -/
def RetDg (w : World) (g r : Nat) (x : List Nat × Bool × List UInt8 × Int) (e : Ending) (w' : World) : Prop :=
  ∃ A c s', e = .returned (.tuple #[.slice A x.1.length c, .bool x.2.1]) ∧ OW w' w.heap.size A c x.1 ∧ s'.data.toList = x.2.2.1 ∧ SB w' g [.string s', .int .i64 (r : Int), .int .i64 x.2.2.2] ∧ FarW g w w'

set_option maxRecDepth 100000 in
set_option maxHeartbeats 4000000 in
theorem digits_any (g : Nat) (s : ByteArray) (r : Nat) (e : Int) (w : World) (hs : s.size ≤ 140737488351232) (h1 : 2 ≤ r) (h2 : r ≤ 36) (S : SB w g [.string s, .int .i64 (r : Int), .int .i64 e]) :
    Calls Tryz.prog 73 #[.pointer (some ⟨g, 0, none⟩)] w (RetDg w g r (digP (isDr r) (rdr r) s.data.toList e)) := by
  have hsl := s_len s
  have HSL := Lib.hid hsl
  clear hsl
  have hgw := S.lt
  go_enter Tryz.func73, Tryz.ntmps73
  go_wp2_with fail
  go_loopg [4] s.size (fun gk s4 wx => ∃ k : Nat, k ≤ s.size ∧ s4 = .int .i64 (k : Int) ∧ gk = s.size - k ∧ Hid (okd r (s.data.toList.take k) = true) ∧ SB wx g [.string s, .int .i64 (r : Int), .int .i64 e] ∧ Below w.heap.size w wx)
  case atStart => exact ⟨0, Nat.zero_le _, rfl, rfl, rfl, S, Below.refl _ _⟩
  case round =>
    clear S
    obtain ⟨k, hk, rfl, rfl, hok, Sx, Bx⟩ := hrel
    obtain ⟨wx, rfl⟩ : ∃ wx : World, wx = wr := ⟨_, rfl⟩
    have m0 := Sx.cell 0
    have m1 := Sx.cell 1
    have m2 := Sx.cell 2
    by_cases h0 : k < s.size
    · have e1 := s_at h0
      have hdl := dval_le (byt s.data.toList k)
      have hv := fun w => value_any (byt s.data.toList k) w (byt_lt _ _)
      have d1 : (k : Int) < (s.size : Int) := by omega
      have kp : (0 : Int) ≤ (k : Int) := by omega
      by_cases hd : dval (byt s.data.toList k) < r
      · have hst : Hid (okd r (s.data.toList.take (k + 1)) = true) := by
          show _ = _
          rw [okd_take (by rw [HSL.out]; exact h0), hok.out, decide_eq_true hd]; rfl
        have d2 : (dval (byt s.data.toList k) : Int) < (r : Int) := by omega
        go_wp2_with fail
        go_quiet ((go_at_call 84; exact quiet_left (hv _)))
        go_wp2_with fail
        go_roundg (s.size - (k + 1))
        case measure => omega
        case rel => exact ⟨k + 1, by omega, by go_num, rfl, hst, Sx, bdN Bx _⟩
      · have d2 : decide ((dval (byt s.data.toList k) : Int) < (r : Int)) = false := decide_eq_false (by omega)
        have hend : ∀ c, (s.data.toList.drop k).head? = some c → isDr r c = false := by
          intro c hc
          rw [List.head?_drop] at hc
          have hb : byt s.data.toList k = c.toNat := by unfold byt; rw [List.getD_eq_getElem?_getD, hc]; rfl
          rw [hb] at hd
          exact decide_eq_false hd
        go_wp2_with fail
        go_quiet ((go_at_call 84; exact quiet_left (hv _)))
        have By := bdN Bx nq
        have Sy : SB (wx.drewN nq) g [.string s, .int .i64 (r : Int), .int .i64 e] := Sx
        clear Bx Sx m0 m1 m2
        generalize wx.drewN nq = wy at *
        have m0 := Sy.cell 0
        have m1 := Sy.cell 1
        have m2 := Sy.cell 2
        by_cases hk0 : k = 0
        · subst hk0
          rw [List.drop_zero] at hend
          have hR := Lib.hid (dig_none (r := r) e hend)
          clear hend
          go_wp2_with fail
          go_ret2
          rw [hR.out]
          exact ⟨none, 0, s, rfl, OW.nil _ _, rfl, Sy, FarW.of By (Nat.le_of_lt hgw)⟩
        · have hR := Lib.hid (dig_some (r := r) e hk0 (by rw [HSL.out]; exact hk) hok.out hend)
          clear hend
          have tk : ((k : Int) == 0) = false := beq_eq_false_iff_ne.2 (by omega)
          have hx := fun w => read_any (s.extract 0 k) (r : Int) w (by rw [ByteArray.size_extract]; omega)
          rw [ext_take] at hx
          have he04 := rdr_err h1 h2 (s.data.toList.take k) (fun h => by have := congrArg List.length h; rw [List.length_take, HSL.out, List.length_nil] at this; omega) hok.out
          unfold rdr at he04
          dsimp only at he04
          have kI : (k : Int) ≤ (s.size : Int) := by omega
          have kI0 : (0 : Int) ≤ (k : Int) := by omega
          clear h1 h2 hok
          generalize readA (s.data.toList.take k) (r : Int) = x at *
          obtain ⟨n, E⟩ := x
          dsimp only at he04 hx hR
          go_wp2_with fail
          have Bx : Below w.heap.size w wy.drew := bdN By 1
          have Sx : SB wy.drew g [.string s, .int .i64 (r : Int), .int .i64 e] := Sy
          refine AnyW.regionQ (fun _ => false) 16 (fun w' => w'.cell? ⟨g, 0, none⟩ = some (.string s) ∧ w'.cell? ⟨g, 1, none⟩ = some (.int .i64 (r : Int))) rfl (by kernel_rfl) (by kernel_rfl) (by (repeat (with_reducible (first | refine quiet_then ?_ | refine quiet_block ?_))); exact quiet_body) ⟨m0, m1⟩ (fun Q' hQK hq hns hHeld => ?_)
          generalize wy.drew = wd at *
          refine AnyW.nextT (i := 0) (v := ?_) hq hns (.inr hHeld) rfl rfl (by kernel_rfl) (Or.inl ⟨by rfl, ?_⟩) ?_
          rotate_left
          · intro w' _; go_simp <;> with_reducible rfl
          try simp only [List.setIfInBounds_toArray, List.set_cons_zero, List.set_cons_succ]
          refine AnyW.nextT (i := 1) (v := ?_) hq hns (.inr hHeld) rfl rfl (by kernel_rfl) (Or.inl ⟨by rfl, ?_⟩) ?_
          rotate_left
          · intro w' _; go_simp <;> with_reducible rfl
          try simp only [List.setIfInBounds_toArray, List.set_cons_zero, List.set_cons_succ]
          refine AnyW.nextT (i := 2) (v := ?_) hq hns (.inr hHeld) rfl rfl (by kernel_rfl) (Or.inl ⟨by rfl, ?_⟩) ?_
          rotate_left
          · intro w' _; go_simp <;> with_reducible rfl
          try simp only [List.setIfInBounds_toArray, List.set_cons_zero, List.set_cons_succ]
          refine AnyW.next (i := 3) (v := ?_) hq hns hHeld rfl rfl (by kernel_rfl) (Or.inl ⟨by rfl, ?_⟩) ?_
          rotate_left
          · intro w' hSw; (try dsimp only at hSw); go_simp <;> with_reducible rfl
          try simp only [List.setIfInBounds_toArray, List.set_cons_zero, List.set_cons_succ]
          refine AnyW.nextT (i := 4) (v := ?_) hq hns (.inr hHeld) rfl rfl (by kernel_rfl) (Or.inl ⟨by rfl, ?_⟩) ?_
          rotate_left
          · intro w' _; go_simp <;> with_reducible rfl
          try simp only [List.setIfInBounds_toArray, List.set_cons_zero, List.set_cons_succ]
          refine AnyW.nextT (i := 5) (v := ?_) hq hns (.inr hHeld) rfl rfl (by kernel_rfl) (Or.inl ⟨by rfl, ?_⟩) ?_
          rotate_left
          · intro w' _; go_simp <;> with_reducible rfl
          try simp only [List.setIfInBounds_toArray, List.set_cons_zero, List.set_cons_succ]
          refine AnyW.nextT (i := 6) (v := ?_) hq hns (.inr hHeld) rfl rfl (by kernel_rfl) (Or.inl ⟨by rfl, ?_⟩) ?_
          rotate_left
          · intro w' _; go_simp <;> with_reducible rfl
          try simp only [List.setIfInBounds_toArray, List.set_cons_zero, List.set_cons_succ]
          refine AnyW.nextT (i := 7) (v := ?_) hq hns (.inr hHeld) rfl rfl (by kernel_rfl) (Or.inl ⟨by rfl, ?_⟩) ?_
          rotate_left
          · intro w' _; go_simp <;> with_reducible rfl
          try simp only [List.setIfInBounds_toArray, List.set_cons_zero, List.set_cons_succ]
          refine AnyW.nextT (i := 8) (v := ?_) hq hns (.inr hHeld) rfl rfl (by kernel_rfl) (Or.inl ⟨by rfl, ?_⟩) ?_
          rotate_left
          · intro w' _; go_simp <;> with_reducible rfl
          try simp only [List.setIfInBounds_toArray, List.set_cons_zero, List.set_cons_succ]
          refine AnyW.next (i := 9) (v := ?_) hq hns hHeld rfl rfl (by kernel_rfl) (Or.inl ⟨by rfl, ?_⟩) ?_
          rotate_left
          · intro w' hSw; (try dsimp only at hSw); go_simp <;> with_reducible rfl
          try simp only [List.setIfInBounds_toArray, List.set_cons_zero, List.set_cons_succ]
          refine AnyW.one 10 (by kernel_rfl) rfl (fun K' hK => ?_)
          go_simp
          refine (hx _).mono ?_
          rintro e' wr ⟨A, c, rfl, O, BX⟩
          clear hx
          go_wp2_with fail
          have Sr := Sx.nx BX
          refine hK.out _ _ (.inr ⟨Sr.cell 0, Sr.cell 1⟩) (fun hG => ?_)
          have hHeld := hG.resolve_left (notGone.spec (by rfl))
          clear hK K' hG
          try simp only [List.setIfInBounds_toArray, List.set_cons_zero, List.set_cons_succ]
          refine AnyW.nextT (i := 11) (v := ?_) hq hns (.inr hHeld) rfl rfl (by kernel_rfl) (Or.inl ⟨by rfl, ?_⟩) ?_
          rotate_left
          · intro w' _; go_simp <;> with_reducible rfl
          try simp only [List.setIfInBounds_toArray, List.set_cons_zero, List.set_cons_succ]
          refine AnyW.nextT (i := 12) (v := ?_) hq hns (.inr hHeld) rfl rfl (by kernel_rfl) (Or.inl ⟨by rfl, ?_⟩) ?_
          rotate_left
          · intro w' _; go_simp <;> with_reducible rfl
          try simp only [List.setIfInBounds_toArray, List.set_cons_zero, List.set_cons_succ]
          refine AnyW.nextT (i := 13) (v := ?_) hq hns (.inr hHeld) rfl rfl (by kernel_rfl) (Or.inl ⟨by rfl, ?_⟩) ?_
          rotate_left
          · intro w' _; go_simp <;> with_reducible rfl
          try simp only [List.setIfInBounds_toArray, List.set_cons_zero, List.set_cons_succ]
          refine AnyW.nextT (i := 14) (v := ?_) hq hns (.inr hHeld) rfl rfl (by kernel_rfl) (Or.inl ⟨by rfl, ?_⟩) ?_
          rotate_left
          · intro w' _; go_simp <;> with_reducible rfl
          try simp only [List.setIfInBounds_toArray, List.set_cons_zero, List.set_cons_succ]
          refine AnyW.nextT (i := 15) (v := ?_) hq hns (.inr hHeld) rfl rfl (by kernel_rfl) (Or.inl ⟨by rfl, ?_⟩) ?_
          rotate_left
          · intro w' _; go_simp <;> with_reducible rfl
          try simp only [List.setIfInBounds_toArray, List.set_cons_zero, List.set_cons_succ]
          refine AnyW.done (by kernel_rfl) (hQK.out _ _ ?_)
          clear hQK hq hns hHeld
          have Br := bt Bx BX
          have hz : w.heap.size ≤ wd.heap.size := Bx.size
          have O := O.base_le hz
          clear BX Bx Sx m0 m1 m2
          have FF := FarW.of Br (Nat.le_of_lt hgw)
          rcases he04 with rfl | rfl
          · have S9 := (Sr).set 0 (.string (s.extract k s.size))
            have F9 := (FF).set 0 (.string (s.extract k s.size))
            have O9 := O.farW (((FarW.refl g wr)).set 0 (.string (s.extract k s.size))) hgw
            have n0 := Sr.cell 0
            have n2 := Sr.cell 2
            have f0 := Sr.frozen 0
            have f2 := Sr.frozen 2
            go_wp2_with fail
            go_ret2
            rw [hR.out]
            exact ⟨A, c, s.extract k s.size, rfl, O9, ext_drop s k, S9, F9⟩
          · have S9 := (Sr.set 2 (.int .i64 4)).set 0 (.string (s.extract k s.size))
            have F9 := (FF.set 2 (.int .i64 4)).set 0 (.string (s.extract k s.size))
            have O9 := O.farW (((FarW.refl g wr).set 2 (.int .i64 4)).set 0 (.string (s.extract k s.size))) hgw
            have n0 := Sr.cell 0
            have n2 := Sr.cell 2
            have f0 := Sr.frozen 0
            have f2 := Sr.frozen 2
            go_wp2_with fail
            go_ret2
            rw [hR.out]
            exact ⟨A, c, s.extract k s.size, rfl, O9, ext_drop s k, S9, F9⟩
    · have d1 : decide ((k : Int) < (s.size : Int)) = false := decide_eq_false (by omega)
      have hend : ∀ c, (s.data.toList.drop k).head? = some c → isDr r c = false := by
        intro c hc
        rw [List.head?_drop, List.getElem?_eq_none (by rw [HSL.out]; omega)] at hc
        cases hc
      go_wp2_with fail
      go_quiet (fail)
      have By := bdN Bx nq
      have Sy : SB (wx.drewN nq) g [.string s, .int .i64 (r : Int), .int .i64 e] := Sx
      clear Bx Sx m0 m1 m2
      generalize wx.drewN nq = wy at *
      have m0 := Sy.cell 0
      have m1 := Sy.cell 1
      have m2 := Sy.cell 2
      by_cases hk0 : k = 0
      · subst hk0
        rw [List.drop_zero] at hend
        have hR := Lib.hid (dig_none (r := r) e hend)
        clear hend
        go_wp2_with fail
        go_ret2
        rw [hR.out]
        exact ⟨none, 0, s, rfl, OW.nil _ _, rfl, Sy, FarW.of By (Nat.le_of_lt hgw)⟩
      · have hR := Lib.hid (dig_some (r := r) e hk0 (by rw [HSL.out]; exact hk) hok.out hend)
        clear hend
        have tk : ((k : Int) == 0) = false := beq_eq_false_iff_ne.2 (by omega)
        have hx := fun w => read_any (s.extract 0 k) (r : Int) w (by rw [ByteArray.size_extract]; omega)
        rw [ext_take] at hx
        have he04 := rdr_err h1 h2 (s.data.toList.take k) (fun h => by have := congrArg List.length h; rw [List.length_take, HSL.out, List.length_nil] at this; omega) hok.out
        unfold rdr at he04
        dsimp only at he04
        have kI : (k : Int) ≤ (s.size : Int) := by omega
        have kI0 : (0 : Int) ≤ (k : Int) := by omega
        clear h1 h2 hok
        generalize readA (s.data.toList.take k) (r : Int) = x at *
        obtain ⟨n, E⟩ := x
        dsimp only at he04 hx hR
        go_wp2_with fail
        have Bx : Below w.heap.size w wy.drew := bdN By 1
        have Sx : SB wy.drew g [.string s, .int .i64 (r : Int), .int .i64 e] := Sy
        refine AnyW.regionQ (fun _ => false) 16 (fun w' => w'.cell? ⟨g, 0, none⟩ = some (.string s) ∧ w'.cell? ⟨g, 1, none⟩ = some (.int .i64 (r : Int))) rfl (by kernel_rfl) (by kernel_rfl) (by (repeat (with_reducible (first | refine quiet_then ?_ | refine quiet_block ?_))); exact quiet_body) ⟨m0, m1⟩ (fun Q' hQK hq hns hHeld => ?_)
        generalize wy.drew = wd at *
        refine AnyW.nextT (i := 0) (v := ?_) hq hns (.inr hHeld) rfl rfl (by kernel_rfl) (Or.inl ⟨by rfl, ?_⟩) ?_
        rotate_left
        · intro w' _; go_simp <;> with_reducible rfl
        try simp only [List.setIfInBounds_toArray, List.set_cons_zero, List.set_cons_succ]
        refine AnyW.nextT (i := 1) (v := ?_) hq hns (.inr hHeld) rfl rfl (by kernel_rfl) (Or.inl ⟨by rfl, ?_⟩) ?_
        rotate_left
        · intro w' _; go_simp <;> with_reducible rfl
        try simp only [List.setIfInBounds_toArray, List.set_cons_zero, List.set_cons_succ]
        refine AnyW.nextT (i := 2) (v := ?_) hq hns (.inr hHeld) rfl rfl (by kernel_rfl) (Or.inl ⟨by rfl, ?_⟩) ?_
        rotate_left
        · intro w' _; go_simp <;> with_reducible rfl
        try simp only [List.setIfInBounds_toArray, List.set_cons_zero, List.set_cons_succ]
        refine AnyW.next (i := 3) (v := ?_) hq hns hHeld rfl rfl (by kernel_rfl) (Or.inl ⟨by rfl, ?_⟩) ?_
        rotate_left
        · intro w' hSw; (try dsimp only at hSw); go_simp <;> with_reducible rfl
        try simp only [List.setIfInBounds_toArray, List.set_cons_zero, List.set_cons_succ]
        refine AnyW.nextT (i := 4) (v := ?_) hq hns (.inr hHeld) rfl rfl (by kernel_rfl) (Or.inl ⟨by rfl, ?_⟩) ?_
        rotate_left
        · intro w' _; go_simp <;> with_reducible rfl
        try simp only [List.setIfInBounds_toArray, List.set_cons_zero, List.set_cons_succ]
        refine AnyW.nextT (i := 5) (v := ?_) hq hns (.inr hHeld) rfl rfl (by kernel_rfl) (Or.inl ⟨by rfl, ?_⟩) ?_
        rotate_left
        · intro w' _; go_simp <;> with_reducible rfl
        try simp only [List.setIfInBounds_toArray, List.set_cons_zero, List.set_cons_succ]
        refine AnyW.nextT (i := 6) (v := ?_) hq hns (.inr hHeld) rfl rfl (by kernel_rfl) (Or.inl ⟨by rfl, ?_⟩) ?_
        rotate_left
        · intro w' _; go_simp <;> with_reducible rfl
        try simp only [List.setIfInBounds_toArray, List.set_cons_zero, List.set_cons_succ]
        refine AnyW.nextT (i := 7) (v := ?_) hq hns (.inr hHeld) rfl rfl (by kernel_rfl) (Or.inl ⟨by rfl, ?_⟩) ?_
        rotate_left
        · intro w' _; go_simp <;> with_reducible rfl
        try simp only [List.setIfInBounds_toArray, List.set_cons_zero, List.set_cons_succ]
        refine AnyW.nextT (i := 8) (v := ?_) hq hns (.inr hHeld) rfl rfl (by kernel_rfl) (Or.inl ⟨by rfl, ?_⟩) ?_
        rotate_left
        · intro w' _; go_simp <;> with_reducible rfl
        try simp only [List.setIfInBounds_toArray, List.set_cons_zero, List.set_cons_succ]
        refine AnyW.next (i := 9) (v := ?_) hq hns hHeld rfl rfl (by kernel_rfl) (Or.inl ⟨by rfl, ?_⟩) ?_
        rotate_left
        · intro w' hSw; (try dsimp only at hSw); go_simp <;> with_reducible rfl
        try simp only [List.setIfInBounds_toArray, List.set_cons_zero, List.set_cons_succ]
        refine AnyW.one 10 (by kernel_rfl) rfl (fun K' hK => ?_)
        go_simp
        refine (hx _).mono ?_
        rintro e' wr ⟨A, c, rfl, O, BX⟩
        clear hx
        go_wp2_with fail
        have Sr := Sx.nx BX
        refine hK.out _ _ (.inr ⟨Sr.cell 0, Sr.cell 1⟩) (fun hG => ?_)
        have hHeld := hG.resolve_left (notGone.spec (by rfl))
        clear hK K' hG
        try simp only [List.setIfInBounds_toArray, List.set_cons_zero, List.set_cons_succ]
        refine AnyW.nextT (i := 11) (v := ?_) hq hns (.inr hHeld) rfl rfl (by kernel_rfl) (Or.inl ⟨by rfl, ?_⟩) ?_
        rotate_left
        · intro w' _; go_simp <;> with_reducible rfl
        try simp only [List.setIfInBounds_toArray, List.set_cons_zero, List.set_cons_succ]
        refine AnyW.nextT (i := 12) (v := ?_) hq hns (.inr hHeld) rfl rfl (by kernel_rfl) (Or.inl ⟨by rfl, ?_⟩) ?_
        rotate_left
        · intro w' _; go_simp <;> with_reducible rfl
        try simp only [List.setIfInBounds_toArray, List.set_cons_zero, List.set_cons_succ]
        refine AnyW.nextT (i := 13) (v := ?_) hq hns (.inr hHeld) rfl rfl (by kernel_rfl) (Or.inl ⟨by rfl, ?_⟩) ?_
        rotate_left
        · intro w' _; go_simp <;> with_reducible rfl
        try simp only [List.setIfInBounds_toArray, List.set_cons_zero, List.set_cons_succ]
        refine AnyW.nextT (i := 14) (v := ?_) hq hns (.inr hHeld) rfl rfl (by kernel_rfl) (Or.inl ⟨by rfl, ?_⟩) ?_
        rotate_left
        · intro w' _; go_simp <;> with_reducible rfl
        try simp only [List.setIfInBounds_toArray, List.set_cons_zero, List.set_cons_succ]
        refine AnyW.nextT (i := 15) (v := ?_) hq hns (.inr hHeld) rfl rfl (by kernel_rfl) (Or.inl ⟨by rfl, ?_⟩) ?_
        rotate_left
        · intro w' _; go_simp <;> with_reducible rfl
        try simp only [List.setIfInBounds_toArray, List.set_cons_zero, List.set_cons_succ]
        refine AnyW.done (by kernel_rfl) (hQK.out _ _ ?_)
        clear hQK hq hns hHeld
        have Br := bt Bx BX
        have hz : w.heap.size ≤ wd.heap.size := Bx.size
        have O := O.base_le hz
        clear BX Bx Sx m0 m1 m2
        have FF := FarW.of Br (Nat.le_of_lt hgw)
        rcases he04 with rfl | rfl
        · have S9 := (Sr).set 0 (.string (s.extract k s.size))
          have F9 := (FF).set 0 (.string (s.extract k s.size))
          have O9 := O.farW (((FarW.refl g wr)).set 0 (.string (s.extract k s.size))) hgw
          have n0 := Sr.cell 0
          have n2 := Sr.cell 2
          have f0 := Sr.frozen 0
          have f2 := Sr.frozen 2
          go_wp2_with fail
          go_ret2
          rw [hR.out]
          exact ⟨A, c, s.extract k s.size, rfl, O9, ext_drop s k, S9, F9⟩
        · have S9 := (Sr.set 2 (.int .i64 4)).set 0 (.string (s.extract k s.size))
          have F9 := (FF.set 2 (.int .i64 4)).set 0 (.string (s.extract k s.size))
          have O9 := O.farW (((FarW.refl g wr).set 2 (.int .i64 4)).set 0 (.string (s.extract k s.size))) hgw
          have n0 := Sr.cell 0
          have n2 := Sr.cell 2
          have f0 := Sr.frozen 0
          have f2 := Sr.frozen 2
          go_wp2_with fail
          go_ret2
          rw [hR.out]
          exact ⟨A, c, s.extract k s.size, rfl, O9, ext_drop s k, S9, F9⟩
end Go.Proofs.YtbgggepdlkbpoaaGreatDoor
namespace Go.Proofs.YtbgggepdlkbpoaaGreatDoor
open Go.RowKit

theorem txt_len {b n k : Nat} (hb : 2 ≤ b) (h : (digs n).length ≤ k) : (txt b n).length ≤ 32 * k + 1 := by
  unfold txt
  split
  · simp
  · rw [List.length_reverse]
    have h1 := digs_len_le.1 h
    have := rdg_len hb n (32 * k) (by rwa [Wp_eq] at h1)
    omega
/-- a fraction as it is written -/
def ratTx (b : Nat) (q : Rat) : List UInt8 := (if qn q = true then 45 :: txt b (qt q) else txt b (qt q)) ++ (if digs (qd q) = [1] then [] else 47 :: txt b (qd q))
theorem str_add {a b c : ByteArray} {x y : List UInt8} (ha : a = ⟨x.toArray⟩) (hb : b = ⟨y.toArray⟩) (hc : c = ⟨(x ++ y).toArray⟩) (hl : x.length + y.length ≤ 1000000) (w : World) : (Op.stringOp .add a b).run Tryz.prog w = .ok (.string c) w := by
  subst ha; subst hb; subst hc
  rw [run_string_add_sum w _ _ (by simp [ByteArray.size]; omega), ByteArray.mk_append_mk]


set_option maxRecDepth 100000 in
set_option maxHeartbeats 4000000 in
theorem ratText_any (v : Value) (q : Rat) (b : Int) (w : World) (hv : RQ w w.heap.size v q) (hq : qw q ≤ 512) (hb1 : 2 ≤ b) (hb2 : b ≤ 36) :
    Calls Tryz.prog 35 #[v, .int .i64 b] w fun e w' => e = .returned (.string ⟨(ratTx b.toNat q).toArray⟩) ∧ Below w.heap.size w w' := by
  obtain ⟨A, c, D, d, rfl, ra, rb⟩ := hv
  obtain ⟨p1, p2, _⟩ := rsB_parts (rsB_of q hq)
  have e1 : textA (digs (qt q)) b = (txt b.toNat (qt q), 0) := by unfold textA; rw [if_pos p1, if_neg (by omega), val_digs]
  have e2 : textA (digs (qd q)) b = (txt b.toNat (qd q), 0) := by unfold textA; rw [if_pos p2, if_neg (by omega), val_digs]
  have B1 := bal w (.cells #[.bool (qn q), .slice A (digs (qt q)).length c, .slice D (digs (qd q)).length d] 24)
  have sg := SB.new w [.bool (qn q), .slice A (digs (qt q)).length c, .slice D (digs (qd q)).length d] 24
  have m0 := sg.cell 0
  have m1 := sg.cell 1
  have m2 := sg.cell 2
  have h1 := fun w' (B : Below w.heap.size w w') => text_any A c _ (digs (qt q)) b w' rfl (st ra B)
  have h2 := fun w' (B : Below w.heap.size w w') => text_any D d _ (digs (qd q)) b w' rfl (st rb B)
  rw [e1] at h1
  rw [e2] at h2
  have n1 : (txt b.toNat (qt q)).length ≤ 20000 := by
    have := txt_len (b := b.toNat) (by omega) (soundB_parts p1).1
    omega
  have n2 : (txt b.toNat (qd q)).length ≤ 20000 := by
    have := txt_len (b := b.toNat) (by omega) (soundB_parts p2).1
    omega
  obtain ⟨z, hz⟩ : ∃ z, Hid (ratTx b.toNat q = z) := ⟨_, rfl⟩
  rw [hz.out]
  have hz := hz.out
  unfold ratTx at hz
  clear e1 e2 p1 p2 hb1 hb2 hq
  generalize txt b.toNat (qt q) = t1 at *
  generalize txt b.toNat (qd q) = t2 at *
  generalize digs (qd q) = l at *
  generalize (digs (qt q)).length = n at *
  generalize qn q = s at *
  have key : ∀ (w3 : World), Below w.heap.size w w3 → l.length = 1 → ∃ g o, D = some ⟨g, o, none⟩ ∧ w3.cell? ⟨g, o, none⟩ = some (.int .u32 ((wd l 0 : Nat) : Int)) := by
    intro w3 B h
    obtain ⟨g3, o3, e, _, hq⟩ := (st rb B).at_ (by omega)
    have x0 := hq 0 (by omega)
    rw [Nat.add_zero] at x0
    exact ⟨g3, o3, e, x0⟩
  clear ra rb
  obtain ⟨x1, hx1⟩ : ∃ x : ByteArray, x = ⟨t1.toArray⟩ := ⟨_, rfl⟩
  obtain ⟨x2, hx2⟩ : ∃ x : ByteArray, x = ⟨t2.toArray⟩ := ⟨_, rfl⟩
  obtain ⟨y1, hy1⟩ : ∃ x : ByteArray, x = ⟨(45 :: t1).toArray⟩ := ⟨_, rfl⟩
  obtain ⟨y2, hy2⟩ : ∃ x : ByteArray, x = ⟨(47 :: t2).toArray⟩ := ⟨_, rfl⟩
  have a1 := fun w => str_add (a := ⟨#[45]⟩) (x := [45]) rfl hx1 hy1 (by simp; omega) w
  have a2 := fun w => str_add (a := ⟨#[47]⟩) (x := [47]) rfl hx2 hy2 (by simp; omega) w
  obtain ⟨zb, hzb⟩ : ∃ x : ByteArray, x = ⟨z.toArray⟩ := ⟨_, rfl⟩
  have g1 : RetT = fun w t e w' => e = .returned (.tuple #[.string ⟨t.1.toArray⟩, .int .i64 t.2]) ∧ Below w.heap.size w w' := rfl
  rw [g1] at h1 h2
  clear g1
  dsimp only at h1 h2
  rw [← hx1] at h1
  rw [← hx2] at h2
  rw [← hzb]
  cases s with
  | true =>
    rw [if_pos rfl] at hz
    by_cases hone : l = [1]
    · rw [if_pos hone, List.append_nil] at hz
      have ez : zb = y1 := by rw [hzb, hy1, ← hz]
      subst hone
      have key1 := fun w3 B => key w3 B rfl
      rw [show wd [1] 0 = 1 from rfl] at key1
      rw [ez]
      clear key hz ez hzb hx1 hx2 hy1 hy2 a2 n1 n2 h2
      go_enter Tryz.func35, Tryz.ntmps35
      go_wp2_with fail
      refine (h1 _ B1).mono ?_; rintro e w3 ⟨rfl, B3⟩
      have S3 := sg.nx B3
      have n0 := S3.cell 0
      have n1 := S3.cell 1
      have n2 := S3.cell 2
      obtain ⟨g, o, rfl, hc⟩ := key1 w3 (bt B1 B3)
      clear key1
      go_wp2_with fail
      go_ret
      exact ⟨rfl, bt B1 B3⟩
    · rw [if_neg hone] at hz
      have a3 := fun w => str_add (c := zb) hy1 hy2 (by rw [hzb, ← hz]) (by simp; omega) w
      clear hz hzb hx1 hx2 hy1 hy2
      clear n1 n2
      by_cases hl : l.length = 1
      · obtain ⟨x, rfl⟩ := List.length_eq_one_iff.1 hl
        have key1 := fun w3 B => key w3 B rfl
        rw [show wd [x] 0 = x from rfl] at key1
        have t4 : ¬ (x : Int) = 1 := fun e => hone (by rw [show x = 1 by omega])
        have t3 : ((x : Int) == 1) = false := beq_eq_false_iff_ne.2 t4
        clear key hl hone
        go_enter Tryz.func35, Tryz.ntmps35
        go_wp2_with fail
        refine (h1 _ B1).mono ?_; rintro e w3 ⟨rfl, B3⟩
        have S3 := sg.nx B3
        have n0 := S3.cell 0
        have n1 := S3.cell 1
        have n2 := S3.cell 2
        obtain ⟨g, o, rfl, hc⟩ := key1 w3 (bt B1 B3)
        clear key1
        go_wp2_with fail
        refine (h2 _ (bt B1 B3)).mono ?_; rintro e w5 ⟨rfl, B5⟩
        go_wp2_with fail
        go_ret
        exact ⟨rfl, bt (bt B1 B3) B5⟩
      · have t2 : ¬ (l.length : Int) = 1 := by omega
        have t4 : ((l.length : Int) == 1) = false := beq_eq_false_iff_ne.2 t2
        clear hl hone key
        go_enter Tryz.func35, Tryz.ntmps35
        go_wp2_with fail
        refine (h1 _ B1).mono ?_; rintro e w3 ⟨rfl, B3⟩
        have S3 := sg.nx B3
        have n0 := S3.cell 0
        have n1 := S3.cell 1
        have n2 := S3.cell 2
        go_wp2_with fail
        refine (h2 _ (bt B1 B3)).mono ?_; rintro e w5 ⟨rfl, B5⟩
        go_wp2_with fail
        go_ret
        exact ⟨rfl, bt (bt B1 B3) B5⟩
  | false =>
    rw [if_neg (by simp)] at hz
    by_cases hone : l = [1]
    · rw [if_pos hone, List.append_nil] at hz
      have ez : zb = x1 := by rw [hzb, hx1, ← hz]
      subst hone
      have key1 := fun w3 B => key w3 B rfl
      rw [show wd [1] 0 = 1 from rfl] at key1
      rw [ez]
      clear key hz ez hzb hx1 hx2 hy1 hy2 a1 a2 n1 n2 h2
      go_enter Tryz.func35, Tryz.ntmps35
      go_wp2_with fail
      refine (h1 _ B1).mono ?_; rintro e w3 ⟨rfl, B3⟩
      have S3 := sg.nx B3
      have n0 := S3.cell 0
      have n1 := S3.cell 1
      have n2 := S3.cell 2
      obtain ⟨g, o, rfl, hc⟩ := key1 w3 (bt B1 B3)
      clear key1
      go_wp2_with fail
      go_ret
      exact ⟨rfl, bt B1 B3⟩
    · rw [if_neg hone] at hz
      have a3 := fun w => str_add (c := zb) hx1 hy2 (by rw [hzb, ← hz]) (by simp; omega) w
      clear hz hzb hx1 hx2 hy1 hy2
      clear n1 n2
      by_cases hl : l.length = 1
      · obtain ⟨x, rfl⟩ := List.length_eq_one_iff.1 hl
        have key1 := fun w3 B => key w3 B rfl
        rw [show wd [x] 0 = x from rfl] at key1
        have t4 : ¬ (x : Int) = 1 := fun e => hone (by rw [show x = 1 by omega])
        have t3 : ((x : Int) == 1) = false := beq_eq_false_iff_ne.2 t4
        clear key hl hone
        go_enter Tryz.func35, Tryz.ntmps35
        go_wp2_with fail
        refine (h1 _ B1).mono ?_; rintro e w3 ⟨rfl, B3⟩
        have S3 := sg.nx B3
        have n0 := S3.cell 0
        have n1 := S3.cell 1
        have n2 := S3.cell 2
        obtain ⟨g, o, rfl, hc⟩ := key1 w3 (bt B1 B3)
        clear key1
        go_wp2_with fail
        refine (h2 _ (bt B1 B3)).mono ?_; rintro e w5 ⟨rfl, B5⟩
        go_wp2_with fail
        go_ret
        exact ⟨rfl, bt (bt B1 B3) B5⟩
      · have t2 : ¬ (l.length : Int) = 1 := by omega
        have t4 : ((l.length : Int) == 1) = false := beq_eq_false_iff_ne.2 t2
        clear hl hone key
        go_enter Tryz.func35, Tryz.ntmps35
        go_wp2_with fail
        refine (h1 _ B1).mono ?_; rintro e w3 ⟨rfl, B3⟩
        have S3 := sg.nx B3
        have n0 := S3.cell 0
        have n1 := S3.cell 1
        have n2 := S3.cell 2
        go_wp2_with fail
        refine (h2 _ (bt B1 B3)).mono ?_; rintro e w5 ⟨rfl, B5⟩
        go_wp2_with fail
        go_ret
        exact ⟨rfl, bt (bt B1 B3) B5⟩


set_option maxRecDepth 100000 in
set_option maxHeartbeats 4000000 in
theorem text10_any (V : Value) (x : Rat) (w : World) (hV : RN w w.heap.size V x 0) (bx : qw x ≤ 512) :
    Calls Tryz.prog 12 #[V, .int .i64 10] w fun e w' => e = .returned (.tuple #[.string ⟨(ratTx 10 x).toArray⟩, .int .i64 0]) ∧ Below w.heap.size w w' := by
  obtain ⟨A1, c1, D1, d1, A2, c2, D2, d2, rfl, p1, p2, p3, p4⟩ := hV
  simp only [rwq] at p1 p2 p3 p4 ⊢
  have hx : RQ w w.heap.size (.agg #[.bool (qn x), .slice A1 (digs (qt x)).length c1, .slice D1 (digs (qd x)).length d1]) x := ⟨A1, c1, D1, d1, rfl, p1, p2⟩
  have B1 := bal w (.cells #[.bool (qn x), .slice A1 (digs (qt x)).length c1, .slice D1 (digs (qd x)).length d1, .bool (qn 0), .slice A2 (digs (qt 0)).length c2, .slice D2 (digs (qd 0)).length d2] 26)
  have s1 := SB.new w [.bool (qn x), .slice A1 (digs (qt x)).length c1, .slice D1 (digs (qd x)).length d1, .bool (qn 0), .slice A2 (digs (qt 0)).length c2, .slice D2 (digs (qd 0)).length d2] 26
  have B2 := bal (w.alloc (.cells #[.bool (qn x), .slice A1 (digs (qt x)).length c1, .slice D1 (digs (qd x)).length d1, .bool (qn 0), .slice A2 (digs (qt 0)).length c2, .slice D2 (digs (qd 0)).length d2] 26)) (.cells #[.bool (qn x), .slice A1 (digs (qt x)).length c1, .slice D1 (digs (qd x)).length d1, .bool (qn 0), .slice A2 (digs (qt 0)).length c2, .slice D2 (digs (qd 0)).length d2] 26)
  have sg := SB.new (w.alloc (.cells #[.bool (qn x), .slice A1 (digs (qt x)).length c1, .slice D1 (digs (qd x)).length d1, .bool (qn 0), .slice A2 (digs (qt 0)).length c2, .slice D2 (digs (qd 0)).length d2] 26)) [.bool (qn x), .slice A1 (digs (qt x)).length c1, .slice D1 (digs (qd x)).length d1, .bool (qn 0), .slice A2 (digs (qt 0)).length c2, .slice D2 (digs (qd 0)).length d2] 26
  have z1 : (w.alloc (.cells #[.bool (qn x), .slice A1 (digs (qt x)).length c1, .slice D1 (digs (qd x)).length d1, .bool (qn 0), .slice A2 (digs (qt 0)).length c2, .slice D2 (digs (qd 0)).length d2] 26)).heap.size = w.heap.size + 1 := by simp
  rw [z1] at sg
  have C1 := bt B1 B2
  have k1 := s1.nx B2
  have hck := check1x_any false (w.heap.size + 1) _ _ _ _ _ _ _ _ _ _ _ _ _ _ _ sg (st p1 C1) (st p2 C1) (st p3 C1) (st p4 C1)
  have hc2 : chkN1 false ⟨qn x, digs (qt x), digs (qd x)⟩ ⟨qn 0, digs (qt 0), digs (qd 0)⟩ = 0 := by
    unfold chkN1
    have h : nB ⟨qn x, digs (qt x), digs (qd x)⟩ ⟨qn 0, digs (qt 0), digs (qd 0)⟩ = true := by
      have hz : qw (0 : Rat) ≤ 512 := by decide_cbv
      unfold nB
      dsimp only
      rw [rsB_of x bx, rsB_of 0 hz]
      rfl
    rw [if_pos h, if_neg (by simp)]
  rw [hc2] at hck
  have hR := fun w' (B : Below w.heap.size w w') => ratText_any (.agg #[.bool (qn x), .slice A1 (digs (qt x)).length c1, .slice D1 (digs (qd x)).length d1]) x 10 w' (hx.st B) bx (by omega) (by omega)
  rw [show (10 : Int).toNat = 10 from rfl] at hR
  have e0 : (digs (qt 0)).length = 0 := by rw [show qt 0 = 0 from rfl, digs_zero]; rfl
  generalize ratTx 10 x = t at *
  generalize (digs (qt 0)).length = n0 at *
  subst e0
  clear hc2 sg hx
  go_enter Tryz.func12, Tryz.ntmps12
  go_wp2_with fail
  refine hck.mono ?_; rintro e w3 ⟨rfl, B3⟩
  have k3 := k1.nx B3
  have m0 := k3.cell 0
  have m1 := k3.cell 1
  have m2 := k3.cell 2
  have m3 := k3.cell 3
  have m4 := k3.cell 4
  have m5 := k3.cell 5
  go_wp2_with fail
  refine (hR _ (bt C1 B3)).mono ?_; rintro e w4 ⟨rfl, B4⟩
  go_wp2_with fail
  go_ret2
  exact ⟨rfl, bt (bt C1 B3) B4⟩

end Go.Proofs.YtbgggepdlkbpoaaGreatDoor
namespace Go.Proofs.YtbgggepdlkbpoaaGreatDoor

/-- a letter's radix; 0: it has none -/
def radL (c : UInt8) : Nat := if c = 98 ∨ c = 66 then 2 else if c = 111 ∨ c = 79 then 8 else if c = 100 ∨ c = 68 then 10 else if c = 120 ∨ c = 88 then 16 else 0
/-- # and letters: the radix they leave, and the rest; none: they are not of the form -/
def preF (r : Nat) (told ex : Bool) : List UInt8 → Option (Nat × List UInt8)
  | [] => some (r, [])
  | [a] => if a = 35 then none else some (r, [a])
  | a :: c :: t => if a = 35 then (if (c = 101 ∨ c = 69) ∧ ex = false then preF r told true t else if radL c ≠ 0 ∧ told = false then preF (radL c) true ex t else none) else some (r, a :: c :: t)
theorem radL_or (c : UInt8) : radL c = (if c ||| 32 = 98 then 2 else if c ||| 32 = 111 then 8 else if c ||| 32 = 100 then 10 else if c ||| 32 = 120 then 16 else 0) := by
  have h : ∀ n : Fin 256, radL (UInt8.ofNat n) = (if UInt8.ofNat n ||| 32 = 98 then 2 else if UInt8.ofNat n ||| 32 = 111 then 8 else if UInt8.ofNat n ||| 32 = 100 then 10 else if UInt8.ofNat n ||| 32 = 120 then 16 else 0) := by decide +kernel
  have := h ⟨c.toNat, c.toNat_lt⟩
  simpa using this
theorem e_or (c : UInt8) : (c ||| 32 = 101) ↔ (c = 101 ∨ c = 69) := by
  have h : ∀ n : Fin 256, (UInt8.ofNat n ||| 32 = 101) ↔ (UInt8.ofNat n = 101 ∨ UInt8.ofNat n = 69) := by decide +kernel
  have := h ⟨c.toNat, c.toNat_lt⟩
  simpa using this
def rdOk (r : Nat) : Prop := r = 2 ∨ r = 8 ∨ r = 10 ∨ r = 16
theorem radL_ok {c : UInt8} (h : radL c ≠ 0) : rdOk (radL c) := by
  unfold radL at h ⊢
  unfold rdOk
  repeat' split
  all_goals first | omega | simp_all
theorem preF_ok (n : Nat) : ∀ (s : List UInt8) (r k : Nat) (told ex : Bool) (t : List UInt8), s.length ≤ n → rdOk r → preF r told ex s = some (k, t) → rdOk k ∧ t.length ≤ s.length := by
  induction n with
  | zero =>
    intro s r k told ex t hl hr h
    have : s = [] := by cases s; rfl; simp at hl
    subst this
    simp only [preF, Option.some.injEq, Prod.mk.injEq] at h
    obtain ⟨rfl, rfl⟩ := h
    exact ⟨hr, by simp⟩
  | succ n ih =>
    intro s r k told ex t hl hr h
    match s with
    | [] =>
      simp only [preF, Option.some.injEq, Prod.mk.injEq] at h
      obtain ⟨rfl, rfl⟩ := h
      exact ⟨hr, by simp⟩
    | [a] =>
      unfold preF at h
      split at h
      · simp at h
      · simp only [Option.some.injEq, Prod.mk.injEq] at h
        obtain ⟨rfl, rfl⟩ := h
        exact ⟨hr, by simp⟩
    | a :: c :: s =>
      unfold preF at h
      have hl2 : s.length ≤ n := by simp at hl; omega
      split at h
      · split at h
        · have := ih s _ _ _ _ _ hl2 hr h
          exact ⟨this.1, by simp; omega⟩
        · split at h
          · rename_i h3
            have := ih s _ _ _ _ _ hl2 (radL_ok h3.1) h
            exact ⟨this.1, by simp; omega⟩
          · simp at h
      · simp only [Option.some.injEq, Prod.mk.injEq] at h
        obtain ⟨rfl, rfl⟩ := h
        exact ⟨hr, by simp⟩
/-- what is read without an error fits -/
def FitR (x : Rw) : Prop := ∃ q : Rat, x = rwq q ∧ qw q ≤ 512
theorem FitR.zero : FitR (rwq 0) := ⟨0, rfl, by unfold qw; rw [show qt 0 = 0 from rfl, show qd 0 = 1 from rfl, digs_zero, digs_one1]; decide⟩
theorem FitR.mk_ {a b : List Nat} (neg : Bool) (ha : ∃ n, a = digs n ∧ a.length ≤ 512) (hb : ∃ n, b = digs n ∧ b.length ≤ 512) (h0 : b ≠ []) : FitR (mkr neg a b) := by
  obtain ⟨n, rfl, h1⟩ := ha
  obtain ⟨m, rfl, h2⟩ := hb
  refine ⟨_, rfl, ?_⟩
  rw [val_digs, val_digs]
  refine qw_ratN neg n m ?_ h1 h2
  rintro rfl
  exact h0 digs_zero
theorem one_dig : ∃ n, ([1] : List Nat) = digs n ∧ ([1] : List Nat).length ≤ 512 := ⟨1, digs_one1.symm, by decide⟩
theorem rdr_fit {r : Nat} (ds : List UInt8) (h : (rdr r ds).2 = 0) : ∃ n, (rdr r ds).1 = digs n ∧ (rdr r ds).1.length ≤ 512 := by
  refine ⟨_, rfl, ?_⟩
  unfold rdr at h ⊢
  dsimp only at h ⊢
  unfold readA readD at h ⊢
  split at h
  · simp at h
  · rename_i g1
    rw [if_neg g1]
    split at h
    · simp at h
    · rename_i g2
      rw [if_neg g2]
      split at h
      · rename_i g3
        rw [if_pos g3]
        split at h
        · simp at h
        · rename_i g4
          rw [if_neg g4]
          unfold fitA at h ⊢
          split at h
          · rename_i g5; rw [if_pos g5]; exact g5
          · simp at h
      · simp at h
theorem piece_fit {r : Nat} {neg : Bool} {s t : List UInt8} {q : Rw} (h : pieceR (isDr r) (rdr r) mkr (rwq 0) s neg = some (t, q, 0)) : FitR q := by
  unfold pieceR at h
  split at h
  · simp at h
  · split at h
    · split at h
      · simp at h
      · split at h
        · simp at h
        · rename_i g3
          split at h
          · simp at h
          · rename_i g4
            simp only [Option.some.injEq, Prod.mk.injEq, and_true] at h
            obtain ⟨_, rfl⟩ := h
            simp only [ne_eq, not_or, Classical.not_not] at g3
            exact FitR.mk_ neg (rdr_fit _ g3.1) (rdr_fit _ g3.2) g4
    · simp only [Option.some.injEq, Prod.mk.injEq] at h
      obtain ⟨_, rfl, he⟩ := h
      exact FitR.mk_ neg (rdr_fit _ he) one_dig (by simp)
theorem worse_zero {e f : Int} (h : worseE e f = 0) : e = 0 ∧ f = 0 := by
  unfold worseE at h
  split at h
  · omega
  · split at h
    · omega
    · rename_i h2
      exact ⟨by simpa using h2, h⟩
theorem body_fit {r : Nat} {s : List UInt8} {x y : Rw} (h : bodyR (isDr r) (rdr r) mkr (rwq 0) s = some (x, y, 0)) : FitR x ∧ FitR y := by
  have hu : ∀ neg, FitR (mkr neg [1] [1]) := fun neg => FitR.mk_ neg one_dig one_dig (by simp)
  unfold bodyR at h
  split at h
  · simp only [Option.some.injEq, Prod.mk.injEq, and_true] at h
    obtain ⟨rfl, rfl⟩ := h
    exact ⟨FitR.zero, hu _⟩
  · cases hp : pieceR (isDr r) (rdr r) mkr (rwq 0) (sgnP s).2.2 (sgnP s).1 with
    | none => rw [hp] at h; simp at h
    | some p =>
      obtain ⟨s2, re, e⟩ := p
      rw [hp] at h
      dsimp only at h
      split at h
      · simp only [Option.some.injEq, Prod.mk.injEq] at h
        obtain ⟨rfl, rfl, rfl⟩ := h
        exact ⟨piece_fit hp, FitR.zero⟩
      · split at h
        · simp only [Option.some.injEq, Prod.mk.injEq] at h
          obtain ⟨rfl, rfl, rfl⟩ := h
          exact ⟨FitR.zero, piece_fit hp⟩
        · split at h
          · simp at h
          · split at h
            · simp only [Option.some.injEq, Prod.mk.injEq] at h
              obtain ⟨rfl, rfl, rfl⟩ := h
              exact ⟨piece_fit hp, hu _⟩
            · cases hp2 : pieceR (isDr r) (rdr r) mkr (rwq 0) (sgnP s2).2.2 (sgnP s2).1 with
              | none => rw [hp2] at h; simp at h
              | some p2 =>
                obtain ⟨s4, im, f⟩ := p2
                rw [hp2] at h
                dsimp only at h
                split at h
                · simp only [Option.some.injEq, Prod.mk.injEq] at h
                  obtain ⟨rfl, rfl, hw⟩ := h
                  obtain ⟨rfl, rfl⟩ := worse_zero hw
                  exact ⟨piece_fit hp, piece_fit hp2⟩
                · simp at h
/-- Read as the program goes -/
def readQ (s : List UInt8) (r : Nat) : Rw × Rw × Int :=
  match preF r false false s with
  | none => (rw0, rw0, 5)
  | some (k, t) => match numP (isDr k) (rdr k) mkr (rwq 0) t 0 with
    | (re, im, ok, e) => if ok = false then (rw0, rw0, 5) else if 16384 < s.length then (rw0, rw0, 4) else if e ≠ 0 then (rw0, rw0, e) else fitQ (qv re) (qv im)
/-- Read as the reference goes -/
def readF (s : List UInt8) (r : Nat) : Rw × Rw × Int :=
  match preF r false false s with
  | none => (rw0, rw0, 5)
  | some (k, t) => match bodyR (isDr k) (rdr k) mkr (rwq 0) t with
    | none => (rw0, rw0, 5)
    | some (re, im, e) => if 16384 < s.length then (rw0, rw0, 4) else if e ≠ 0 then (rw0, rw0, e) else (re, im, 0)
theorem rdOk.le {r : Nat} (h : rdOk r) : 2 ≤ r ∧ r ≤ 16 := by unfold rdOk at h; omega
/-- the program's Read is the reference's; without an error its answer is sound -/
theorem read_same {s : List UInt8} {r : Nat} (hr : rdOk r) : readQ s r = readF s r ∧ ((readQ s r).2.2 = 0 → nB (readQ s r).1 (readQ s r).2.1 = true) := by
  unfold readQ readF
  cases hp : preF r false false s with
  | none => exact ⟨rfl, fun h => by simp at h⟩
  | some p =>
    obtain ⟨k, t⟩ := p
    have hk := (preF_ok _ s _ _ _ _ _ (Nat.le_refl _) hr hp).1.le
    have hb := num_body_r (r := k) hk.1 (by omega) t
    dsimp only
    cases hq : bodyR (isDr k) (rdr k) mkr (rwq 0) t with
    | none =>
      have h1 := hb.1 hq
      rcases hn : numP (isDr k) (rdr k) mkr (rwq 0) t 0 with ⟨re, im, ok, e⟩
      rw [hn] at h1
      dsimp only at h1 ⊢
      rw [if_pos h1]
      exact ⟨rfl, fun h => by simp at h⟩
    | some q =>
      obtain ⟨re, im, e⟩ := q
      obtain ⟨re', im', hn, he⟩ := hb.2 _ _ _ hq
      rw [hn]
      dsimp only
      rw [if_neg (by simp)]
      by_cases h1 : 16384 < s.length
      · rw [if_pos h1, if_pos h1]
        exact ⟨rfl, fun h => by simp at h⟩
      rw [if_neg h1, if_neg h1]
      by_cases h2 : e ≠ 0
      · rw [if_pos h2, if_pos h2]
        exact ⟨rfl, fun h => absurd h h2⟩
      rw [if_neg h2, if_neg h2]
      have h3 : e = 0 := by simpa using h2
      subst h3
      obtain ⟨rfl, rfl⟩ := he rfl
      obtain ⟨⟨x, rfl, hx⟩, ⟨y, rfl, hy⟩⟩ := body_fit hq
      rw [qv_rwq, qv_rwq, fitQ_ok hx hy]
      exact ⟨rfl, fun _ => nB_rwq hx hy⟩
end Go.Proofs.YtbgggepdlkbpoaaGreatDoor
namespace Go.Proofs.YtbgggepdlkbpoaaGreatDoor

/-- the imaginary part as the program makes it -/
def imS (dt : Nat → List UInt8) (q : Rat) : List UInt8 := if qn q = true then ratT dt q else 43 :: ratT dt q
def imP (dt : Nat → List UInt8) (q : Rat) : List UInt8 := if (imS dt q).tail = [49] then (imS dt q).take 1 else imS dt q
theorem imS_eq (dt : Nat → List UInt8) (q : Rat) : imS dt q = (if qn q = true then 45 else 43) :: fracT dt (qt q) (qd q) := by
  unfold imS ratT
  cases qn q <;> simp
theorem imP_eq {r : Nat} (h1 : 2 ≤ r) (h2 : r ≤ 36) (q : Rat) : imP (txt r) q = imT (txt r) q := by
  unfold imP imT
  rw [imS_eq, List.tail_cons]
  by_cases h : qt q = 1 ∧ qd q = 1
  · rw [if_pos ((frac_one h1 h2).2 h), if_pos h]; rfl
  · rw [if_neg (fun h3 => h ((frac_one h1 h2).1 h3)), if_neg h]
/-- the imaginary part as the reference makes it -/
def imR (dt : Nat → List UInt8) (q : Rat) : List UInt8 := if q = 1 then [43] else if q = -1 then [45] else if qn q = true then ratT dt q else 43 :: ratT dt q
theorem imR_eq (dt : Nat → List UInt8) (q : Rat) : imR dt q = imT dt q := by
  unfold imR imT
  by_cases h1 : q = 1
  · subst h1
    rw [if_pos rfl, if_neg (show ¬ qn 1 = true by decide), if_pos (show qt 1 = 1 ∧ qd 1 = 1 by decide)]
  rw [if_neg h1]
  by_cases h2 : q = -1
  · subst h2
    rw [if_pos rfl, if_pos (show qn (-1) = true by decide), if_pos (show qt (-1) = 1 ∧ qd (-1) = 1 by decide)]
  rw [if_neg h2]
  have h3 : ¬ (qt q = 1 ∧ qd q = 1) := by
    rintro ⟨a, b⟩
    have := q_self q
    rw [a, b] at this
    cases hn : qn q with
    | true => rw [hn] at this; exact h2 (this.symm.trans (by decide))
    | false => rw [hn] at this; exact h1 (this.symm.trans (by decide))
  rw [if_neg h3]
  exact imS_eq dt q
/-- Text of anything: as both sides go -/
def textQ (r i : Rw) (radix : Nat) (ok : Bool) : List UInt8 × Int :=
  if nB r i = false then ([], 2) else if ok = false then ([], 1) else (numT (txt radix) (qv r) (qv i), 0)
theorem pre_none {r : Nat} {s : List UInt8} (h : ∀ c, s.head? = some c → c ≠ 35) : preF r false false s = some (r, s) := by
  match s with
  | [] => rfl
  | [a] => unfold preF; rw [if_neg (h a rfl)]
  | a :: c :: t => unfold preF; rw [if_neg (h a rfl)]
theorem head_num {r : Nat} (h1 : 2 ≤ r) (h2 : r ≤ 16) (p q : Rat) : ∀ c, (numT (txt r) p q).head? = some c → c ≠ 35 := by
  have hd : isDr r 35 = false := decide_eq_false (by have : dval (35 : UInt8).toNat = 99 := by decide
                                                     omega)
  have hf : ∀ (x : Rat) (t : List UInt8) c, (ratT (txt r) x ++ t).head? = some c → c ≠ 35 := by
    intro x t c hc
    unfold ratT at hc
    obtain ⟨c', s', e, hc'⟩ := fracT_head (digT_r h1 h2) (qt x) (qd x) t
    rw [List.append_assoc, e] at hc
    cases hn : qn x with
    | true => rw [hn] at hc; simp at hc; subst hc; decide
    | false =>
      rw [hn] at hc
      simp at hc
      subst hc
      rintro rfl
      rw [hd] at hc'
      cases hc'
  intro c hc
  unfold numT at hc
  split at hc
  · exact hf p [] c (by rw [List.append_nil]; exact hc)
  · split at hc
    · unfold imT at hc
      simp only [List.nil_append, List.cons_append, List.head?_cons, Option.some.injEq] at hc
      subst hc
      split <;> decide
    · exact hf p _ c hc
/-- the text of a sound number, read in its radix, is the number -/
theorem read_text {r : Nat} (hr : rdOk r) {p q : Rat} (hp : qw p ≤ 512) (hq : qw q ≤ 512) (hl : (numT (txt r) p q).length ≤ 16384) : readQ (numT (txt r) p q) r = (rwq p, rwq q, 0) := by
  unfold readQ
  rw [pre_none (head_num hr.le.1 hr.le.2 p q)]
  dsimp only
  rw [text_read hr.le.1 hr.le.2 hp hq]
  dsimp only
  rw [if_neg (by simp), if_neg (by omega), if_neg (by simp), qv_rwq, qv_rwq, fitQ_ok hp hq]
end Go.Proofs.YtbgggepdlkbpoaaGreatDoor
namespace Go.Proofs.YtbgggepdlkbpoaaGreatDoor
open Go.RowKit

theorem head_data {s : ByteArray} {c : UInt8} (h : 1 ≤ s.size) : ((s.extract 0 1).toList == [c]) = decide (s.data.toList.head? = some c) := by
  rw [Lib.toList_data, Lib.extract_data, List.drop_zero, Nat.sub_zero]
  have hl : s.data.toList.length = s.size := by rw [Array.length_toList]; rfl
  cases hs : s.data.toList with
  | nil => rw [hs] at hl; simp at hl; omega
  | cons a t => simp [Bool.beq_eq_decide_eq]
theorem head_nil {s : ByteArray} (h : s.size = 0) : s.data.toList.head? = none := by
  have hl : s.data.toList.length = s.size := by rw [Array.length_toList]; rfl
  rw [h] at hl
  rw [List.eq_nil_of_length_eq_zero hl]
  rfl
theorem lhasp_any (s : ByteArray) (c : UInt8) (w : World) :
    Calls Tryz.prog 72 #[.string s, .string ⟨#[c]⟩] w fun e w' => e = .returned (.bool (decide (s.data.toList.head? = some c))) ∧ w = w' := by
  by_cases h : 1 ≤ s.size
  · have hd := head_data (c := c) h
    have h1 : (1 : Int) ≤ (s.size : Int) := by omega
    go_enter Tryz.func72, Tryz.ntmps72
    go_wp2_with fail
    go_ret
    exact ⟨rfl, rfl⟩
  · have hd := head_nil (show s.size = 0 by omega)
    have h1 : decide ((1 : Int) ≤ (s.size : Int)) = false := decide_eq_false (by omega)
    rw [hd]
    go_enter Tryz.func72, Tryz.ntmps72
    go_wp2_with fail
    go_ret
    exact ⟨rfl, rfl⟩
theorem hasp_any (s : ByteArray) (c : UInt8) (w : World) :
    Calls Tryz.prog 57 #[.string s, .string ⟨#[c]⟩] w fun e w' => e = .returned (.bool (decide (s.data.toList.head? = some c))) ∧ w = w' := by
  have h := lhasp_any s c w
  go_enter Tryz.func57, Tryz.ntmps57
  go_wp2_with fail
  refine h.mono ?_; rintro e w' ⟨rfl, rfl⟩
  go_wp2_with fail
  go_ret
  exact ⟨rfl, rfl⟩
end Go.Proofs.YtbgggepdlkbpoaaGreatDoor
namespace Go.Proofs.YtbgggepdlkbpoaaGreatDoor
open Go.RowKit

theorem str_eq (s : ByteArray) (l : List UInt8) : (s.toList == l) = decide (s.data.toList = l) := by
  rw [Lib.toList_data]
  exact Bool.beq_eq_decide_eq ..
set_option maxRecDepth 100000 in
theorem unit_any (g : Nat) (s : ByteArray) (a b : Value) (w : World) (S : SB w g [.string s, a, b]) :
    Calls Tryz.prog 59 #[.pointer (some ⟨g, 0, none⟩)] w fun e w' => e = .returned (.bool (unitB s.data.toList)) ∧ w = w' := by
  have m0 := S.cell 0
  have e1 := str_eq s [105]
  have e2 := str_eq s [73]
  unfold unitB
  generalize decide (s.data.toList = [105]) = b1 at *
  generalize decide (s.data.toList = [73]) = b2 at *
  clear S
  cases b1
  · go_enter Tryz.func59, Tryz.ntmps59
    go_wp2_with fail
    go_ret
    exact ⟨rfl, rfl⟩
  · go_enter Tryz.func59, Tryz.ntmps59
    go_wp2_with fail
    go_ret
    exact ⟨rfl, rfl⟩
/-- what sign gives, and leaves in the reader -/
def RetSg (w : World) (g : Nat) (a b : Value) (x : Bool × Bool × List UInt8) (e : Ending) (w' : World) : Prop :=
  e = .returned (.tuple #[.bool x.1, .bool x.2.1]) ∧ ∃ s' : ByteArray, s'.data.toList = x.2.2 ∧ SB w' g [.string s', a, b] ∧ FarW g w w'
set_option maxRecDepth 100000 in
set_option maxHeartbeats 2000000 in
theorem sign_any (g : Nat) (s : ByteArray) (a b : Value) (w : World) (S : SB w g [.string s, a, b]) :
    Calls Tryz.prog 58 #[.pointer (some ⟨g, 0, none⟩)] w (RetSg w g a b (sgnP s.data.toList)) := by
  have m0 := S.cell 0
  have f0 := S.frozen 0
  by_cases h0 : s.size = 0
  · have hse : s = ⟨#[]⟩ := by
      cases s with
      | mk d => congr 1; exact Array.eq_empty_of_size_eq_zero h0
    subst hse
    clear h0
    go_enter Tryz.func58, Tryz.ntmps58
    go_wp2_with fail
    go_ret2
    exact ⟨rfl, _, rfl, S, FarW.refl _ _⟩
  · have t1 := ne_empty h0
    have hp : 0 < s.size := by omega
    have e1 := s_at hp
    have hl := s_len s
    obtain ⟨c, t, hct⟩ : ∃ c t, s.data.toList = c :: t := by
      cases hd : s.data.toList with
      | nil => rw [hd] at hl; simp at hl; omega
      | cons c t => exact ⟨c, t, rfl⟩
    have hb : byt s.data.toList 0 = c.toNat := by rw [hct]; rfl
    rw [hb] at e1
    have hdr : (s.extract 1 s.size).data.toList = t := by rw [ext_drop, hct]; rfl
    have S2 := S.set 0 (.string (s.extract 1 s.size))
    have hF := (FarW.refl g w).set 0 (.string (s.extract 1 s.size))
    have h1 : (1 : Int) ≤ (s.size : Int) := by omega
    by_cases c1 : c = 43
    · subst c1
      have e2 : ((s[0]'hp).toNat : Int) = 43 := by rw [e1]; rfl
      have hG : sgnP s.data.toList = (false, true, t) := by rw [hct]; rfl
      rw [hG]
      clear hct hb hl h0 hG
      go_enter Tryz.func58, Tryz.ntmps58
      go_wp2_with fail
      go_ret2
      exact ⟨rfl, _, hdr, S2, hF⟩
    · by_cases c2 : c = 45
      · subst c2
        have e2 : ((s[0]'hp).toNat : Int) = 45 := by rw [e1]; rfl
        have hG : sgnP s.data.toList = (true, true, t) := by rw [hct]; rfl
        rw [hG]
        clear hct hb hl h0 hG c1
        go_enter Tryz.func58, Tryz.ntmps58
        go_wp2_with fail
        go_ret2
        exact ⟨rfl, _, hdr, S2, hF⟩
      · have hG : sgnP s.data.toList = (false, false, s.data.toList) := by rw [hct]; exact if_neg (show ¬ (c = 43 ∨ c = 45) by simp [c1, c2])
        have e3 : ¬ c.toNat = 43 := fun h => c1 (UInt8.toNat.inj h)
        have e4 : ¬ c.toNat = 45 := fun h => c2 (UInt8.toNat.inj h)
        have d3 : (((s[0]'hp).toNat : Int) == 43) = false := beq_eq_false_iff_ne.2 (by rw [e1]; omega)
        have d4 : (((s[0]'hp).toNat : Int) == 45) = false := beq_eq_false_iff_ne.2 (by rw [e1]; omega)
        rw [hG]
        clear hct hb hl h0 hG c1 c2 e1 e3 e4 hdr
        go_enter Tryz.func58, Tryz.ntmps58
        go_wp2_with fail
        go_ret2
        exact ⟨rfl, _, rfl, S, FarW.refl _ _⟩
end Go.Proofs.YtbgggepdlkbpoaaGreatDoor
