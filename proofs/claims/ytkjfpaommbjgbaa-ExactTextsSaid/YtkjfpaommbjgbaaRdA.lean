/- Walks: digits of exact's reader, a struct behind a pointer. -/
import Derived.Test.YtkjfpaommbjgbaaRdS
import Derived.Test.YtkjfpaommbjgbaaAnyF
import Derived.BigQuiet
import Derived.Lib.Strings
import Derived.Lib.IndexBytes
namespace Go.Proofs.Ytkjfpaommbjgbaa
open Go.RowKit

/-- only block g is written, of all that stand -/
structure FarW (g : Nat) (w w' : World) : Prop where
  below : Below g w w'
  above : ∀ k, g < k → k < w.heap.size → w'.heap[k]? = w.heap[k]?
theorem FarW.refl (g : Nat) (w : World) : FarW g w w := ⟨Below.refl g w, fun _ _ _ => rfl⟩
theorem FarW.trans {g : Nat} {w w1 w2 : World} (h1 : FarW g w w1) (h2 : FarW g w1 w2) : FarW g w w2 :=
  ⟨h1.below.trans h2.below, fun k hk hw => (h2.above k hk (Nat.lt_of_lt_of_le hw h1.below.size)).trans (h1.above k hk hw)⟩
theorem FarW.of {g : Nat} {w w1 : World} (h : Below w.heap.size w w1) (hg : g ≤ w.heap.size) : FarW g w w1 := ⟨h.mono hg, fun k _ hw => h.block k hw⟩
theorem FarW.nx {g : Nat} {w w1 w2 : World} (h1 : FarW g w w1) (h2 : Below w1.heap.size w1 w2) (hg : g ≤ w1.heap.size) : FarW g w w2 := h1.trans (FarW.of h2 hg)
theorem FarW.dN {g : Nat} {w w1 : World} (h : FarW g w w1) (n : Nat) : FarW g w (w1.drewN n) := ⟨bdN h.below n, fun k hk hw => h.above k hk hw⟩
theorem FarW.size {g : Nat} {w w1 : World} (h : FarW g w w1) : w.heap.size ≤ w1.heap.size ∨ w1.heap.size < g := by
  exact .inl h.below.size
theorem FarW.set {g : Nat} {w w1 : World} (h : FarW g w w1) (k : Nat) (v : Value) : FarW g w (w1.setCell ⟨g, k, none⟩ v) :=
  ⟨h.below.setCell (p := ⟨g, k, none⟩) (Nat.le_refl _) v, fun j hj hw => (heap_setCell_other w1 ⟨g, k, none⟩ j v (by show j ≠ g; omega)).trans (h.above j hj hw)⟩
theorem FarW.far {g b : Nat} {w w1 : World} (h : FarW g w w1) (hb : w.heap.size ≤ b) (hg : g ≤ w.heap.size) (k : Nat) (v : Value) : FarW g w (w1.setCell ⟨b, k, none⟩ v) :=
  ⟨h.below.setCell (p := ⟨b, k, none⟩) (by show g ≤ b; omega) v, fun j hj hw => (heap_setCell_other w1 ⟨b, k, none⟩ j v (by show j ≠ b; omega)).trans (h.above j hj hw)⟩
theorem OW.farW {g base : Nat} {w w1 : World} {A : Option Addr} {c : Nat} {l : List Nat} (h : OW w base A c l) (hf : FarW g w w1) (hg : g < base) : OW w1 base A c l := by
  refine ⟨h.1.kept fun b hb => ?_, h.2⟩
  subst hb
  have := h.lt
  exact hf.above b (by omega) this.2
theorem SB.farW {g b : Nat} {w w1 : World} {vs : List Value} (h : SB w b vs) (hf : FarW g w w1) (hb : g < b) : SB w1 b vs := by
  have hl := h.lt
  have e := hf.above b hb hl
  refine ⟨fun i v hv => ?_, Nat.lt_of_lt_of_le hl hf.below.size⟩
  have := h.1 i v hv
  rw [World.cell?, World.frozen?, e]
  exact this

theorem tw_split {r k : Nat} {l : List UInt8} (hok : okd r (l.take k) = true) (hr : ∀ c, (l.drop k).head? = some c → isDr r c = false) : l.takeWhile (isDr r) = l.take k ∧ l.dropWhile (isDr r) = l.drop k := by
  have := take_dt (isD := isDr r) (a := l.take k) (r := l.drop k) (fun c hc => List.all_eq_true.1 hok c hc) hr
  rwa [List.take_append_drop] at this
theorem dig_none {r : Nat} {l : List UInt8} (e : Int) (hr : ∀ c, l.head? = some c → isDr r c = false) : digP (isDr r) (rdr r) l e = ([], false, l, e) := by
  have h := (tw_split (r := r) (k := 0) (l := l) rfl (by rw [List.drop_zero]; exact hr)).1
  unfold digP
  rw [h, List.take_zero, if_pos rfl]
theorem dig_some {r k : Nat} {l : List UInt8} (e : Int) (h0 : k ≠ 0) (hk : k ≤ l.length) (hok : okd r (l.take k) = true) (hr : ∀ c, (l.drop k).head? = some c → isDr r c = false) :
    digP (isDr r) (rdr r) l e = (digs (readA (l.take k) (r : Int)).1, true, l.drop k, if (readA (l.take k) (r : Int)).2 ≠ 0 then 4 else e) := by
  obtain ⟨h1, h2⟩ := tw_split hok hr
  have hn : l.take k ≠ [] := fun h => by have := congrArg List.length h; rw [List.length_take, List.length_nil] at this; omega
  unfold digP
  rw [h1, h2, if_neg hn]
  rfl
theorem ext_take (s : ByteArray) (k : Nat) : (s.extract 0 k).data.toList = s.data.toList.take k := by
  rw [Lib.extract_data, List.drop_zero, Nat.sub_zero]
theorem ext_drop (s : ByteArray) (k : Nat) : (s.extract k s.size).data.toList = s.data.toList.drop k := Lib.extract_to_end s k
/-- what digits gives, and leaves in the reader -/
def RetDg (w : World) (g r : Nat) (x : List Nat × Bool × List UInt8 × Int) (e : Ending) (w' : World) : Prop :=
  ∃ A c s', e = .returned (.tuple #[.slice A x.1.length c, .bool x.2.1]) ∧ OW w' w.heap.size A c x.1 ∧ s'.data.toList = x.2.2.1 ∧ SB w' g [.string s', .int .i64 (r : Int), .int .i64 x.2.2.2] ∧ FarW g w w'

set_option maxRecDepth 100000 in
set_option maxHeartbeats 4000000 in
theorem digits_any (g : Nat) (s : ByteArray) (r : Nat) (e : Int) (w : World) (hs : s.size ≤ 140737488351232) (h1 : 2 ≤ r) (h2 : r ≤ 36) (S : SB w g [.string s, .int .i64 (r : Int), .int .i64 e]) :
    Calls Try.prog 53 #[.pointer (some ⟨g, 0, none⟩)] w (RetDg w g r (digP (isDr r) (rdr r) s.data.toList e)) := by
  have hsl := s_len s
  have HSL := Lib.hid hsl
  clear hsl
  have hgw := S.lt
  go_enter Try.func53, Try.ntmps53
  go_wp2_with fail
  go_loopg [4] s.size (fun gk s4 wx => ∃ k : Nat, k ≤ s.size ∧ s4 = .int .i64 (k : Int) ∧ gk = s.size - k ∧ Hid (okd r (s.data.toList.take k) = true) ∧ SB wx g [.string s, .int .i64 (r : Int), .int .i64 e] ∧ Below w.heap.size w wx)
  case atStart => exact ⟨0, Nat.zero_le _, rfl, rfl, rfl, S, Below.refl _ _⟩
  case round =>
    clear S
    obtain ⟨k, hk, rfl, rfl, hok, Sx, Bx⟩ := hrel
    obtain ⟨wx, rfl⟩ : ∃ wx : World, wx = wr := ⟨_, rfl⟩
    have m0 := Sx.cell 0
    have m1 := Sx.cell 1
    have m2 := Sx.cell 2
    by_cases h0 : k < s.size
    · have e1 := s_at h0
      have hdl := dval_le (byt s.data.toList k)
      have hv := fun w => value_any (byt s.data.toList k) w (byt_lt _ _)
      have d1 : (k : Int) < (s.size : Int) := by omega
      have kp : (0 : Int) ≤ (k : Int) := by omega
      by_cases hd : dval (byt s.data.toList k) < r
      · have hst : Hid (okd r (s.data.toList.take (k + 1)) = true) := by
          show _ = _
          rw [okd_take (by rw [HSL.out]; exact h0), hok.out, decide_eq_true hd]; rfl
        have d2 : (dval (byt s.data.toList k) : Int) < (r : Int) := by omega
        go_wp2_with fail
        go_quiet ((go_at_call 72; exact quiet_left (hv _)))
        go_wp2_with fail
        go_roundg (s.size - (k + 1))
        case measure => omega
        case rel => exact ⟨k + 1, by omega, by go_num, rfl, hst, Sx, bdN Bx _⟩
      · have d2 : decide ((dval (byt s.data.toList k) : Int) < (r : Int)) = false := decide_eq_false (by omega)
        have hend : ∀ c, (s.data.toList.drop k).head? = some c → isDr r c = false := by
          intro c hc
          rw [List.head?_drop] at hc
          have hb : byt s.data.toList k = c.toNat := by unfold byt; rw [List.getD_eq_getElem?_getD, hc]; rfl
          rw [hb] at hd
          exact decide_eq_false hd
        go_wp2_with fail
        go_quiet ((go_at_call 72; exact quiet_left (hv _)))
        have By := bdN Bx nq
        have Sy : SB (wx.drewN nq) g [.string s, .int .i64 (r : Int), .int .i64 e] := Sx
        clear Bx Sx m0 m1 m2
        generalize wx.drewN nq = wy at *
        have m0 := Sy.cell 0
        have m1 := Sy.cell 1
        have m2 := Sy.cell 2
        by_cases hk0 : k = 0
        · subst hk0
          rw [List.drop_zero] at hend
          have hR := Lib.hid (dig_none (r := r) e hend)
          clear hend
          go_wp2_with fail
          go_ret2
          rw [hR.out]
          exact ⟨none, 0, s, rfl, OW.nil _ _, rfl, Sy, FarW.of By (Nat.le_of_lt hgw)⟩
        · have hR := Lib.hid (dig_some (r := r) e hk0 (by rw [HSL.out]; exact hk) hok.out hend)
          clear hend
          have tk : ((k : Int) == 0) = false := beq_eq_false_iff_ne.2 (by omega)
          have hx := fun w => read_any (s.extract 0 k) (r : Int) w (by rw [ByteArray.size_extract]; omega)
          rw [ext_take] at hx
          have he04 := rdr_err h1 h2 (s.data.toList.take k) (fun h => by have := congrArg List.length h; rw [List.length_take, HSL.out, List.length_nil] at this; omega) hok.out
          unfold rdr at he04
          dsimp only at he04
          have kI : (k : Int) ≤ (s.size : Int) := by omega
          have kI0 : (0 : Int) ≤ (k : Int) := by omega
          clear h1 h2 hok
          generalize readA (s.data.toList.take k) (r : Int) = x at *
          obtain ⟨n, E⟩ := x
          dsimp only at he04 hx hR
          go_wp2_with fail
          have Bx : Below w.heap.size w wy.drew := bdN By 1
          have Sx : SB wy.drew g [.string s, .int .i64 (r : Int), .int .i64 e] := Sy
          refine AnyW.regionQ (fun _ => false) 16 (fun w' => w'.cell? ⟨g, 0, none⟩ = some (.string s) ∧ w'.cell? ⟨g, 1, none⟩ = some (.int .i64 (r : Int))) rfl (by kernel_rfl) (by kernel_rfl) (by (repeat (with_reducible (first | refine quiet_then ?_ | refine quiet_block ?_))); exact quiet_body) ⟨m0, m1⟩ (fun Q' hQK hq hns hHeld => ?_)
          generalize wy.drew = wd at *
          refine AnyW.nextT (i := 0) (v := ?_) hq hns (.inr hHeld) rfl rfl (by kernel_rfl) (Or.inl ⟨by rfl, ?_⟩) ?_
          rotate_left
          · intro w' _; go_simp <;> with_reducible rfl
          try simp only [List.setIfInBounds_toArray, List.set_cons_zero, List.set_cons_succ]
          refine AnyW.nextT (i := 1) (v := ?_) hq hns (.inr hHeld) rfl rfl (by kernel_rfl) (Or.inl ⟨by rfl, ?_⟩) ?_
          rotate_left
          · intro w' _; go_simp <;> with_reducible rfl
          try simp only [List.setIfInBounds_toArray, List.set_cons_zero, List.set_cons_succ]
          refine AnyW.nextT (i := 2) (v := ?_) hq hns (.inr hHeld) rfl rfl (by kernel_rfl) (Or.inl ⟨by rfl, ?_⟩) ?_
          rotate_left
          · intro w' _; go_simp <;> with_reducible rfl
          try simp only [List.setIfInBounds_toArray, List.set_cons_zero, List.set_cons_succ]
          refine AnyW.next (i := 3) (v := ?_) hq hns hHeld rfl rfl (by kernel_rfl) (Or.inl ⟨by rfl, ?_⟩) ?_
          rotate_left
          · intro w' hSw; (try dsimp only at hSw); go_simp <;> with_reducible rfl
          try simp only [List.setIfInBounds_toArray, List.set_cons_zero, List.set_cons_succ]
          refine AnyW.nextT (i := 4) (v := ?_) hq hns (.inr hHeld) rfl rfl (by kernel_rfl) (Or.inl ⟨by rfl, ?_⟩) ?_
          rotate_left
          · intro w' _; go_simp <;> with_reducible rfl
          try simp only [List.setIfInBounds_toArray, List.set_cons_zero, List.set_cons_succ]
          refine AnyW.nextT (i := 5) (v := ?_) hq hns (.inr hHeld) rfl rfl (by kernel_rfl) (Or.inl ⟨by rfl, ?_⟩) ?_
          rotate_left
          · intro w' _; go_simp <;> with_reducible rfl
          try simp only [List.setIfInBounds_toArray, List.set_cons_zero, List.set_cons_succ]
          refine AnyW.nextT (i := 6) (v := ?_) hq hns (.inr hHeld) rfl rfl (by kernel_rfl) (Or.inl ⟨by rfl, ?_⟩) ?_
          rotate_left
          · intro w' _; go_simp <;> with_reducible rfl
          try simp only [List.setIfInBounds_toArray, List.set_cons_zero, List.set_cons_succ]
          refine AnyW.nextT (i := 7) (v := ?_) hq hns (.inr hHeld) rfl rfl (by kernel_rfl) (Or.inl ⟨by rfl, ?_⟩) ?_
          rotate_left
          · intro w' _; go_simp <;> with_reducible rfl
          try simp only [List.setIfInBounds_toArray, List.set_cons_zero, List.set_cons_succ]
          refine AnyW.nextT (i := 8) (v := ?_) hq hns (.inr hHeld) rfl rfl (by kernel_rfl) (Or.inl ⟨by rfl, ?_⟩) ?_
          rotate_left
          · intro w' _; go_simp <;> with_reducible rfl
          try simp only [List.setIfInBounds_toArray, List.set_cons_zero, List.set_cons_succ]
          refine AnyW.next (i := 9) (v := ?_) hq hns hHeld rfl rfl (by kernel_rfl) (Or.inl ⟨by rfl, ?_⟩) ?_
          rotate_left
          · intro w' hSw; (try dsimp only at hSw); go_simp <;> with_reducible rfl
          try simp only [List.setIfInBounds_toArray, List.set_cons_zero, List.set_cons_succ]
          refine AnyW.one 10 (by kernel_rfl) rfl (fun K' hK => ?_)
          go_simp
          refine (hx _).mono ?_
          rintro e' wr ⟨A, c, rfl, O, BX⟩
          clear hx
          go_wp2_with fail
          have Sr := Sx.nx BX
          refine hK.out _ _ (.inr ⟨Sr.cell 0, Sr.cell 1⟩) (fun hG => ?_)
          have hHeld := hG.resolve_left (notGone.spec (by rfl))
          clear hK K' hG
          try simp only [List.setIfInBounds_toArray, List.set_cons_zero, List.set_cons_succ]
          refine AnyW.nextT (i := 11) (v := ?_) hq hns (.inr hHeld) rfl rfl (by kernel_rfl) (Or.inl ⟨by rfl, ?_⟩) ?_
          rotate_left
          · intro w' _; go_simp <;> with_reducible rfl
          try simp only [List.setIfInBounds_toArray, List.set_cons_zero, List.set_cons_succ]
          refine AnyW.nextT (i := 12) (v := ?_) hq hns (.inr hHeld) rfl rfl (by kernel_rfl) (Or.inl ⟨by rfl, ?_⟩) ?_
          rotate_left
          · intro w' _; go_simp <;> with_reducible rfl
          try simp only [List.setIfInBounds_toArray, List.set_cons_zero, List.set_cons_succ]
          refine AnyW.nextT (i := 13) (v := ?_) hq hns (.inr hHeld) rfl rfl (by kernel_rfl) (Or.inl ⟨by rfl, ?_⟩) ?_
          rotate_left
          · intro w' _; go_simp <;> with_reducible rfl
          try simp only [List.setIfInBounds_toArray, List.set_cons_zero, List.set_cons_succ]
          refine AnyW.nextT (i := 14) (v := ?_) hq hns (.inr hHeld) rfl rfl (by kernel_rfl) (Or.inl ⟨by rfl, ?_⟩) ?_
          rotate_left
          · intro w' _; go_simp <;> with_reducible rfl
          try simp only [List.setIfInBounds_toArray, List.set_cons_zero, List.set_cons_succ]
          refine AnyW.nextT (i := 15) (v := ?_) hq hns (.inr hHeld) rfl rfl (by kernel_rfl) (Or.inl ⟨by rfl, ?_⟩) ?_
          rotate_left
          · intro w' _; go_simp <;> with_reducible rfl
          try simp only [List.setIfInBounds_toArray, List.set_cons_zero, List.set_cons_succ]
          refine AnyW.done (by kernel_rfl) (hQK.out _ _ ?_)
          clear hQK hq hns hHeld
          have Br := bt Bx BX
          have hz : w.heap.size ≤ wd.heap.size := Bx.size
          have O := O.base_le hz
          clear BX Bx Sx m0 m1 m2
          have FF := FarW.of Br (Nat.le_of_lt hgw)
          rcases he04 with rfl | rfl
          · have S9 := (Sr).set 0 (.string (s.extract k s.size))
            have F9 := (FF).set 0 (.string (s.extract k s.size))
            have O9 := O.farW (((FarW.refl g wr)).set 0 (.string (s.extract k s.size))) hgw
            have n0 := Sr.cell 0
            have n2 := Sr.cell 2
            have f0 := Sr.frozen 0
            have f2 := Sr.frozen 2
            go_wp2_with fail
            go_ret2
            rw [hR.out]
            exact ⟨A, c, s.extract k s.size, rfl, O9, ext_drop s k, S9, F9⟩
          · have S9 := (Sr.set 2 (.int .i64 4)).set 0 (.string (s.extract k s.size))
            have F9 := (FF.set 2 (.int .i64 4)).set 0 (.string (s.extract k s.size))
            have O9 := O.farW (((FarW.refl g wr).set 2 (.int .i64 4)).set 0 (.string (s.extract k s.size))) hgw
            have n0 := Sr.cell 0
            have n2 := Sr.cell 2
            have f0 := Sr.frozen 0
            have f2 := Sr.frozen 2
            go_wp2_with fail
            go_ret2
            rw [hR.out]
            exact ⟨A, c, s.extract k s.size, rfl, O9, ext_drop s k, S9, F9⟩
    · have d1 : decide ((k : Int) < (s.size : Int)) = false := decide_eq_false (by omega)
      have hend : ∀ c, (s.data.toList.drop k).head? = some c → isDr r c = false := by
        intro c hc
        rw [List.head?_drop, List.getElem?_eq_none (by rw [HSL.out]; omega)] at hc
        cases hc
      go_wp2_with fail
      go_quiet (fail)
      have By := bdN Bx nq
      have Sy : SB (wx.drewN nq) g [.string s, .int .i64 (r : Int), .int .i64 e] := Sx
      clear Bx Sx m0 m1 m2
      generalize wx.drewN nq = wy at *
      have m0 := Sy.cell 0
      have m1 := Sy.cell 1
      have m2 := Sy.cell 2
      by_cases hk0 : k = 0
      · subst hk0
        rw [List.drop_zero] at hend
        have hR := Lib.hid (dig_none (r := r) e hend)
        clear hend
        go_wp2_with fail
        go_ret2
        rw [hR.out]
        exact ⟨none, 0, s, rfl, OW.nil _ _, rfl, Sy, FarW.of By (Nat.le_of_lt hgw)⟩
      · have hR := Lib.hid (dig_some (r := r) e hk0 (by rw [HSL.out]; exact hk) hok.out hend)
        clear hend
        have tk : ((k : Int) == 0) = false := beq_eq_false_iff_ne.2 (by omega)
        have hx := fun w => read_any (s.extract 0 k) (r : Int) w (by rw [ByteArray.size_extract]; omega)
        rw [ext_take] at hx
        have he04 := rdr_err h1 h2 (s.data.toList.take k) (fun h => by have := congrArg List.length h; rw [List.length_take, HSL.out, List.length_nil] at this; omega) hok.out
        unfold rdr at he04
        dsimp only at he04
        have kI : (k : Int) ≤ (s.size : Int) := by omega
        have kI0 : (0 : Int) ≤ (k : Int) := by omega
        clear h1 h2 hok
        generalize readA (s.data.toList.take k) (r : Int) = x at *
        obtain ⟨n, E⟩ := x
        dsimp only at he04 hx hR
        go_wp2_with fail
        have Bx : Below w.heap.size w wy.drew := bdN By 1
        have Sx : SB wy.drew g [.string s, .int .i64 (r : Int), .int .i64 e] := Sy
        refine AnyW.regionQ (fun _ => false) 16 (fun w' => w'.cell? ⟨g, 0, none⟩ = some (.string s) ∧ w'.cell? ⟨g, 1, none⟩ = some (.int .i64 (r : Int))) rfl (by kernel_rfl) (by kernel_rfl) (by (repeat (with_reducible (first | refine quiet_then ?_ | refine quiet_block ?_))); exact quiet_body) ⟨m0, m1⟩ (fun Q' hQK hq hns hHeld => ?_)
        generalize wy.drew = wd at *
        refine AnyW.nextT (i := 0) (v := ?_) hq hns (.inr hHeld) rfl rfl (by kernel_rfl) (Or.inl ⟨by rfl, ?_⟩) ?_
        rotate_left
        · intro w' _; go_simp <;> with_reducible rfl
        try simp only [List.setIfInBounds_toArray, List.set_cons_zero, List.set_cons_succ]
        refine AnyW.nextT (i := 1) (v := ?_) hq hns (.inr hHeld) rfl rfl (by kernel_rfl) (Or.inl ⟨by rfl, ?_⟩) ?_
        rotate_left
        · intro w' _; go_simp <;> with_reducible rfl
        try simp only [List.setIfInBounds_toArray, List.set_cons_zero, List.set_cons_succ]
        refine AnyW.nextT (i := 2) (v := ?_) hq hns (.inr hHeld) rfl rfl (by kernel_rfl) (Or.inl ⟨by rfl, ?_⟩) ?_
        rotate_left
        · intro w' _; go_simp <;> with_reducible rfl
        try simp only [List.setIfInBounds_toArray, List.set_cons_zero, List.set_cons_succ]
        refine AnyW.next (i := 3) (v := ?_) hq hns hHeld rfl rfl (by kernel_rfl) (Or.inl ⟨by rfl, ?_⟩) ?_
        rotate_left
        · intro w' hSw; (try dsimp only at hSw); go_simp <;> with_reducible rfl
        try simp only [List.setIfInBounds_toArray, List.set_cons_zero, List.set_cons_succ]
        refine AnyW.nextT (i := 4) (v := ?_) hq hns (.inr hHeld) rfl rfl (by kernel_rfl) (Or.inl ⟨by rfl, ?_⟩) ?_
        rotate_left
        · intro w' _; go_simp <;> with_reducible rfl
        try simp only [List.setIfInBounds_toArray, List.set_cons_zero, List.set_cons_succ]
        refine AnyW.nextT (i := 5) (v := ?_) hq hns (.inr hHeld) rfl rfl (by kernel_rfl) (Or.inl ⟨by rfl, ?_⟩) ?_
        rotate_left
        · intro w' _; go_simp <;> with_reducible rfl
        try simp only [List.setIfInBounds_toArray, List.set_cons_zero, List.set_cons_succ]
        refine AnyW.nextT (i := 6) (v := ?_) hq hns (.inr hHeld) rfl rfl (by kernel_rfl) (Or.inl ⟨by rfl, ?_⟩) ?_
        rotate_left
        · intro w' _; go_simp <;> with_reducible rfl
        try simp only [List.setIfInBounds_toArray, List.set_cons_zero, List.set_cons_succ]
        refine AnyW.nextT (i := 7) (v := ?_) hq hns (.inr hHeld) rfl rfl (by kernel_rfl) (Or.inl ⟨by rfl, ?_⟩) ?_
        rotate_left
        · intro w' _; go_simp <;> with_reducible rfl
        try simp only [List.setIfInBounds_toArray, List.set_cons_zero, List.set_cons_succ]
        refine AnyW.nextT (i := 8) (v := ?_) hq hns (.inr hHeld) rfl rfl (by kernel_rfl) (Or.inl ⟨by rfl, ?_⟩) ?_
        rotate_left
        · intro w' _; go_simp <;> with_reducible rfl
        try simp only [List.setIfInBounds_toArray, List.set_cons_zero, List.set_cons_succ]
        refine AnyW.next (i := 9) (v := ?_) hq hns hHeld rfl rfl (by kernel_rfl) (Or.inl ⟨by rfl, ?_⟩) ?_
        rotate_left
        · intro w' hSw; (try dsimp only at hSw); go_simp <;> with_reducible rfl
        try simp only [List.setIfInBounds_toArray, List.set_cons_zero, List.set_cons_succ]
        refine AnyW.one 10 (by kernel_rfl) rfl (fun K' hK => ?_)
        go_simp
        refine (hx _).mono ?_
        rintro e' wr ⟨A, c, rfl, O, BX⟩
        clear hx
        go_wp2_with fail
        have Sr := Sx.nx BX
        refine hK.out _ _ (.inr ⟨Sr.cell 0, Sr.cell 1⟩) (fun hG => ?_)
        have hHeld := hG.resolve_left (notGone.spec (by rfl))
        clear hK K' hG
        try simp only [List.setIfInBounds_toArray, List.set_cons_zero, List.set_cons_succ]
        refine AnyW.nextT (i := 11) (v := ?_) hq hns (.inr hHeld) rfl rfl (by kernel_rfl) (Or.inl ⟨by rfl, ?_⟩) ?_
        rotate_left
        · intro w' _; go_simp <;> with_reducible rfl
        try simp only [List.setIfInBounds_toArray, List.set_cons_zero, List.set_cons_succ]
        refine AnyW.nextT (i := 12) (v := ?_) hq hns (.inr hHeld) rfl rfl (by kernel_rfl) (Or.inl ⟨by rfl, ?_⟩) ?_
        rotate_left
        · intro w' _; go_simp <;> with_reducible rfl
        try simp only [List.setIfInBounds_toArray, List.set_cons_zero, List.set_cons_succ]
        refine AnyW.nextT (i := 13) (v := ?_) hq hns (.inr hHeld) rfl rfl (by kernel_rfl) (Or.inl ⟨by rfl, ?_⟩) ?_
        rotate_left
        · intro w' _; go_simp <;> with_reducible rfl
        try simp only [List.setIfInBounds_toArray, List.set_cons_zero, List.set_cons_succ]
        refine AnyW.nextT (i := 14) (v := ?_) hq hns (.inr hHeld) rfl rfl (by kernel_rfl) (Or.inl ⟨by rfl, ?_⟩) ?_
        rotate_left
        · intro w' _; go_simp <;> with_reducible rfl
        try simp only [List.setIfInBounds_toArray, List.set_cons_zero, List.set_cons_succ]
        refine AnyW.nextT (i := 15) (v := ?_) hq hns (.inr hHeld) rfl rfl (by kernel_rfl) (Or.inl ⟨by rfl, ?_⟩) ?_
        rotate_left
        · intro w' _; go_simp <;> with_reducible rfl
        try simp only [List.setIfInBounds_toArray, List.set_cons_zero, List.set_cons_succ]
        refine AnyW.done (by kernel_rfl) (hQK.out _ _ ?_)
        clear hQK hq hns hHeld
        have Br := bt Bx BX
        have hz : w.heap.size ≤ wd.heap.size := Bx.size
        have O := O.base_le hz
        clear BX Bx Sx m0 m1 m2
        have FF := FarW.of Br (Nat.le_of_lt hgw)
        rcases he04 with rfl | rfl
        · have S9 := (Sr).set 0 (.string (s.extract k s.size))
          have F9 := (FF).set 0 (.string (s.extract k s.size))
          have O9 := O.farW (((FarW.refl g wr)).set 0 (.string (s.extract k s.size))) hgw
          have n0 := Sr.cell 0
          have n2 := Sr.cell 2
          have f0 := Sr.frozen 0
          have f2 := Sr.frozen 2
          go_wp2_with fail
          go_ret2
          rw [hR.out]
          exact ⟨A, c, s.extract k s.size, rfl, O9, ext_drop s k, S9, F9⟩
        · have S9 := (Sr.set 2 (.int .i64 4)).set 0 (.string (s.extract k s.size))
          have F9 := (FF.set 2 (.int .i64 4)).set 0 (.string (s.extract k s.size))
          have O9 := O.farW (((FarW.refl g wr).set 2 (.int .i64 4)).set 0 (.string (s.extract k s.size))) hgw
          have n0 := Sr.cell 0
          have n2 := Sr.cell 2
          have f0 := Sr.frozen 0
          have f2 := Sr.frozen 2
          go_wp2_with fail
          go_ret2
          rw [hR.out]
          exact ⟨A, c, s.extract k s.size, rfl, O9, ext_drop s k, S9, F9⟩
end Go.Proofs.Ytkjfpaommbjgbaa
