/- Walks: the reference's Read. -/
import Derived.Test.YtpknbgfekmdlfaaNatU
import Derived.Deep.RegionHeld3
namespace Go.Proofs.Ytpknbgfekmdlfaa
open Go.RowKit

set_option maxRecDepth 100000 in
set_option maxHeartbeats 4000000 in
theorem rread_core (s : ByteArray) (r : Nat) (w : World) (hs : s.size ≤ 140737488351232) (hr1 : 2 ≤ r) (hr2 : r ≤ 36) (h3 : s.size ≠ 0) :
    Calls Try.prog 31 #[.string s, .int .i64 (r : Int)] w (RetE w (readD s.data.toList r)) := by
  have t1 := ne_empty h3
  have hsl := s_len s
  have HSL := Lib.hid hsl
  clear hsl
  go_enter Try.func31, Try.ntmps31
  go_wp2_with fail
  go_loop [6] (fun iv => ∃ k : Nat, k ≤ s.size ∧ iv = .int .i64 (k : Int) ∧ Hid (okd r (s.data.toList.take k) = true)) (fun iv => (s.size - intOf iv).toNat)
  case atStart => exact ⟨0, Nat.zero_le _, rfl, rfl⟩
  case round =>
    obtain ⟨k, hk, rfl, hok⟩ := hrel
    by_cases h0 : k < s.size
    · have e1 := s_at h0
      have hv := rvalue_any (bt s.data.toList k) w (bt_lt _ _)
      have hdl := dval_le (bt s.data.toList k)
      by_cases hd : dval (bt s.data.toList k) < r
      · have t2 : decide (r ≤ dval (bt s.data.toList k)) = false := by simp; omega
        have hst : Hid (okd r (s.data.toList.take (k + 1)) = true) := by
          show _ = _
          rw [okd_take (by rw [HSL.out]; exact h0), hok.out, decide_eq_true hd]; rfl
        go_wp2_with (go_at_call 61; refine hv.mono ?_; rintro e w' ⟨rfl, rfl⟩)
        go_round
        case rel => exact ⟨k + 1, by omega, by go_num, hst⟩
        case measure => simp [intOf]; omega
      · have t2 : decide (r ≤ dval (bt s.data.toList k)) = true := by simp; omega
        have hR := Lib.hid (readD_bad (l := s.data.toList) (k := k) (by rw [HSL.out]; exact h0) hd)
        go_wp2_with (go_at_call 61; refine hv.mono ?_; rintro e w' ⟨rfl, rfl⟩)
        go_ret2
        rw [hR.out]
        exact ret_nil 5 (Below.refl _ _)
    · obtain rfl : k = s.size := by omega
      have hok2 : okd r s.data.toList = true := by have := hok.out; rw [← HSL.out, List.take_length] at this; exact this
      have HOK := Lib.hid hok2
      by_cases hlong : s.size > 16384
      · have hR := Lib.hid (readD_long hok2 (by rw [HSL.out]; exact hlong))
        clear hok2
        go_wp2_with fail
        go_ret2
        rw [hR.out]
        exact ret_nil 4 (Below.refl _ _)
      · have hlong2 : s.size ≤ 16384 := by omega
        clear hok2 hok hlong
        go_wp2_with fail
        go_loopw [7, 8] (fun ov iv wr => ∃ (k : Nat) (A1 : Option Addr) (c1 : Nat), k ≤ s.size ∧ iv = .int .i64 (k : Int) ∧ ov = .slice A1 (digs (rdv r 0 (s.data.toList.take k))).length c1 ∧ OW wr w.heap.size A1 c1 (digs (rdv r 0 (s.data.toList.take k))) ∧ (digs (rdv r 0 (s.data.toList.take k))).length ≤ 512 ∧ Below w.heap.size w wr) (fun _ iv _ => (s.size - intOf iv).toNat)
        case atStart => exact ⟨0, _, 0, Nat.zero_le _, rfl, by rw [show rdv r 0 (s.data.toList.take 0) = 0 from rfl, digs_zero]; rfl, by rw [show rdv r 0 (s.data.toList.take 0) = 0 from rfl, digs_zero]; exact OW.empty w, by rw [show rdv r 0 (s.data.toList.take 0) = 0 from rfl, digs_zero]; simp, (Below.refl _ _).alloc (Nat.le_refl _) _⟩
        case round =>
          obtain ⟨k, A1, c1, hk, rfl, rfl, hO, hol, hbel⟩ := hrel
          obtain ⟨wo, rfl⟩ : ∃ wo : World, wo = wr := ⟨_, rfl⟩
          by_cases h0 : k < s.size
          · have e1 := s_at h0
            have hv := fun w => rvalue_any (bt s.data.toList k) w (bt_lt _ _)
            have hdl := dval_le (bt s.data.toList k)
            have hst := Lib.hid (rdv_take (b := r) (l := s.data.toList) (k := k) (by rw [HSL.out]; exact h0))
            have hlg := Lib.hid (fun h => readD_large (k := k + 1) (by omega : 1 ≤ r) HOK.out (by rw [HSL.out]; omega) h)
            rw [hst.out] at hlg
            have hlb := hO.big
            generalize hN : rdv r 0 (s.data.toList.take k) = N at *
            have HN := Lib.hid hN
            clear hN
            have hof : ∀ w, Calls Try.prog 25 #[.int .u64 ((dval (bt s.data.toList k) : Nat) : Int)] w (RetW w (dval (bt s.data.toList k))) := fun w => rof_any (dval (bt s.data.toList k) : Int) w (by omega) (by omega)
            have hNr : (digs (N * r)).length ≤ 513 := by
              have h1 := digs_len_le.1 hol
              exact digs_len_le.2 (by rw [Wp_succ, Nat.mul_comm 4294967296]; exact Nat.lt_of_lt_of_le (Nat.mul_lt_mul_of_pos_right h1 (by omega)) (Nat.mul_le_mul_left _ (by omega)))
            have hDl : (digs (dval (bt s.data.toList k))).length ≤ 1 := digs_len_le.2 (by rw [Wp_succ, Wp_zero]; omega)
            have ew : IntKind.u32.wrap (r : Int) = (r : Int) := IntWalk.u32_in _ (by omega)
            have ew2 : IntKind.u64.wrap ((dval (bt s.data.toList k) : Nat) : Int) = (dval (bt s.data.toList k) : Nat) := IntWalk.u64_in _ (by omega)
            have hb2 : Below wo.heap.size wo (wo.alloc (.cells #[.int .u32 (r : Int)] 33)) := (Below.refl _ _).alloc (Nat.le_refl _) _
            have hx : RW (wo.alloc (.cells #[.int .u32 (r : Int)] 33)).drew (wo.alloc (.cells #[.int .u32 (r : Int)] 33)).drew.heap.size A1 c1 (digs N) := hO.rw.step hb2.drew (Nat.le_trans (Nat.le_succ _) (by simp [World.drew]))
            have hy : RW (wo.alloc (.cells #[.int .u32 (r : Int)] 33)).drew (wo.alloc (.cells #[.int .u32 (r : Int)] 33)).drew.heap.size (some ⟨wo.heap.size, 0, none⟩) 1 [r] := (RW.one wo 33 (show r < 4294967296 by omega)).more (by simp [World.drew])
            have htm := rtimes_any A1 (some ⟨wo.heap.size, 0, none⟩) c1 1 _ 1 (digs N) [r] _ rfl rfl hx hy (by omega) (by simp)
            rw [val_digs, val_one] at htm
            go_wp2_with fail
            go_region_held3 (fun _ => True) (first | exact trivial)
              ((first
                | (go_at_call 45; refine htm.mono ?_; rintro e w4 ⟨A4, c4, rfl, hO4, hb4⟩)
                | (go_at_call 61; refine (hv _).mono ?_; rintro e w' ⟨rfl, rfl⟩)
                | (go_at_call 25; refine (hof _).mono ?_; rintro e w5 ⟨A5, c5, rfl, hO5, hb5⟩)
                | (go_at_call 47; refine (rplus_any A4 A5 c4 c5 _ _ (digs (N * r)) (digs (dval (bt s.data.toList k))) w5 rfl rfl (hO4.rw.step hb5 hb5.size) hO5.rw (by omega) (by omega)).mono ?_; rw [val_digs, val_digs]; rintro e w6 ⟨A6, c6, rfl, hO6, hb6⟩)))
            all_goals
              have B4 : Below wo.heap.size wo w4 := hb2.drew.trans (hb4.mono hb2.drew.size)
              have B5 := B4.trans (hb5.mono B4.size)
              have B6 := hbel.trans ((B5.trans (hb6.mono B5.size)).mono hbel.size)
              have O6 := hO6.base_le (Nat.le_trans hbel.size B5.size)
              by_cases hbig : 512 < (digs (N * r + dval (bt s.data.toList k))).length
              · have hR := Lib.hid (hlg.out hbig)
                go_wp2_with fail
                go_ret2
                rw [hR.out]
                exact ret_nil 4 B6
              · go_wp2_with fail
                go_roundw
                case rel => exact ⟨k + 1, A6, c6, by omega, by go_num, by rw [hst.out], by rw [hst.out]; exact O6, by rw [hst.out]; omega, B6⟩
                case measure => simp [intOf]; omega
          · obtain rfl : k = s.size := by omega
            have hfull : s.data.toList.take s.size = s.data.toList := by rw [← HSL.out, List.take_length]
            rw [hfull] at hO hol
            have hR : Hid (readD s.data.toList r = (rdv r 0 s.data.toList, 0)) := by
              show _ = _
              rw [readD_fit HOK.out (by rw [HSL.out]; omega)]
              unfold fitA; rw [if_pos hol]
            have HF := Lib.hid hfull
            clear hfull
            go_wp2_with fail
            go_ret2
            rw [hR.out, HF.out]
            exact ⟨A1, c1, rfl, hO, hbel⟩

set_option maxRecDepth 100000 in
set_option maxHeartbeats 4000000 in
theorem rread_any (s : ByteArray) (b : Int) (w : World) (hs : s.size ≤ 140737488351232) :
    Calls Try.prog 31 #[.string s, .int .i64 b] w (RetE w (readA s.data.toList b)) := by
  unfold readA
  by_cases h1 : b < 2
  · rw [if_pos (Or.inl h1)]
    go_enter Try.func31, Try.ntmps31
    go_wp2_with fail
    go_ret2
    exact ret_nil 1 (Below.refl _ _)
  · by_cases h2 : b > 36
    · rw [if_pos (Or.inr h2)]
      go_enter Try.func31, Try.ntmps31
      go_wp2_with fail
      go_ret2
      exact ret_nil 1 (Below.refl _ _)
    · rw [if_neg (by omega)]
      obtain ⟨r, rfl⟩ := Int.eq_ofNat_of_zero_le (show 0 ≤ b by omega)
      rw [Int.toNat_natCast]
      have hr1 : 2 ≤ r := by omega
      have hr2 : r ≤ 36 := by omega
      by_cases h3 : s.size = 0
      · have hl : s.data.toList = [] := List.eq_nil_of_length_eq_zero (by rw [s_len]; exact h3)
        rw [if_pos hl]
        have hse : s = ⟨#[]⟩ := by
          cases s with
          | mk d => congr 1; exact Array.eq_empty_of_size_eq_zero h3
        subst hse
        go_enter Try.func31, Try.ntmps31
        go_wp2_with fail
        go_ret2
        exact ret_nil 5 (Below.refl _ _)
      · have hl : s.data.toList ≠ [] := fun h => h3 (by rw [← s_len, h]; rfl)
        rw [if_neg hl]
        exact rread_core s r w hs hr1 hr2 h3
end Go.Proofs.Ytpknbgfekmdlfaa
