/- Walks: Read of both. -/
import Derived.Test.YtpknbgfekmdlfaaNatT
import Derived.Test.YtpknbgfekmdlfaaPlainE
namespace Go.Proofs.Ytpknbgfekmdlfaa
open Go.RowKit

def readD (l : List UInt8) (b : Nat) : Nat × Int := if okd b l then (if l.length > 16384 then (0, 4) else fitA (rdv b 0 l)) else (0, 5)
def readA (l : List UInt8) (b : Int) : Nat × Int :=
  if b < 2 ∨ b > 36 then (0, 1) else if l = [] then (0, 5) else readD l b.toNat
theorem s_at {s : ByteArray} {k : Nat} (h : k < s.size) : (s[k]'h).toNat = bt s.data.toList k := by
  unfold bt
  have h2 : k < s.data.toList.length := by rw [Array.length_toList]; exact h
  rw [List.getD_eq_getElem?_getD, List.getElem?_eq_getElem h2]
  rfl
theorem s_len (s : ByteArray) : s.data.toList.length = s.size := by rw [Array.length_toList]; rfl

theorem ne_empty {s : ByteArray} (h : s.size ≠ 0) : s.toList.isEmpty = false := by
  rw [List.isEmpty_eq_false_iff]
  intro h1
  have := (toList_nil_iff_emptyBytes s).1 h1
  subst this; exact h rfl
theorem readD_bad {l : List UInt8} {b k : Nat} (h : k < l.length) (hd : ¬ dval (bt l k) < b) : readD l b = (0, 5) := by unfold readD; rw [okd_false h hd]; rfl
theorem readD_long {l : List UInt8} {b : Nat} (h : okd b l = true) (hl : l.length > 16384) : readD l b = (0, 4) := by unfold readD; rw [h, if_pos rfl, if_pos hl]
theorem readD_fit {l : List UInt8} {b : Nat} (h : okd b l = true) (hl : ¬ l.length > 16384) : readD l b = fitA (rdv b 0 l) := by unfold readD; rw [h, if_pos rfl, if_neg hl]
theorem readD_large {l : List UInt8} {b k : Nat} (hb : 1 ≤ b) (h : okd b l = true) (hl : ¬ l.length > 16384) (hk : 512 < (digs (rdv b 0 (l.take k))).length) : readD l b = (0, 4) := by
  rw [readD_fit h hl]
  unfold fitA
  rw [if_neg]
  have h1 := digs_len_lt.1 hk
  have h2 := rdv_le hb l k
  have h3 := digs_len_lt.2 (Nat.le_trans h1 h2)
  omega

set_option maxRecDepth 100000 in
set_option maxHeartbeats 4000000 in
theorem read_core (s : ByteArray) (r : Nat) (w : World) (hs : s.size ≤ 140737488351232) (hr1 : 2 ≤ r) (hr2 : r ≤ 36) (h3 : s.size ≠ 0) :
    Calls Try.prog 30 #[.string s, .int .i64 (r : Int)] w (RetE w (readD s.data.toList r)) := by
  have t1 := ne_empty h3
  have hsl := s_len s
  have HSL := Lib.hid hsl
  clear hsl
  go_enter Try.func30, Try.ntmps30
  go_wp2_with fail
  go_loop [22] (fun iv => ∃ k : Nat, k ≤ s.size ∧ iv = .int .i64 (k : Int) ∧ Hid (okd r (s.data.toList.take k) = true)) (fun iv => (s.size - intOf iv).toNat)
  case atStart => exact ⟨0, Nat.zero_le _, rfl, rfl⟩
  case round =>
    obtain ⟨k, hk, rfl, hok⟩ := hrel
    by_cases h0 : k < s.size
    · have e1 := s_at h0
      have hv := value_any (bt s.data.toList k) w (bt_lt _ _)
      have hdl := dval_le (bt s.data.toList k)
      by_cases hd : dval (bt s.data.toList k) < r
      · have t2 : decide (r ≤ dval (bt s.data.toList k)) = false := by simp; omega
        have hst : Hid (okd r (s.data.toList.take (k + 1)) = true) := by
          show _ = _
          rw [okd_take (by rw [HSL.out]; exact h0), hok.out, decide_eq_true hd]; rfl
        go_wp2_with (go_at_call 60; refine hv.mono ?_; rintro e w' ⟨rfl, rfl⟩)
        go_round
        case rel => exact ⟨k + 1, by omega, by go_num, hst⟩
        case measure => simp [intOf]; omega
      · have t2 : decide (r ≤ dval (bt s.data.toList k)) = true := by simp; omega
        have hR := Lib.hid (readD_bad (l := s.data.toList) (k := k) (by rw [HSL.out]; exact h0) hd)
        go_wp2_with (go_at_call 60; refine hv.mono ?_; rintro e w' ⟨rfl, rfl⟩)
        go_ret2
        rw [hR.out]
        exact ret_nil 5 (Below.refl _ _)
    · obtain rfl : k = s.size := by omega
      have hok2 : okd r s.data.toList = true := by have := hok.out; rw [← HSL.out, List.take_length] at this; exact this
      have HOK := Lib.hid hok2
      by_cases hlong : s.size > 16384
      · have hR := Lib.hid (readD_long hok2 (by rw [HSL.out]; exact hlong))
        clear hok2
        go_wp2_with fail
        go_ret2
        rw [hR.out]
        exact ret_nil 4 (Below.refl _ _)
      · have hlong2 : s.size ≤ 16384 := by omega
        clear hok2 hok hlong
        go_wp2_with fail
        go_loopw [7, 37] (fun ov iv wr => ∃ (k : Nat) (A1 : Option Addr) (c1 : Nat), k ≤ s.size ∧ iv = .int .i64 (k : Int) ∧ ov = .slice A1 (digs (rdv r 0 (s.data.toList.take k))).length c1 ∧ OW wr w.heap.size A1 c1 (digs (rdv r 0 (s.data.toList.take k))) ∧ (digs (rdv r 0 (s.data.toList.take k))).length ≤ 512 ∧ Below w.heap.size w wr) (fun _ iv _ => (s.size - intOf iv).toNat)
        case atStart => exact ⟨0, none, 0, Nat.zero_le _, rfl, by rw [show rdv r 0 (s.data.toList.take 0) = 0 from rfl, digs_zero]; rfl, by rw [show rdv r 0 (s.data.toList.take 0) = 0 from rfl, digs_zero]; exact OW.nil _ _, by rw [show rdv r 0 (s.data.toList.take 0) = 0 from rfl, digs_zero]; simp, Below.refl _ _⟩
        case round =>
          obtain ⟨k, A1, c1, hk, rfl, rfl, hO, hol, hbel⟩ := hrel
          obtain ⟨wo, rfl⟩ : ∃ wo : World, wo = wr := ⟨_, rfl⟩
          by_cases h0 : k < s.size
          · have e1 := s_at h0
            have hv := fun w => value_any (bt s.data.toList k) w (bt_lt _ _)
            have hdl := dval_le (bt s.data.toList k)
            have hst := Lib.hid (rdv_take (b := r) (l := s.data.toList) (k := k) (by rw [HSL.out]; exact h0))
            have hlg := Lib.hid (fun h => readD_large (k := k + 1) (by omega : 1 ≤ r) HOK.out (by rw [HSL.out]; omega) h)
            rw [hst.out] at hlg
            have hlb := hO.big
            generalize hN : rdv r 0 (s.data.toList.take k) = N at *
            have HN := Lib.hid hN
            clear hN
            go_wp2_with (go_at_call 60; refine (hv _).mono ?_; rintro e w' ⟨rfl, rfl⟩)
            go_loopw [9, 47] (fun cv jv wr => ∃ (j q : Nat) (o : List Nat), j ≤ (digs N).length ∧ jv = .int .i64 (j : Int) ∧ q ≤ 99 ∧ cv = .int .u64 (q : Int) ∧ OW wr w.heap.size A1 c1 o ∧ Hid (Mul1 (digs N) o j r (dval (bt s.data.toList k)) q) ∧ Below w.heap.size w wr) (fun _ jv _ => ((digs N).length - intOf jv).toNat)
            case atStart => exact ⟨0, dval (bt s.data.toList k), _, Nat.zero_le _, rfl, hdl, rfl, hO, ⟨rfl, fun t _ => rfl, by simp [val, Wp_zero]⟩, hbel⟩
            case round =>
              obtain ⟨j, q, o, hj, rfl, hq, rfl, hO, hM, hbel⟩ := hrel
              obtain ⟨wi, rfl⟩ : ∃ wi : World, wi = wr := ⟨_, rfl⟩
              by_cases hjl : j < (digs N).length
              · have hok : j < o.length := by have := hM.out.1; omega
                rcases hO.form with ⟨_, _, he⟩ | ⟨g, rfl, hg1, hg2, _⟩
                · rw [he] at hok; simp at hok
                · have hoc := hO.cell hok
                  have hfz := hO.frozen j
                  have hwx := wd_lt hO.b32 j
                  obtain ⟨hm0, hm1⟩ := mcI hq hwx hr2
                  have e2 := mcf_int q (wd o j) r
                  have e3 := mcc_int q (wd o j) r
                  have hcl := mcc_lt hq hwx hr2
                  have hset := hO.set j (mcf_lt q (wd o j) r)
                  have hst2 := Lib.hid (Mul1_step hok hM.out)
                  have hbel2 := hbel.setCell (p := ⟨g, j, none⟩) hg1 (.int .u32 (mcf q (wd o j) r : Nat))
                  go_wp2
                  go_roundw
                  case rel => exact ⟨j + 1, _, _, by omega, by go_num, hcl, rfl, hset, hst2, hbel2⟩
                  case measure => simp [intOf]; omega
              · obtain rfl : j = (digs N).length := by omega
                obtain ⟨f1, f2⟩ := Mul1_end (by omega) (by omega) hO.b32 hM.out
                have hol2 : o.length = (digs N).length := hM.out.1
                have HOL := Lib.hid hol2
                have F1 := Lib.hid f1
                have F2 := Lib.hid f2
                clear f1 f2 hol2
                by_cases hq0 : q = 0
                · have HE := Lib.hid (F1.out hq0)
                  subst hq0
                  go_wp2_with fail
                  go_roundw
                  case rel => exact ⟨k + 1, A1, c1, by omega, by go_num, by rw [hst.out, ← HE.out, HOL.out], by rw [hst.out, ← HE.out]; exact hO, by rw [hst.out, ← HE.out, HOL.out]; exact hol, hbel⟩
                  case measure => simp [intOf]; omega
                · have hq1 : 0 < q := by omega
                  have HE := Lib.hid (F2.out hq0)
                  have hone := RW.one wi 33 (show q < 4294967296 by omega)
                  have hb2 : Below w.heap.size w (wi.alloc (.cells #[.int .u32 (q : Int)] 33)) := hbel.alloc hbel.size _
                  have hlen : (o ++ [q]).length = (digs N).length + 1 := by rw [List.length_append, HOL.out]; rfl
                  have HLEN := Lib.hid hlen
                  have hOb := hO.1.1
                  clear hlen hOb hq0
                  have hO' : OL 33 fw (wi.alloc (.cells #[.int .u32 (q : Int)] 33)) w.heap.size A1 c1 o := hO.1.alloc _
                  have hOl : (digs N).length = o.length := HOL.out.symm
                  have HOL2 := Lib.hid hOl
                  clear hOl
                  by_cases hbig : 512 < (digs N).length + 1
                  · have hR := Lib.hid (hlg.out (by rw [← HE.out, HLEN.out]; exact hbig))
                    go_wp2_with (at_builtin; refine wp_appW _ rfl _ _ rfl w.heap.size _ _ _ o rfl HOL2.out ⟨hO', hO.b32⟩ _ _ _ [q] rfl rfl _ hone (by rw [HOL.out]; simp; omega) hb2.size ?_; intro A2 c2 w2 g1 g2 g3; rw [HLEN.out])
                    go_ret2
                    rw [hR.out]
                    exact ret_nil 4 (hb2.trans g3)
                  · go_wp2_with (at_builtin; refine wp_appW _ rfl _ _ rfl w.heap.size _ _ _ o rfl HOL2.out ⟨hO', hO.b32⟩ _ _ _ [q] rfl rfl _ hone (by rw [HOL.out]; simp; omega) hb2.size ?_; intro A2 c2 w2 g1 g2 g3; rw [HLEN.out])
                    go_roundw
                    case rel => exact ⟨k + 1, A2, c2, by omega, by go_num, by rw [hst.out, ← HE.out, HLEN.out], by rw [hst.out, ← HE.out]; exact g1, by rw [hst.out, ← HE.out, HLEN.out]; omega, hb2.trans g3⟩
                    case measure => simp [intOf]; omega
          · obtain rfl : k = s.size := by omega
            have hfull : s.data.toList.take s.size = s.data.toList := by rw [← HSL.out, List.take_length]
            rw [hfull] at hO hol
            have hR : Hid (readD s.data.toList r = (rdv r 0 s.data.toList, 0)) := by
              show _ = _
              rw [readD_fit HOK.out (by rw [HSL.out]; omega)]
              unfold fitA; rw [if_pos hol]
            have HF := Lib.hid hfull
            clear hfull
            go_wp2_with fail
            go_ret2
            rw [hR.out, HF.out]
            exact ⟨A1, c1, rfl, hO, hbel⟩

set_option maxRecDepth 100000 in
set_option maxHeartbeats 4000000 in
theorem read_any (s : ByteArray) (b : Int) (w : World) (hs : s.size ≤ 140737488351232) :
    Calls Try.prog 30 #[.string s, .int .i64 b] w (RetE w (readA s.data.toList b)) := by
  unfold readA
  by_cases h1 : b < 2
  · rw [if_pos (Or.inl h1)]
    go_enter Try.func30, Try.ntmps30
    go_wp2_with fail
    go_ret2
    exact ret_nil 1 (Below.refl _ _)
  · by_cases h2 : b > 36
    · rw [if_pos (Or.inr h2)]
      go_enter Try.func30, Try.ntmps30
      go_wp2_with fail
      go_ret2
      exact ret_nil 1 (Below.refl _ _)
    · rw [if_neg (by omega)]
      obtain ⟨r, rfl⟩ := Int.eq_ofNat_of_zero_le (show 0 ≤ b by omega)
      rw [Int.toNat_natCast]
      have hr1 : 2 ≤ r := by omega
      have hr2 : r ≤ 36 := by omega
      by_cases h3 : s.size = 0
      · have hl : s.data.toList = [] := List.eq_nil_of_length_eq_zero (by rw [s_len]; exact h3)
        rw [if_pos hl]
        have hse : s = ⟨#[]⟩ := by
          cases s with
          | mk d => congr 1; exact Array.eq_empty_of_size_eq_zero h3
        subst hse
        go_enter Try.func30, Try.ntmps30
        go_wp2_with fail
        go_ret2
        exact ret_nil 5 (Below.refl _ _)
      · have hl : s.data.toList ≠ [] := fun h => h3 (by rw [← s_len, h]; rfl)
        rw [if_neg hl]
        exact read_core s r w hs hr1 hr2 h3
end Go.Proofs.Ytpknbgfekmdlfaa
