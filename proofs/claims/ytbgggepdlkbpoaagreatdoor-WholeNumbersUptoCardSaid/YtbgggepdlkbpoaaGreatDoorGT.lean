/- Merged texts: WtA. -/
import Derived.Test.YtbgggepdlkbpoaaGreatDoorGH
import Derived.Test.YtbgggepdlkbpoaaGreatDoorGS
import Derived.Test.YtbgggepdlkbpoaaGreatDoorGB
import Derived.Deep.RegionWith
namespace Go.Proofs.YtbgggepdlkbpoaaGreatDoor
open Go.RowKit

/-- do size bytes from at on lie among n? -/
def inB (n : Nat) (at_ size : Int) : Bool := decide (1 ≤ size ∧ size ≤ 64 ∧ 0 ≤ at_ ∧ at_ ≤ (n : Int) - size)


set_option maxHeartbeats 1000000 in
theorem in_any (A : Option Addr) (c n : Nat) (at_ size : Int) (w : World) (hb : n ≤ 140737488351232) (a0 : -9223372036854775808 ≤ at_) (a1 : at_ ≤ 9223372036854775807) (s0 : -9223372036854775808 ≤ size) (s1 : size ≤ 9223372036854775807) :
    Calls Tryz.prog 19 #[.slice A n c, .int .i64 at_, .int .i64 size] w fun e w' => e = .returned (.bool (inB n at_ size)) ∧ w = w' := by
  unfold inB
  by_cases h1 : 1 ≤ size
  · by_cases h2 : size ≤ 64
    · by_cases h3 : 0 ≤ at_
      · by_cases h4 : at_ ≤ (n : Int) - size
        · rw [decide_eq_true (by omega)]
          go_enter Tryz.func19, Tryz.ntmps19
          go_wp2_with fail
          go_ret
          exact ⟨rfl, rfl⟩
        · rw [decide_eq_false (by omega)]
          go_enter Tryz.func19, Tryz.ntmps19
          go_wp2_with fail
          go_ret
          exact ⟨rfl, rfl⟩
      · rw [decide_eq_false (by omega)]
        go_enter Tryz.func19, Tryz.ntmps19
        go_wp2_with fail
        go_ret
        exact ⟨rfl, rfl⟩
    · rw [decide_eq_false (by omega)]
      go_enter Tryz.func19, Tryz.ntmps19
      go_wp2_with fail
      go_ret
      exact ⟨rfl, rfl⟩
  · rw [decide_eq_false (by omega)]
    go_enter Tryz.func19, Tryz.ntmps19
    go_wp2_with fail
    go_ret
    exact ⟨rfl, rfl⟩


theorem cloneB_any (A : Option Addr) (c n : Nat) (l : List UInt8) (w : World) (hn : n = l.length) (h : RBT w w.heap.size A c l) :
    Calls Tryz.prog 21 #[.slice A n c] w fun e w' => ∃ A' c', e = .returned (.slice A' l.length c') ∧ OBT w' w.heap.size A' c' l ∧ Below w.heap.size w w' := by
  subst hn
  have hbig := h.big
  have q22 : ∀ (w : World) (a : Option Addr) (n c n' c' : Nat), (binOp .eql 31 (.slice a n c) (.slice none n' c')).run Tryz.prog w = .ok (.bool a.isNone) w := fun w a n c n' c' => Lib.run_eql_slice_nil w _ _ a n c n' c' Tryz.underlying31
  rcases A with _ | ad
  · have hl0 : l = [] := by
      rcases Nat.eq_zero_or_pos l.length with h0 | h0
      · exact List.eq_nil_of_length_eq_zero h0
      · obtain ⟨_, _, e, _⟩ := h.at_ h0; cases e
    subst hl0
    go_enter Tryz.func21, Tryz.ntmps21
    go_wp2
    go_ret
    exact ⟨none, 0, rfl, OM.nil .., Below.refl _ _⟩
  · have hb1 : Below w.heap.size w (w.alloc (.cells #[] 5)) := (Below.refl _ _).alloc (Nat.le_refl _) _
    have hr := h.below hb1
    clear h
    go_enter Tryz.func21, Tryz.ntmps21
    go_wp2_with (at_builtin; refine wp_appBT _ rfl _ _ rfl w.heap.size _ _ _ [] rfl rfl (OBT.empty w) _ _ _ l rfl rfl _ hr (by simp; omega) (by simp) ?_; intro A' c' w' h1 h2 h3)
    go_ret
    exact ⟨A', c', ret_slice (by simp), h1, hb1.trans h3⟩


theorem int0_any (w : World) : Calls Tryz.prog 23 #[.int .i64 0] w fun e w' => ∃ A1 c1 D1 d1 A2 c2 D2 d2, e = .returned (.agg #[.bool (qn 0), .slice A1 (digs (qt 0)).length c1, .slice D1 (digs (qd 0)).length d1, .bool (qn 0), .slice A2 (digs (qt 0)).length c2, .slice D2 (digs (qd 0)).length d2]) ∧
    OW w' w.heap.size A1 c1 (digs (qt 0)) ∧ OW w' w.heap.size D1 d1 (digs (qd 0)) ∧ OW w' w.heap.size A2 c2 (digs (qt 0)) ∧ OW w' w.heap.size D2 d2 (digs (qd 0)) ∧ Below w.heap.size w w' :=
  int_any 0 w (by omega) (by omega)
theorem RB_sub {w : World} {B : Nat} {b off c : Nat} {l : List UInt8} (h : RBT w B (some ⟨b, off, none⟩) c l) (q s : Nat) (hq : q + s ≤ l.length) : RBT w B (some ⟨b, off + q, none⟩) (c - q) ((l.drop q).take s) := by
  have hl : ((l.drop q).take s).length = s := by rw [List.length_take, List.length_drop]; omega
  refine ⟨by rw [hl]; have := RM.lc h; omega, by rw [hl]; have := RM.big h; omega, fun hn => ?_⟩
  obtain ⟨b', off', e, hb, hc⟩ := RM.at_ h (by omega)
  simp only [Option.some.injEq, Addr.mk.injEq, and_true] at e
  obtain ⟨rfl, rfl⟩ := e
  refine ⟨b, off + q, rfl, hb, fun k x hk => ?_⟩
  rw [List.getElem?_take] at hk
  split at hk
  · rw [List.getElem?_drop] at hk
    rw [Nat.add_assoc]
    exact hc _ x hk
  · cases hk
/-- the bytes, the lowest first -/
def leB (l : List UInt8) (a s : Nat) (big : Bool) : List UInt8 := if big = true then ((l.drop a).take s).reverse else (l.drop a).take s
theorem leB_len {l : List UInt8} {a s : Nat} (big : Bool) (h : a + s ≤ l.length) : (leB l a s big).length = s := by
  unfold leB; split
  · rw [List.length_reverse, List.length_take, List.length_drop]; omega
  · rw [List.length_take, List.length_drop]; omega
def negB (C : List UInt8) (s : Nat) (signed : Bool) : Bool := signed && decide (128 ≤ (bgT C (s - 1)).toNat)
def getI (l : List UInt8) (a s : Nat) (big signed : Bool) : Int := if negB (leB l a s big) s signed = true then (lv (leB l a s big) : Int) - 256 ^ s else (lv (leB l a s big) : Int)
def getQ (l : List UInt8) (at_ size : Int) (big signed : Bool) : Rw × Rw × Int := if inB l.length at_ size = true then (rwq ((getI l at_.toNat size.toNat big signed : Int) : Rat), rwq 0, 0) else (rw0, rw0, 1)
theorem rwq_pos {v : Nat} : rwq (((v : Int)) : Rat) = ⟨qn 0, digs v, digs (qd 0)⟩ := by
  unfold rwq
  rw [qn_int, qt_int, qd_int, decide_eq_false (by omega), Int.natAbs_natCast]; rfl
theorem rwq_neg {v p : Nat} (h : v < p) : rwq (((v : Int) - (p : Int) : Int) : Rat) = ⟨true, digs (p - v), digs (qd 0)⟩ := by
  unfold rwq
  rw [qn_int, qt_int, qd_int, decide_eq_true (by omega), show ((v : Int) - (p : Int)).natAbs = p - v by omega]; rfl


set_option maxRecDepth 100000 in
set_option maxHeartbeats 16000000 in
theorem get_any (A : Option Addr) (c n : Nat) (l : List UInt8) (at_ size : Int) (big signed : Bool) (w : World) (hn : n = l.length) (h : RBT w w.heap.size A c l)
    (a0 : -9223372036854775808 ≤ at_) (a1 : at_ ≤ 9223372036854775807) (s0 : -9223372036854775808 ≤ size) (s1 : size ≤ 9223372036854775807) :
    Calls Tryz.prog 7 #[.slice A n c, .int .i64 at_, .int .i64 size, .bool big, .bool signed] w (RetNE w (getQ l at_ size big signed)) := by
  subst hn
  have hbig := h.big
  have B1 := bal w (.cells #[.bool false, .slice none 0 0, .slice none 0 0, .bool false, .slice none 0 0, .slice none 0 0] 26)
  have S1 := SB.new w [.bool false, .slice none 0 0, .slice none 0 0, .bool false, .slice none 0 0, .slice none 0 0] 26
  have hin := in_any A c l.length at_ size (w.alloc (.cells #[.bool false, .slice none 0 0, .slice none 0 0, .bool false, .slice none 0 0, .slice none 0 0] 26)) hbig a0 a1 s0 s1
  unfold getQ
  cases hi : inB l.length at_ size with
  | false =>
    rw [hi] at hin
    have hRC := S1.rc (n := 6)
    go_enter Tryz.func7, Tryz.ntmps7
    go_wp2_with fail
    refine hin.mono ?_; rintro e w' ⟨rfl, rfl⟩
    go_wp2_with (refine wp_st6 rfl (.tmp 10) (.tmp 23) rfl _ rfl _ _ _ _ _ _ rfl hRC rfl rfl rfl rfl rfl rfl ?_)
    have s6 := hRC.put6 (.bool false) (.slice none 0 0) (.slice none 0 0) (.bool false) (.slice none 0 0) (.slice none 0 0)
    have B6 := wr6_below (b := w.heap.size) B1 (Nat.le_refl _) (.bool false) (.slice none 0 0) (.slice none 0 0) (.bool false) (.slice none 0 0) (.slice none 0 0)
    have r0' := s6.cell 0
    have r1' := s6.cell 1
    have r2' := s6.cell 2
    have r3' := s6.cell 3
    have r4' := s6.cell 4
    have r5' := s6.cell 5
    refine bodyPost_ret (v := .tuple #[.agg #[.bool false, .slice none 0 0, .slice none 0 0, .bool false, .slice none 0 0, .slice none 0 0], .int .i64 1]) (by simp [results, r0', r1', r2', r3', r4', r5', go_sem]) rfl ?_
    exact retNE_nil 1 B6
  | true =>
    rw [hi] at hin
    unfold inB at hi
    rw [decide_eq_true_eq] at hi
    obtain ⟨a, rfl⟩ := Int.eq_ofNat_of_zero_le hi.2.2.1
    obtain ⟨s, rfl⟩ := Int.eq_ofNat_of_zero_le (show 0 ≤ size by omega)
    obtain ⟨i1, i2, _, i4⟩ := hi
    rw [Int.toNat_natCast, Int.toNat_natCast, if_pos rfl]
    have hsl : a + s ≤ l.length := by omega
    have hs1 : 1 ≤ s := by omega
    have hs64 : s ≤ 64 := by omega
    obtain ⟨b, off, rfl, hb, _⟩ := RM.at_ h (by omega)
    have hlc := RM.lc h
    have hck : ¬ c = a := by omega
    have hcl := cloneB_any (some ⟨b, off + a, none⟩) (c - a) s ((l.drop a).take s) (w.alloc (.cells #[.bool false, .slice none 0 0, .slice none 0 0, .bool false, .slice none 0 0, .slice none 0 0] 26)) (by rw [List.length_take, List.length_drop]; omega) (RB_sub (RM.step h B1 B1.size) a s hsl)
    rw [show ((l.drop a).take s).length = s by rw [List.length_take, List.length_drop]; omega] at hcl
    obtain ⟨t, ht⟩ : ∃ t, t = s - 1 := ⟨_, rfl⟩
    have e1 : (s : Int) - 1 = (t : Int) := by omega
    have hls : Hid (((l.drop a).take s).length = s) := by show _ = _; rw [List.length_take, List.length_drop]; omega
    clear h i1 i2 i4
    unfold getI negB
    rw [← ht]
    have hts : t + 1 = s := by omega
    have HT := Lib.hid hts
    clear ht hts
    obtain ⟨PW, HPn⟩ : ∃ PW : Nat, Hid (256 ^ s = PW) := ⟨_, rfl⟩
    have HPW : Hid ((256 : Int) ^ s = (PW : Int)) := by show _ = _; rw [← HPn.out]; simp
    cases big with
    | false =>
      obtain ⟨C, hC⟩ : ∃ C, C = (l.drop a).take s := ⟨_, rfl⟩
      rw [show leB l a s false = C by rw [hC]; rfl]
      have HC := Lib.hid hC
      have HCl : Hid (C.length = s) := by show _ = _; rw [hC]; exact hls.out
      have hlt : Hid (lv C < PW) := by show _ < _; rw [← HPn.out, ← HCl.out]; exact lv_lt C
      clear hC
      cases signed with
      | false =>
        rw [show (false && decide (128 ≤ (bgT C t).toNat)) = false from rfl, if_neg (by simp), rwq_pos]
        go_enter Tryz.func7, Tryz.ntmps7
        go_wp2_with fail
        refine hin.mono ?_; rintro e w' ⟨rfl, rfl⟩
        go_wp2_with fail
        refine hcl.mono ?_; rintro e w2 ⟨A2, c2, rfl, O2, B2⟩
        obtain ⟨wc, hwc⟩ : ∃ wc, wc = w2 := ⟨_, rfl⟩
        subst hwc
        have hC : OBT wc (w.alloc (.cells #[.bool false, .slice none 0 0, .slice none 0 0, .bool false, .slice none 0 0, .slice none 0 0] 26)).heap.size A2 c2 C := by rw [HC.out]; exact O2
        have BC := B2
        rcases OM.form hC with ⟨_, _, he⟩ | ⟨gc, rfl, hgc, _, _⟩
        · exact absurd (by rw [← HCl.out, he]; rfl) (show ¬ s = 0 by omega)
        clear O2
        go_wp2_with (at_make; refine wp_makeW _ rfl _ _ rfl .i64 .i64 _ _ (s / 4 + 1) rfl rfl (by omega) (by omega) (by omega) ?_; intro w4 hO1 hb1 hs1)
        have hC4 : OBT w4 (w.alloc (.cells #[.bool false, .slice none 0 0, .slice none 0 0, .bool false, .slice none 0 0, .slice none 0 0] 26)).heap.size (some ⟨gc, 0, none⟩) c2 C := OM.below hC hb1 (Nat.le_refl _)
        have hgcw : gc < wc.heap.size := (OM.lt hC).2
        clear hC
        go_loopg [49] s (fun gg iv wr => ∃ (k : Nat) (o : List Nat), k ≤ s ∧ s - k = gg ∧ iv = .int .i64 (k : Int) ∧ OW wr wc.heap.size (some ⟨wc.heap.size, 0, none⟩) (s / 4 + 1) o ∧ Hid (o.length = s / 4 + 1) ∧ Hid (val o = lv (C.take k)) ∧ Below wc.heap.size wc wr)
        case atStart => exact ⟨0, _, Nat.zero_le _, rfl, rfl, hO1, by show _ = _; simp, by show _ = _; rw [val_replicate]; rfl, hb1⟩
        case round =>
          obtain ⟨k, o, hk, rfl, rfl, hO, hol, hv, hbel⟩ := hrel
          by_cases h0 : k < s
          · have hkC : k < C.length := by have := HCl.out; omega
            have hCr := OM.kept hC4 (fun g hg => by simp only [Option.some.injEq, Addr.mk.injEq, and_true] at hg; subst hg; exact (hbel.block gc hgcw).trans (hb1.block gc hgcw).symm)
            have hok : k / 4 < o.length := by have := hol.out; omega
            have hoc := hO.cell hok
            have hfz := hO.frozen (k / 4)
            have hck := OM.cell hCr (bg_getT? (l := C) (k := k) (by omega))
            simp only [f8T] at hck
            have hs24 : 8 * (k % 4) < 32 := by omega
            have hlow := wd_low hO.b32 (k := k) (by rw [hv.out]; exact Nat.lt_of_lt_of_le (lv_lt _) (Nat.pow_le_pow_right (by omega) (by rw [List.length_take]; omega)))
            obtain ⟨ho1, ho2⟩ := or_shlo (x := (bgT C k).toNat) hs24 hlow
            have e1 := shlo_int (bgT C k).toNat (8 * (k % 4))
            have e3 : bits .or .u32 (wd o (k / 4) : Int) (shlo (bgT C k).toNat (8 * (k % 4)) : Int) = ((wd o (k / 4) + shlo (bgT C k).toNat (8 * (k % 4)) : Nat) : Int) := by
              rw [u32_or_nat _ _ (by have := wd_lt hO.b32 (k / 4); omega) (shlo_lt _ _), ho1]
            have hset := hO.set (k / 4) ho2
            have hstep := Lib.hid (put_step hkC hok hv.out)
            have hbel2 := hbel.setCell (p := ⟨wc.heap.size, k / 4, none⟩) (Nat.le_refl _) (.int .u32 ((wd o (k / 4) + shlo (bgT C k).toNat (8 * (k % 4)) : Nat) : Int))
            go_wp2_with fail
            have e0 : ((bgT C k).toNat : Int) % 4294967296 = ((bgT C k).toNat : Int) := by have := (bgT C k).toNat_lt; omega
            simp only [Int.natCast_add] at hset hbel2 e3
            go_region
            go_wp2_with fail
            go_roundg (s - (k + 1))
            case measure => omega
            case rel => exact ⟨k + 1, _, by omega, rfl, by go_num, hset, by show _ = _; rw [List.length_set]; exact hol.out, hstep, Below.drew hbel2⟩
          · obtain rfl : k = s := by omega
            have hvC : val o = lv C := by have := hv.out; rw [List.take_of_length_le (by rw [HCl.out]; omega)] at this; exact this
            have hOn := hO.norm
            rw [hvC] at hOn
            have hlo : o.length = k / 4 + 1 := hol.out
            have htl := trim_len hO.b32
            rw [hvC] at htl
            have hT := fun w' x => trim_any (some ⟨wc.heap.size, 0, none⟩) (k / 4 + 1) (k / 4 + 1) o w' hlo.symm x
            rw [htl] at hT
            have hle := trimN_le o o.length
            rw [htl, hlo] at hle
            have HVC := Lib.hid hvC
            clear hvC htl hlo h0
            go_wp2_with fail
            refine (int0_any wr).mono ?_; rintro e w5 ⟨A5, c5, D5, d5, A6, c6, D6, d6, rfl, P1, P2, P3, P4, B5⟩
            go_wp2_with fail
            refine (hT _ (st (st hO.rw B5) (bal _ _))).mono ?_; rintro e w' ⟨rfl, rfl⟩
            have B6 := bal w5 (.cells #[.bool (qn 0), .slice (some ⟨wc.heap.size, 0, none⟩) (digs (lv C)).length (k / 4 + 1), .slice D5 (digs (qd 0)).length d5, .bool (qn 0), .slice A6 (digs (qt 0)).length c6, .slice D6 (digs (qd 0)).length d6] 26)
            have hsc := ((((S1.nx BC).nx hbel).nx B5).nx B6)
            have hRC := hsc.rc (n := 6)
            have hbc : w.heap.size < wc.heap.size := (S1.nx BC).2
            have hbr : w.heap.size < wr.heap.size := ((S1.nx BC).nx hbel).2
            go_wp2_with (refine wp_st6 rfl (.tmp 10) (.tmp 88) rfl _ rfl _ _ _ _ _ _ rfl hRC rfl rfl rfl rfl rfl rfl ?_)
            have s6 := hRC.put6 (.bool (qn 0)) (.slice (some ⟨wc.heap.size, 0, none⟩) (digs (lv C)).length (k / 4 + 1)) (.slice D5 (digs (qd 0)).length d5) (.bool (qn 0)) (.slice A6 (digs (qt 0)).length c6) (.slice D6 (digs (qd 0)).length d6)
            have B7 := wr6_below (b := w.heap.size) (bt (bt (bt (bt B1 BC) hbel) B5) B6) (Nat.le_refl _) (.bool (qn 0)) (.slice (some ⟨wc.heap.size, 0, none⟩) (digs (lv C)).length (k / 4 + 1)) (.slice D5 (digs (qd 0)).length d5) (.bool (qn 0)) (.slice A6 (digs (qt 0)).length c6) (.slice D6 (digs (qd 0)).length d6)
            have Oa := ((hOn.below B5 (Nat.le_refl _)).alloc (.cells #[.bool (qn 0), .slice (some ⟨wc.heap.size, 0, none⟩) (digs (lv C)).length (k / 4 + 1), .slice D5 (digs (qd 0)).length d5, .bool (qn 0), .slice A6 (digs (qt 0)).length c6, .slice D6 (digs (qd 0)).length d6] 26)).put6 (b := w.heap.size) hbc (.bool (qn 0)) (.slice (some ⟨wc.heap.size, 0, none⟩) (digs (lv C)).length (k / 4 + 1)) (.slice D5 (digs (qd 0)).length d5) (.bool (qn 0)) (.slice A6 (digs (qt 0)).length c6) (.slice D6 (digs (qd 0)).length d6)
            have Ob := (P2.alloc (.cells #[.bool (qn 0), .slice (some ⟨wc.heap.size, 0, none⟩) (digs (lv C)).length (k / 4 + 1), .slice D5 (digs (qd 0)).length d5, .bool (qn 0), .slice A6 (digs (qt 0)).length c6, .slice D6 (digs (qd 0)).length d6] 26)).put6 (b := w.heap.size) hbr (.bool (qn 0)) (.slice (some ⟨wc.heap.size, 0, none⟩) (digs (lv C)).length (k / 4 + 1)) (.slice D5 (digs (qd 0)).length d5) (.bool (qn 0)) (.slice A6 (digs (qt 0)).length c6) (.slice D6 (digs (qd 0)).length d6)
            have Oc := (P3.alloc (.cells #[.bool (qn 0), .slice (some ⟨wc.heap.size, 0, none⟩) (digs (lv C)).length (k / 4 + 1), .slice D5 (digs (qd 0)).length d5, .bool (qn 0), .slice A6 (digs (qt 0)).length c6, .slice D6 (digs (qd 0)).length d6] 26)).put6 (b := w.heap.size) hbr (.bool (qn 0)) (.slice (some ⟨wc.heap.size, 0, none⟩) (digs (lv C)).length (k / 4 + 1)) (.slice D5 (digs (qd 0)).length d5) (.bool (qn 0)) (.slice A6 (digs (qt 0)).length c6) (.slice D6 (digs (qd 0)).length d6)
            have Od := (P4.alloc (.cells #[.bool (qn 0), .slice (some ⟨wc.heap.size, 0, none⟩) (digs (lv C)).length (k / 4 + 1), .slice D5 (digs (qd 0)).length d5, .bool (qn 0), .slice A6 (digs (qt 0)).length c6, .slice D6 (digs (qd 0)).length d6] 26)).put6 (b := w.heap.size) hbr (.bool (qn 0)) (.slice (some ⟨wc.heap.size, 0, none⟩) (digs (lv C)).length (k / 4 + 1)) (.slice D5 (digs (qd 0)).length d5) (.bool (qn 0)) (.slice A6 (digs (qt 0)).length c6) (.slice D6 (digs (qd 0)).length d6)
            have r0' := s6.cell 0
            have r1' := s6.cell 1
            have r2' := s6.cell 2
            have r3' := s6.cell 3
            have r4' := s6.cell 4
            have r5' := s6.cell 5
            refine bodyPost_ret (v := .tuple #[.agg #[.bool (qn 0), .slice (some ⟨wc.heap.size, 0, none⟩) (digs (lv C)).length (k / 4 + 1), .slice D5 (digs (qd 0)).length d5, .bool (qn 0), .slice A6 (digs (qt 0)).length c6, .slice D6 (digs (qd 0)).length d6], .int .i64 0]) (by simp [results, r0', r1', r2', r3', r4', r5', go_sem]) rfl ?_
            exact ⟨_, _, D5, d5, A6, c6, D6, d6, rfl, Oa.base_le (Nat.le_of_lt hbc), Ob.base_le (Nat.le_of_lt hbr), Oc.base_le (Nat.le_of_lt hbr), Od.base_le (Nat.le_of_lt hbr), B7⟩
      | true =>
        by_cases hng : 128 ≤ (bgT C t).toNat
        · rw [show (true && decide (128 ≤ (bgT C t).toNat)) = true by rw [decide_eq_true hng]; rfl, if_pos rfl, HPW.out, rwq_neg hlt.out]
          go_enter Tryz.func7, Tryz.ntmps7
          go_wp2_with fail
          refine hin.mono ?_; rintro e w' ⟨rfl, rfl⟩
          go_wp2_with fail
          refine hcl.mono ?_; rintro e w2 ⟨A2, c2, rfl, O2, B2⟩
          obtain ⟨wc, hwc⟩ : ∃ wc, wc = w2 := ⟨_, rfl⟩
          subst hwc
          have hC : OBT wc (w.alloc (.cells #[.bool false, .slice none 0 0, .slice none 0 0, .bool false, .slice none 0 0, .slice none 0 0] 26)).heap.size A2 c2 C := by rw [HC.out]; exact O2
          have BC := B2
          rcases OM.form hC with ⟨_, _, he⟩ | ⟨gc, rfl, hgc, _, _⟩
          · exact absurd (by rw [← HCl.out, he]; rfl) (show ¬ s = 0 by omega)
          clear O2
          have hct := OM.cell hC (bg_getT? (l := C) (k := t) (by have := HCl.out; omega))
          simp only [f8T] at hct
          have hxt := (bgT C t).toNat_lt
          go_wp2_with (at_make; refine wp_makeW _ rfl _ _ rfl .i64 .i64 _ _ (s / 4 + 1) rfl rfl (by omega) (by omega) (by omega) ?_; intro w4 hO1 hb1 hs1)
          clear hct hxt
          have hC4 : OBT w4 (w.alloc (.cells #[.bool false, .slice none 0 0, .slice none 0 0, .bool false, .slice none 0 0, .slice none 0 0] 26)).heap.size (some ⟨gc, 0, none⟩) c2 C := OM.below hC hb1 (Nat.le_refl _)
          have hgcw : gc < wc.heap.size := (OM.lt hC).2
          clear hC
          go_loopg [49] s (fun gg iv wr => ∃ (k : Nat) (o : List Nat), k ≤ s ∧ s - k = gg ∧ iv = .int .i64 (k : Int) ∧ OW wr wc.heap.size (some ⟨wc.heap.size, 0, none⟩) (s / 4 + 1) o ∧ Hid (o.length = s / 4 + 1) ∧ Hid (val o = lv (C.take k)) ∧ Below wc.heap.size wc wr)
          case atStart => exact ⟨0, _, Nat.zero_le _, rfl, rfl, hO1, by show _ = _; simp, by show _ = _; rw [val_replicate]; rfl, hb1⟩
          case round =>
            obtain ⟨k, o, hk, rfl, rfl, hO, hol, hv, hbel⟩ := hrel
            by_cases h0 : k < s
            · have hkC : k < C.length := by have := HCl.out; omega
              have hCr := OM.kept hC4 (fun g hg => by simp only [Option.some.injEq, Addr.mk.injEq, and_true] at hg; subst hg; exact (hbel.block gc hgcw).trans (hb1.block gc hgcw).symm)
              have hok : k / 4 < o.length := by have := hol.out; omega
              have hoc := hO.cell hok
              have hfz := hO.frozen (k / 4)
              have hck := OM.cell hCr (bg_getT? (l := C) (k := k) (by omega))
              simp only [f8T] at hck
              have hs24 : 8 * (k % 4) < 32 := by omega
              have hlow := wd_low hO.b32 (k := k) (by rw [hv.out]; exact Nat.lt_of_lt_of_le (lv_lt _) (Nat.pow_le_pow_right (by omega) (by rw [List.length_take]; omega)))
              obtain ⟨ho1, ho2⟩ := or_shlo (x := (bgT C k).toNat) hs24 hlow
              have e1 := shlo_int (bgT C k).toNat (8 * (k % 4))
              have e3 : bits .or .u32 (wd o (k / 4) : Int) (shlo (bgT C k).toNat (8 * (k % 4)) : Int) = ((wd o (k / 4) + shlo (bgT C k).toNat (8 * (k % 4)) : Nat) : Int) := by
                rw [u32_or_nat _ _ (by have := wd_lt hO.b32 (k / 4); omega) (shlo_lt _ _), ho1]
              have hset := hO.set (k / 4) ho2
              have hstep := Lib.hid (put_step hkC hok hv.out)
              have hbel2 := hbel.setCell (p := ⟨wc.heap.size, k / 4, none⟩) (Nat.le_refl _) (.int .u32 ((wd o (k / 4) + shlo (bgT C k).toNat (8 * (k % 4)) : Nat) : Int))
              go_wp2_with fail
              have e0 : ((bgT C k).toNat : Int) % 4294967296 = ((bgT C k).toNat : Int) := by have := (bgT C k).toNat_lt; omega
              simp only [Int.natCast_add] at hset hbel2 e3
              go_region
              go_wp2_with fail
              go_roundg (s - (k + 1))
              case measure => omega
              case rel => exact ⟨k + 1, _, by omega, rfl, by go_num, hset, by show _ = _; rw [List.length_set]; exact hol.out, hstep, Below.drew hbel2⟩
            · obtain rfl : k = s := by omega
              have hvC : val o = lv C := by have := hv.out; rw [List.take_of_length_le (by rw [HCl.out]; omega)] at this; exact this
              have hOn := hO.norm
              rw [hvC] at hOn
              have hlo : o.length = k / 4 + 1 := hol.out
              have htl := trim_len hO.b32
              rw [hvC] at htl
              have hT := fun w' x => trim_any (some ⟨wc.heap.size, 0, none⟩) (k / 4 + 1) (k / 4 + 1) o w' hlo.symm x
              rw [htl] at hT
              have hle := trimN_le o o.length
              rw [htl, hlo] at hle
              have HVC := Lib.hid hvC
              clear hvC htl hlo h0
              go_wp2_with fail
              refine (int0_any wr).mono ?_; rintro e w5 ⟨A5, c5, D5, d5, A6, c6, D6, d6, rfl, P1, P2, P3, P4, B5⟩
              go_wp2_with fail
              refine (hT _ (st (st hO.rw B5) (bal _ _))).mono ?_; rintro e w' ⟨rfl, rfl⟩
              have B6 := bal w5 (.cells #[.bool (qn 0), .slice (some ⟨wc.heap.size, 0, none⟩) (digs (lv C)).length (k / 4 + 1), .slice D5 (digs (qd 0)).length d5, .bool (qn 0), .slice A6 (digs (qt 0)).length c6, .slice D6 (digs (qd 0)).length d6] 26)
              have hsc := ((((S1.nx BC).nx hbel).nx B5).nx B6)
              have hRC := hsc.rc (n := 6)
              have hbc : w.heap.size < wc.heap.size := (S1.nx BC).2
              have hbr : w.heap.size < wr.heap.size := ((S1.nx BC).nx hbel).2
              have S17 := SB.new w5 [.bool (qn 0), .slice (some ⟨wc.heap.size, 0, none⟩) (digs (lv C)).length (k / 4 + 1), .slice D5 (digs (qd 0)).length d5, .bool (qn 0), .slice A6 (digs (qt 0)).length c6, .slice D6 (digs (qd 0)).length d6] 26
              have z5 : (w5.alloc (.cells #[.bool (qn 0), .slice (some ⟨wc.heap.size, 0, none⟩) (digs (lv C)).length (k / 4 + 1), .slice D5 (digs (qd 0)).length d5, .bool (qn 0), .slice A6 (digs (qt 0)).length c6, .slice D6 (digs (qd 0)).length d6] 26)).heap.size = w5.heap.size + 1 := by simp
              obtain ⟨W6, hW6⟩ : ∃ W6, W6 = w5.alloc (.cells #[.bool (qn 0), .slice (some ⟨wc.heap.size, 0, none⟩) (digs (lv C)).length (k / 4 + 1), .slice D5 (digs (qd 0)).length d5, .bool (qn 0), .slice A6 (digs (qt 0)).length c6, .slice D6 (digs (qd 0)).length d6] 26) := ⟨_, rfl⟩
              have ew : IntKind.i64.wrap (8 * (k : Int)) = 8 * (k : Int) := IntWalk.i64_in _ (by omega)
              have RT6 : RW W6 W6.heap.size (some ⟨wc.heap.size, 0, none⟩) (k / 4 + 1) (digs (lv C)) := by rw [hW6]; exact st (st hOn.rw B5) B6
              rw [← hW6] at S17 B6 hsc hRC z5
              have BU := Below.drew (bal W6 (.cells #[.int .u32 (1 : Nat)] 55))
              have RU := (RW.one W6 55 (show 1 < 4294967296 by omega)).step (Below.drew (Below.refl _ _)) (Nat.le_refl _)
              have hU := up_any (some ⟨W6.heap.size, 0, none⟩) 1 1 [1] ((W6.alloc (.cells #[.int .u32 (1 : Nat)] 55)).drew) (8 * k) (by omega) rfl (RU.more (by show _ ≤ (W6.alloc _).heap.size; simp <;> omega)) (by simp)
              rw [val_one, Nat.one_mul, ← pow8, HPn.out, show ((8 * k : Nat) : Int) = 8 * (k : Int) by omega] at hU
              have SU := S17.nx BU
              have RTU := st RT6 BU
              have hL := fun A7 c7 w' x y => less_any A7 (some ⟨wc.heap.size, 0, none⟩) c7 (k / 4 + 1) _ _ (digs PW) (digs (lv C)) w' rfl rfl x y (digs_mono (Nat.le_of_lt hlt.out)) (by rw [val_digs, val_digs]; exact Nat.le_of_lt hlt.out)
              simp only [val_digs] at hL
              have hRU := hRC.nx BU
              have BU2 := bt (bt (bt (bt B1 BC) hbel) B5) (bt B6 BU)
              have m0 := SU.cell 0
              have m1 := SU.cell 1
              have x0 := S17.cell 0
              have x1 := S17.cell 1
              have y1 : (W6.alloc (.cells #[.int .u32 (1 : Int)] 55)).cell? ⟨w5.heap.size, 1, none⟩ = _ := (S17.nx (bal W6 _)).cell 1
              clear S17 hRC hsc
              go_wp2_with fail
              try rw [← hW6]
              clear hW6 z5
              go_region_with (first | (go_at_call 26; refine hU.mono ?_; rintro e w7 ⟨A7, c7, rfl, O7, B7⟩; have S7 := SU.nx B7; have q1 := S7.cell 1) | (go_at_call 25; refine (hL A7 c7 w7 O7.rw (st RTU B7)).mono ?_; rintro e w8 ⟨A8, c8, rfl, O8, B8⟩; have S8 := S7.nx B8; have p0 := S8.cell 0; have p1 := S8.cell 1; have f0 := S8.frozen 0; have f1 := S8.frozen 1))
              all_goals
                have BF := ((bt (bt (bt B6 BU) B7) B8).setCell (p := ⟨w5.heap.size, 0, none⟩) (Nat.le_refl _) (.bool true)).setCell (p := ⟨w5.heap.size, 1, none⟩) (Nat.le_refl _) (.slice A8 (digs (PW - lv C)).length c8)
                have h57 : w5.heap.size < w7.heap.size := (SU.nx B7).2
                have hn8 : ∀ g, A8 = some ⟨g, 0, none⟩ → g ≠ w5.heap.size := fun g hg => by subst hg; have := O8.lt.1; omega
                have OT := (O8.far (p := ⟨w5.heap.size, 0, none⟩) hn8 (.bool true)).far (p := ⟨w5.heap.size, 1, none⟩) hn8 (.slice A8 (digs (PW - lv C)).length c8)
                have P2f := P2.below BF (Nat.le_refl _)
                have P3f := P3.below BF (Nat.le_refl _)
                have P4f := P4.below BF (Nat.le_refl _)
                have S9 := (S8.set 0 (.bool true)).set 1 (.slice A8 (digs (PW - lv C)).length c8)
                have q0 := S9.cell 0
                have q1 := S9.cell 1
                have q2 := S9.cell 2
                have q3 := S9.cell 3
                have q4 := S9.cell 4
                have q5 := S9.cell 5
                have hb5 : w.heap.size < w5.heap.size := (((S1.nx BC).nx hbel).nx B5).2
                have hRC := ((((hRU.nx B7).nx B8).sb.far (p := ⟨w5.heap.size, 0, none⟩) (by show _ ≠ w5.heap.size; omega) (.bool true)).far (p := ⟨w5.heap.size, 1, none⟩) (by show _ ≠ w5.heap.size; omega) (.slice A8 (digs (PW - lv C)).length c8)).rc (n := 6) (by simp)
                clear S7 S8 S9 SU p0 p1 f0 f1
                go_wp2_with (refine wp_st6 rfl (.tmp 10) (.tmp 88) rfl _ rfl _ _ _ _ _ _ rfl hRC rfl rfl rfl rfl rfl rfl ?_)
                have s6 := hRC.put6 (.bool true) (.slice A8 (digs (PW - lv C)).length c8) (.slice D5 (digs (qd 0)).length d5) (.bool (qn 0)) (.slice A6 (digs (qt 0)).length c6) (.slice D6 (digs (qd 0)).length d6)
                have BZ := wr6_below (b := w.heap.size) (bt (bt (bt (bt B1 BC) hbel) B5) BF) (Nat.le_refl _) (.bool true) (.slice A8 (digs (PW - lv C)).length c8) (.slice D5 (digs (qd 0)).length d5) (.bool (qn 0)) (.slice A6 (digs (qt 0)).length c6) (.slice D6 (digs (qd 0)).length d6)
                have Oa := OT.put6 (b := w.heap.size) (by omega) (.bool true) (.slice A8 (digs (PW - lv C)).length c8) (.slice D5 (digs (qd 0)).length d5) (.bool (qn 0)) (.slice A6 (digs (qt 0)).length c6) (.slice D6 (digs (qd 0)).length d6)
                have Ob := P2f.put6 (b := w.heap.size) hbr (.bool true) (.slice A8 (digs (PW - lv C)).length c8) (.slice D5 (digs (qd 0)).length d5) (.bool (qn 0)) (.slice A6 (digs (qt 0)).length c6) (.slice D6 (digs (qd 0)).length d6)
                have Oc := P3f.put6 (b := w.heap.size) hbr (.bool true) (.slice A8 (digs (PW - lv C)).length c8) (.slice D5 (digs (qd 0)).length d5) (.bool (qn 0)) (.slice A6 (digs (qt 0)).length c6) (.slice D6 (digs (qd 0)).length d6)
                have Od := P4f.put6 (b := w.heap.size) hbr (.bool true) (.slice A8 (digs (PW - lv C)).length c8) (.slice D5 (digs (qd 0)).length d5) (.bool (qn 0)) (.slice A6 (digs (qt 0)).length c6) (.slice D6 (digs (qd 0)).length d6)
                have r0' := s6.cell 0
                have r1' := s6.cell 1
                have r2' := s6.cell 2
                have r3' := s6.cell 3
                have r4' := s6.cell 4
                have r5' := s6.cell 5
                refine bodyPost_ret (v := .tuple #[.agg #[.bool true, .slice A8 (digs (PW - lv C)).length c8, .slice D5 (digs (qd 0)).length d5, .bool (qn 0), .slice A6 (digs (qt 0)).length c6, .slice D6 (digs (qd 0)).length d6], .int .i64 0]) (by simp [results, r0', r1', r2', r3', r4', r5', go_sem]) rfl ?_
                have hle7 : w.heap.size ≤ w7.heap.size := by omega
                exact ⟨A8, c8, D5, d5, A6, c6, D6, d6, rfl, Oa.base_le hle7, Ob.base_le (Nat.le_of_lt hbr), Oc.base_le (Nat.le_of_lt hbr), Od.base_le (Nat.le_of_lt hbr), BZ⟩
        · rw [show (true && decide (128 ≤ (bgT C t).toNat)) = false by rw [decide_eq_false hng]; rfl, if_neg (by simp), rwq_pos]
          go_enter Tryz.func7, Tryz.ntmps7
          go_wp2_with fail
          refine hin.mono ?_; rintro e w' ⟨rfl, rfl⟩
          go_wp2_with fail
          refine hcl.mono ?_; rintro e w2 ⟨A2, c2, rfl, O2, B2⟩
          obtain ⟨wc, hwc⟩ : ∃ wc, wc = w2 := ⟨_, rfl⟩
          subst hwc
          have hC : OBT wc (w.alloc (.cells #[.bool false, .slice none 0 0, .slice none 0 0, .bool false, .slice none 0 0, .slice none 0 0] 26)).heap.size A2 c2 C := by rw [HC.out]; exact O2
          have BC := B2
          rcases OM.form hC with ⟨_, _, he⟩ | ⟨gc, rfl, hgc, _, _⟩
          · exact absurd (by rw [← HCl.out, he]; rfl) (show ¬ s = 0 by omega)
          clear O2
          have hct := OM.cell hC (bg_getT? (l := C) (k := t) (by have := HCl.out; omega))
          simp only [f8T] at hct
          have hxt := (bgT C t).toNat_lt
          go_wp2_with (at_make; refine wp_makeW _ rfl _ _ rfl .i64 .i64 _ _ (s / 4 + 1) rfl rfl (by omega) (by omega) (by omega) ?_; intro w4 hO1 hb1 hs1)
          clear hct hxt
          have hC4 : OBT w4 (w.alloc (.cells #[.bool false, .slice none 0 0, .slice none 0 0, .bool false, .slice none 0 0, .slice none 0 0] 26)).heap.size (some ⟨gc, 0, none⟩) c2 C := OM.below hC hb1 (Nat.le_refl _)
          have hgcw : gc < wc.heap.size := (OM.lt hC).2
          clear hC
          go_loopg [49] s (fun gg iv wr => ∃ (k : Nat) (o : List Nat), k ≤ s ∧ s - k = gg ∧ iv = .int .i64 (k : Int) ∧ OW wr wc.heap.size (some ⟨wc.heap.size, 0, none⟩) (s / 4 + 1) o ∧ Hid (o.length = s / 4 + 1) ∧ Hid (val o = lv (C.take k)) ∧ Below wc.heap.size wc wr)
          case atStart => exact ⟨0, _, Nat.zero_le _, rfl, rfl, hO1, by show _ = _; simp, by show _ = _; rw [val_replicate]; rfl, hb1⟩
          case round =>
            obtain ⟨k, o, hk, rfl, rfl, hO, hol, hv, hbel⟩ := hrel
            by_cases h0 : k < s
            · have hkC : k < C.length := by have := HCl.out; omega
              have hCr := OM.kept hC4 (fun g hg => by simp only [Option.some.injEq, Addr.mk.injEq, and_true] at hg; subst hg; exact (hbel.block gc hgcw).trans (hb1.block gc hgcw).symm)
              have hok : k / 4 < o.length := by have := hol.out; omega
              have hoc := hO.cell hok
              have hfz := hO.frozen (k / 4)
              have hck := OM.cell hCr (bg_getT? (l := C) (k := k) (by omega))
              simp only [f8T] at hck
              have hs24 : 8 * (k % 4) < 32 := by omega
              have hlow := wd_low hO.b32 (k := k) (by rw [hv.out]; exact Nat.lt_of_lt_of_le (lv_lt _) (Nat.pow_le_pow_right (by omega) (by rw [List.length_take]; omega)))
              obtain ⟨ho1, ho2⟩ := or_shlo (x := (bgT C k).toNat) hs24 hlow
              have e1 := shlo_int (bgT C k).toNat (8 * (k % 4))
              have e3 : bits .or .u32 (wd o (k / 4) : Int) (shlo (bgT C k).toNat (8 * (k % 4)) : Int) = ((wd o (k / 4) + shlo (bgT C k).toNat (8 * (k % 4)) : Nat) : Int) := by
                rw [u32_or_nat _ _ (by have := wd_lt hO.b32 (k / 4); omega) (shlo_lt _ _), ho1]
              have hset := hO.set (k / 4) ho2
              have hstep := Lib.hid (put_step hkC hok hv.out)
              have hbel2 := hbel.setCell (p := ⟨wc.heap.size, k / 4, none⟩) (Nat.le_refl _) (.int .u32 ((wd o (k / 4) + shlo (bgT C k).toNat (8 * (k % 4)) : Nat) : Int))
              go_wp2_with fail
              have e0 : ((bgT C k).toNat : Int) % 4294967296 = ((bgT C k).toNat : Int) := by have := (bgT C k).toNat_lt; omega
              simp only [Int.natCast_add] at hset hbel2 e3
              go_region
              go_wp2_with fail
              go_roundg (s - (k + 1))
              case measure => omega
              case rel => exact ⟨k + 1, _, by omega, rfl, by go_num, hset, by show _ = _; rw [List.length_set]; exact hol.out, hstep, Below.drew hbel2⟩
            · obtain rfl : k = s := by omega
              have hvC : val o = lv C := by have := hv.out; rw [List.take_of_length_le (by rw [HCl.out]; omega)] at this; exact this
              have hOn := hO.norm
              rw [hvC] at hOn
              have hlo : o.length = k / 4 + 1 := hol.out
              have htl := trim_len hO.b32
              rw [hvC] at htl
              have hT := fun w' x => trim_any (some ⟨wc.heap.size, 0, none⟩) (k / 4 + 1) (k / 4 + 1) o w' hlo.symm x
              rw [htl] at hT
              have hle := trimN_le o o.length
              rw [htl, hlo] at hle
              have HVC := Lib.hid hvC
              clear hvC htl hlo h0
              go_wp2_with fail
              refine (int0_any wr).mono ?_; rintro e w5 ⟨A5, c5, D5, d5, A6, c6, D6, d6, rfl, P1, P2, P3, P4, B5⟩
              go_wp2_with fail
              refine (hT _ (st (st hO.rw B5) (bal _ _))).mono ?_; rintro e w' ⟨rfl, rfl⟩
              have B6 := bal w5 (.cells #[.bool (qn 0), .slice (some ⟨wc.heap.size, 0, none⟩) (digs (lv C)).length (k / 4 + 1), .slice D5 (digs (qd 0)).length d5, .bool (qn 0), .slice A6 (digs (qt 0)).length c6, .slice D6 (digs (qd 0)).length d6] 26)
              have hsc := ((((S1.nx BC).nx hbel).nx B5).nx B6)
              have hRC := hsc.rc (n := 6)
              have hbc : w.heap.size < wc.heap.size := (S1.nx BC).2
              have hbr : w.heap.size < wr.heap.size := ((S1.nx BC).nx hbel).2
              go_wp2_with (refine wp_st6 rfl (.tmp 10) (.tmp 88) rfl _ rfl _ _ _ _ _ _ rfl hRC rfl rfl rfl rfl rfl rfl ?_)
              have s6 := hRC.put6 (.bool (qn 0)) (.slice (some ⟨wc.heap.size, 0, none⟩) (digs (lv C)).length (k / 4 + 1)) (.slice D5 (digs (qd 0)).length d5) (.bool (qn 0)) (.slice A6 (digs (qt 0)).length c6) (.slice D6 (digs (qd 0)).length d6)
              have B7 := wr6_below (b := w.heap.size) (bt (bt (bt (bt B1 BC) hbel) B5) B6) (Nat.le_refl _) (.bool (qn 0)) (.slice (some ⟨wc.heap.size, 0, none⟩) (digs (lv C)).length (k / 4 + 1)) (.slice D5 (digs (qd 0)).length d5) (.bool (qn 0)) (.slice A6 (digs (qt 0)).length c6) (.slice D6 (digs (qd 0)).length d6)
              have Oa := ((hOn.below B5 (Nat.le_refl _)).alloc (.cells #[.bool (qn 0), .slice (some ⟨wc.heap.size, 0, none⟩) (digs (lv C)).length (k / 4 + 1), .slice D5 (digs (qd 0)).length d5, .bool (qn 0), .slice A6 (digs (qt 0)).length c6, .slice D6 (digs (qd 0)).length d6] 26)).put6 (b := w.heap.size) hbc (.bool (qn 0)) (.slice (some ⟨wc.heap.size, 0, none⟩) (digs (lv C)).length (k / 4 + 1)) (.slice D5 (digs (qd 0)).length d5) (.bool (qn 0)) (.slice A6 (digs (qt 0)).length c6) (.slice D6 (digs (qd 0)).length d6)
              have Ob := (P2.alloc (.cells #[.bool (qn 0), .slice (some ⟨wc.heap.size, 0, none⟩) (digs (lv C)).length (k / 4 + 1), .slice D5 (digs (qd 0)).length d5, .bool (qn 0), .slice A6 (digs (qt 0)).length c6, .slice D6 (digs (qd 0)).length d6] 26)).put6 (b := w.heap.size) hbr (.bool (qn 0)) (.slice (some ⟨wc.heap.size, 0, none⟩) (digs (lv C)).length (k / 4 + 1)) (.slice D5 (digs (qd 0)).length d5) (.bool (qn 0)) (.slice A6 (digs (qt 0)).length c6) (.slice D6 (digs (qd 0)).length d6)
              have Oc := (P3.alloc (.cells #[.bool (qn 0), .slice (some ⟨wc.heap.size, 0, none⟩) (digs (lv C)).length (k / 4 + 1), .slice D5 (digs (qd 0)).length d5, .bool (qn 0), .slice A6 (digs (qt 0)).length c6, .slice D6 (digs (qd 0)).length d6] 26)).put6 (b := w.heap.size) hbr (.bool (qn 0)) (.slice (some ⟨wc.heap.size, 0, none⟩) (digs (lv C)).length (k / 4 + 1)) (.slice D5 (digs (qd 0)).length d5) (.bool (qn 0)) (.slice A6 (digs (qt 0)).length c6) (.slice D6 (digs (qd 0)).length d6)
              have Od := (P4.alloc (.cells #[.bool (qn 0), .slice (some ⟨wc.heap.size, 0, none⟩) (digs (lv C)).length (k / 4 + 1), .slice D5 (digs (qd 0)).length d5, .bool (qn 0), .slice A6 (digs (qt 0)).length c6, .slice D6 (digs (qd 0)).length d6] 26)).put6 (b := w.heap.size) hbr (.bool (qn 0)) (.slice (some ⟨wc.heap.size, 0, none⟩) (digs (lv C)).length (k / 4 + 1)) (.slice D5 (digs (qd 0)).length d5) (.bool (qn 0)) (.slice A6 (digs (qt 0)).length c6) (.slice D6 (digs (qd 0)).length d6)
              have r0' := s6.cell 0
              have r1' := s6.cell 1
              have r2' := s6.cell 2
              have r3' := s6.cell 3
              have r4' := s6.cell 4
              have r5' := s6.cell 5
              refine bodyPost_ret (v := .tuple #[.agg #[.bool (qn 0), .slice (some ⟨wc.heap.size, 0, none⟩) (digs (lv C)).length (k / 4 + 1), .slice D5 (digs (qd 0)).length d5, .bool (qn 0), .slice A6 (digs (qt 0)).length c6, .slice D6 (digs (qd 0)).length d6], .int .i64 0]) (by simp [results, r0', r1', r2', r3', r4', r5', go_sem]) rfl ?_
              exact ⟨_, _, D5, d5, A6, c6, D6, d6, rfl, Oa.base_le (Nat.le_of_lt hbc), Ob.base_le (Nat.le_of_lt hbr), Oc.base_le (Nat.le_of_lt hbr), Od.base_le (Nat.le_of_lt hbr), B7⟩
    | true =>
      obtain ⟨C, hC⟩ : ∃ C, C = ((l.drop a).take s).reverse := ⟨_, rfl⟩
      rw [show leB l a s true = C by rw [hC]; rfl]
      have HC := Lib.hid hC
      have HCl : Hid (C.length = s) := by show _ = _; rw [hC, List.length_reverse]; exact hls.out
      have hlt : Hid (lv C < PW) := by show _ < _; rw [← HPn.out, ← HCl.out]; exact lv_lt C
      clear hC
      cases signed with
      | false =>
        rw [show (false && decide (128 ≤ (bgT C t).toNat)) = false from rfl, if_neg (by simp), rwq_pos]
        go_enter Tryz.func7, Tryz.ntmps7
        go_wp2_with fail
        refine hin.mono ?_; rintro e w' ⟨rfl, rfl⟩
        go_wp2_with fail
        refine hcl.mono ?_; rintro e w2 ⟨A2, c2, rfl, O2, B2⟩
        go_wp2_with fail
        refine (reverse_anyT A2 c2 s _ w2 _ hls.out.symm O2).mono ?_; rintro e wc ⟨rfl, O3, B3⟩
        have hC : OBT wc (w.alloc (.cells #[.bool false, .slice none 0 0, .slice none 0 0, .bool false, .slice none 0 0, .slice none 0 0] 26)).heap.size A2 c2 C := by rw [HC.out]; exact O3
        have BC := B2.trans B3
        rcases OM.form hC with ⟨_, _, he⟩ | ⟨gc, rfl, hgc, _, _⟩
        · exact absurd (by rw [← HCl.out, he]; rfl) (show ¬ s = 0 by omega)
        clear O2
        go_wp2_with (at_make; refine wp_makeW _ rfl _ _ rfl .i64 .i64 _ _ (s / 4 + 1) rfl rfl (by omega) (by omega) (by omega) ?_; intro w4 hO1 hb1 hs1)
        have hC4 : OBT w4 (w.alloc (.cells #[.bool false, .slice none 0 0, .slice none 0 0, .bool false, .slice none 0 0, .slice none 0 0] 26)).heap.size (some ⟨gc, 0, none⟩) c2 C := OM.below hC hb1 (Nat.le_refl _)
        have hgcw : gc < wc.heap.size := (OM.lt hC).2
        clear hC
        go_loopg [49] s (fun gg iv wr => ∃ (k : Nat) (o : List Nat), k ≤ s ∧ s - k = gg ∧ iv = .int .i64 (k : Int) ∧ OW wr wc.heap.size (some ⟨wc.heap.size, 0, none⟩) (s / 4 + 1) o ∧ Hid (o.length = s / 4 + 1) ∧ Hid (val o = lv (C.take k)) ∧ Below wc.heap.size wc wr)
        case atStart => exact ⟨0, _, Nat.zero_le _, rfl, rfl, hO1, by show _ = _; simp, by show _ = _; rw [val_replicate]; rfl, hb1⟩
        case round =>
          obtain ⟨k, o, hk, rfl, rfl, hO, hol, hv, hbel⟩ := hrel
          by_cases h0 : k < s
          · have hkC : k < C.length := by have := HCl.out; omega
            have hCr := OM.kept hC4 (fun g hg => by simp only [Option.some.injEq, Addr.mk.injEq, and_true] at hg; subst hg; exact (hbel.block gc hgcw).trans (hb1.block gc hgcw).symm)
            have hok : k / 4 < o.length := by have := hol.out; omega
            have hoc := hO.cell hok
            have hfz := hO.frozen (k / 4)
            have hck := OM.cell hCr (bg_getT? (l := C) (k := k) (by omega))
            simp only [f8T] at hck
            have hs24 : 8 * (k % 4) < 32 := by omega
            have hlow := wd_low hO.b32 (k := k) (by rw [hv.out]; exact Nat.lt_of_lt_of_le (lv_lt _) (Nat.pow_le_pow_right (by omega) (by rw [List.length_take]; omega)))
            obtain ⟨ho1, ho2⟩ := or_shlo (x := (bgT C k).toNat) hs24 hlow
            have e1 := shlo_int (bgT C k).toNat (8 * (k % 4))
            have e3 : bits .or .u32 (wd o (k / 4) : Int) (shlo (bgT C k).toNat (8 * (k % 4)) : Int) = ((wd o (k / 4) + shlo (bgT C k).toNat (8 * (k % 4)) : Nat) : Int) := by
              rw [u32_or_nat _ _ (by have := wd_lt hO.b32 (k / 4); omega) (shlo_lt _ _), ho1]
            have hset := hO.set (k / 4) ho2
            have hstep := Lib.hid (put_step hkC hok hv.out)
            have hbel2 := hbel.setCell (p := ⟨wc.heap.size, k / 4, none⟩) (Nat.le_refl _) (.int .u32 ((wd o (k / 4) + shlo (bgT C k).toNat (8 * (k % 4)) : Nat) : Int))
            go_wp2_with fail
            have e0 : ((bgT C k).toNat : Int) % 4294967296 = ((bgT C k).toNat : Int) := by have := (bgT C k).toNat_lt; omega
            simp only [Int.natCast_add] at hset hbel2 e3
            go_region
            go_wp2_with fail
            go_roundg (s - (k + 1))
            case measure => omega
            case rel => exact ⟨k + 1, _, by omega, rfl, by go_num, hset, by show _ = _; rw [List.length_set]; exact hol.out, hstep, Below.drew hbel2⟩
          · obtain rfl : k = s := by omega
            have hvC : val o = lv C := by have := hv.out; rw [List.take_of_length_le (by rw [HCl.out]; omega)] at this; exact this
            have hOn := hO.norm
            rw [hvC] at hOn
            have hlo : o.length = k / 4 + 1 := hol.out
            have htl := trim_len hO.b32
            rw [hvC] at htl
            have hT := fun w' x => trim_any (some ⟨wc.heap.size, 0, none⟩) (k / 4 + 1) (k / 4 + 1) o w' hlo.symm x
            rw [htl] at hT
            have hle := trimN_le o o.length
            rw [htl, hlo] at hle
            have HVC := Lib.hid hvC
            clear hvC htl hlo h0
            go_wp2_with fail
            refine (int0_any wr).mono ?_; rintro e w5 ⟨A5, c5, D5, d5, A6, c6, D6, d6, rfl, P1, P2, P3, P4, B5⟩
            go_wp2_with fail
            refine (hT _ (st (st hO.rw B5) (bal _ _))).mono ?_; rintro e w' ⟨rfl, rfl⟩
            have B6 := bal w5 (.cells #[.bool (qn 0), .slice (some ⟨wc.heap.size, 0, none⟩) (digs (lv C)).length (k / 4 + 1), .slice D5 (digs (qd 0)).length d5, .bool (qn 0), .slice A6 (digs (qt 0)).length c6, .slice D6 (digs (qd 0)).length d6] 26)
            have hsc := ((((S1.nx BC).nx hbel).nx B5).nx B6)
            have hRC := hsc.rc (n := 6)
            have hbc : w.heap.size < wc.heap.size := (S1.nx BC).2
            have hbr : w.heap.size < wr.heap.size := ((S1.nx BC).nx hbel).2
            go_wp2_with (refine wp_st6 rfl (.tmp 10) (.tmp 88) rfl _ rfl _ _ _ _ _ _ rfl hRC rfl rfl rfl rfl rfl rfl ?_)
            have s6 := hRC.put6 (.bool (qn 0)) (.slice (some ⟨wc.heap.size, 0, none⟩) (digs (lv C)).length (k / 4 + 1)) (.slice D5 (digs (qd 0)).length d5) (.bool (qn 0)) (.slice A6 (digs (qt 0)).length c6) (.slice D6 (digs (qd 0)).length d6)
            have B7 := wr6_below (b := w.heap.size) (bt (bt (bt (bt B1 BC) hbel) B5) B6) (Nat.le_refl _) (.bool (qn 0)) (.slice (some ⟨wc.heap.size, 0, none⟩) (digs (lv C)).length (k / 4 + 1)) (.slice D5 (digs (qd 0)).length d5) (.bool (qn 0)) (.slice A6 (digs (qt 0)).length c6) (.slice D6 (digs (qd 0)).length d6)
            have Oa := ((hOn.below B5 (Nat.le_refl _)).alloc (.cells #[.bool (qn 0), .slice (some ⟨wc.heap.size, 0, none⟩) (digs (lv C)).length (k / 4 + 1), .slice D5 (digs (qd 0)).length d5, .bool (qn 0), .slice A6 (digs (qt 0)).length c6, .slice D6 (digs (qd 0)).length d6] 26)).put6 (b := w.heap.size) hbc (.bool (qn 0)) (.slice (some ⟨wc.heap.size, 0, none⟩) (digs (lv C)).length (k / 4 + 1)) (.slice D5 (digs (qd 0)).length d5) (.bool (qn 0)) (.slice A6 (digs (qt 0)).length c6) (.slice D6 (digs (qd 0)).length d6)
            have Ob := (P2.alloc (.cells #[.bool (qn 0), .slice (some ⟨wc.heap.size, 0, none⟩) (digs (lv C)).length (k / 4 + 1), .slice D5 (digs (qd 0)).length d5, .bool (qn 0), .slice A6 (digs (qt 0)).length c6, .slice D6 (digs (qd 0)).length d6] 26)).put6 (b := w.heap.size) hbr (.bool (qn 0)) (.slice (some ⟨wc.heap.size, 0, none⟩) (digs (lv C)).length (k / 4 + 1)) (.slice D5 (digs (qd 0)).length d5) (.bool (qn 0)) (.slice A6 (digs (qt 0)).length c6) (.slice D6 (digs (qd 0)).length d6)
            have Oc := (P3.alloc (.cells #[.bool (qn 0), .slice (some ⟨wc.heap.size, 0, none⟩) (digs (lv C)).length (k / 4 + 1), .slice D5 (digs (qd 0)).length d5, .bool (qn 0), .slice A6 (digs (qt 0)).length c6, .slice D6 (digs (qd 0)).length d6] 26)).put6 (b := w.heap.size) hbr (.bool (qn 0)) (.slice (some ⟨wc.heap.size, 0, none⟩) (digs (lv C)).length (k / 4 + 1)) (.slice D5 (digs (qd 0)).length d5) (.bool (qn 0)) (.slice A6 (digs (qt 0)).length c6) (.slice D6 (digs (qd 0)).length d6)
            have Od := (P4.alloc (.cells #[.bool (qn 0), .slice (some ⟨wc.heap.size, 0, none⟩) (digs (lv C)).length (k / 4 + 1), .slice D5 (digs (qd 0)).length d5, .bool (qn 0), .slice A6 (digs (qt 0)).length c6, .slice D6 (digs (qd 0)).length d6] 26)).put6 (b := w.heap.size) hbr (.bool (qn 0)) (.slice (some ⟨wc.heap.size, 0, none⟩) (digs (lv C)).length (k / 4 + 1)) (.slice D5 (digs (qd 0)).length d5) (.bool (qn 0)) (.slice A6 (digs (qt 0)).length c6) (.slice D6 (digs (qd 0)).length d6)
            have r0' := s6.cell 0
            have r1' := s6.cell 1
            have r2' := s6.cell 2
            have r3' := s6.cell 3
            have r4' := s6.cell 4
            have r5' := s6.cell 5
            refine bodyPost_ret (v := .tuple #[.agg #[.bool (qn 0), .slice (some ⟨wc.heap.size, 0, none⟩) (digs (lv C)).length (k / 4 + 1), .slice D5 (digs (qd 0)).length d5, .bool (qn 0), .slice A6 (digs (qt 0)).length c6, .slice D6 (digs (qd 0)).length d6], .int .i64 0]) (by simp [results, r0', r1', r2', r3', r4', r5', go_sem]) rfl ?_
            exact ⟨_, _, D5, d5, A6, c6, D6, d6, rfl, Oa.base_le (Nat.le_of_lt hbc), Ob.base_le (Nat.le_of_lt hbr), Oc.base_le (Nat.le_of_lt hbr), Od.base_le (Nat.le_of_lt hbr), B7⟩
      | true =>
        by_cases hng : 128 ≤ (bgT C t).toNat
        · rw [show (true && decide (128 ≤ (bgT C t).toNat)) = true by rw [decide_eq_true hng]; rfl, if_pos rfl, HPW.out, rwq_neg hlt.out]
          go_enter Tryz.func7, Tryz.ntmps7
          go_wp2_with fail
          refine hin.mono ?_; rintro e w' ⟨rfl, rfl⟩
          go_wp2_with fail
          refine hcl.mono ?_; rintro e w2 ⟨A2, c2, rfl, O2, B2⟩
          go_wp2_with fail
          refine (reverse_anyT A2 c2 s _ w2 _ hls.out.symm O2).mono ?_; rintro e wc ⟨rfl, O3, B3⟩
          have hC : OBT wc (w.alloc (.cells #[.bool false, .slice none 0 0, .slice none 0 0, .bool false, .slice none 0 0, .slice none 0 0] 26)).heap.size A2 c2 C := by rw [HC.out]; exact O3
          have BC := B2.trans B3
          rcases OM.form hC with ⟨_, _, he⟩ | ⟨gc, rfl, hgc, _, _⟩
          · exact absurd (by rw [← HCl.out, he]; rfl) (show ¬ s = 0 by omega)
          clear O2
          have hct := OM.cell hC (bg_getT? (l := C) (k := t) (by have := HCl.out; omega))
          simp only [f8T] at hct
          have hxt := (bgT C t).toNat_lt
          go_wp2_with (at_make; refine wp_makeW _ rfl _ _ rfl .i64 .i64 _ _ (s / 4 + 1) rfl rfl (by omega) (by omega) (by omega) ?_; intro w4 hO1 hb1 hs1)
          clear hct hxt
          have hC4 : OBT w4 (w.alloc (.cells #[.bool false, .slice none 0 0, .slice none 0 0, .bool false, .slice none 0 0, .slice none 0 0] 26)).heap.size (some ⟨gc, 0, none⟩) c2 C := OM.below hC hb1 (Nat.le_refl _)
          have hgcw : gc < wc.heap.size := (OM.lt hC).2
          clear hC
          go_loopg [49] s (fun gg iv wr => ∃ (k : Nat) (o : List Nat), k ≤ s ∧ s - k = gg ∧ iv = .int .i64 (k : Int) ∧ OW wr wc.heap.size (some ⟨wc.heap.size, 0, none⟩) (s / 4 + 1) o ∧ Hid (o.length = s / 4 + 1) ∧ Hid (val o = lv (C.take k)) ∧ Below wc.heap.size wc wr)
          case atStart => exact ⟨0, _, Nat.zero_le _, rfl, rfl, hO1, by show _ = _; simp, by show _ = _; rw [val_replicate]; rfl, hb1⟩
          case round =>
            obtain ⟨k, o, hk, rfl, rfl, hO, hol, hv, hbel⟩ := hrel
            by_cases h0 : k < s
            · have hkC : k < C.length := by have := HCl.out; omega
              have hCr := OM.kept hC4 (fun g hg => by simp only [Option.some.injEq, Addr.mk.injEq, and_true] at hg; subst hg; exact (hbel.block gc hgcw).trans (hb1.block gc hgcw).symm)
              have hok : k / 4 < o.length := by have := hol.out; omega
              have hoc := hO.cell hok
              have hfz := hO.frozen (k / 4)
              have hck := OM.cell hCr (bg_getT? (l := C) (k := k) (by omega))
              simp only [f8T] at hck
              have hs24 : 8 * (k % 4) < 32 := by omega
              have hlow := wd_low hO.b32 (k := k) (by rw [hv.out]; exact Nat.lt_of_lt_of_le (lv_lt _) (Nat.pow_le_pow_right (by omega) (by rw [List.length_take]; omega)))
              obtain ⟨ho1, ho2⟩ := or_shlo (x := (bgT C k).toNat) hs24 hlow
              have e1 := shlo_int (bgT C k).toNat (8 * (k % 4))
              have e3 : bits .or .u32 (wd o (k / 4) : Int) (shlo (bgT C k).toNat (8 * (k % 4)) : Int) = ((wd o (k / 4) + shlo (bgT C k).toNat (8 * (k % 4)) : Nat) : Int) := by
                rw [u32_or_nat _ _ (by have := wd_lt hO.b32 (k / 4); omega) (shlo_lt _ _), ho1]
              have hset := hO.set (k / 4) ho2
              have hstep := Lib.hid (put_step hkC hok hv.out)
              have hbel2 := hbel.setCell (p := ⟨wc.heap.size, k / 4, none⟩) (Nat.le_refl _) (.int .u32 ((wd o (k / 4) + shlo (bgT C k).toNat (8 * (k % 4)) : Nat) : Int))
              go_wp2_with fail
              have e0 : ((bgT C k).toNat : Int) % 4294967296 = ((bgT C k).toNat : Int) := by have := (bgT C k).toNat_lt; omega
              simp only [Int.natCast_add] at hset hbel2 e3
              go_region
              go_wp2_with fail
              go_roundg (s - (k + 1))
              case measure => omega
              case rel => exact ⟨k + 1, _, by omega, rfl, by go_num, hset, by show _ = _; rw [List.length_set]; exact hol.out, hstep, Below.drew hbel2⟩
            · obtain rfl : k = s := by omega
              have hvC : val o = lv C := by have := hv.out; rw [List.take_of_length_le (by rw [HCl.out]; omega)] at this; exact this
              have hOn := hO.norm
              rw [hvC] at hOn
              have hlo : o.length = k / 4 + 1 := hol.out
              have htl := trim_len hO.b32
              rw [hvC] at htl
              have hT := fun w' x => trim_any (some ⟨wc.heap.size, 0, none⟩) (k / 4 + 1) (k / 4 + 1) o w' hlo.symm x
              rw [htl] at hT
              have hle := trimN_le o o.length
              rw [htl, hlo] at hle
              have HVC := Lib.hid hvC
              clear hvC htl hlo h0
              go_wp2_with fail
              refine (int0_any wr).mono ?_; rintro e w5 ⟨A5, c5, D5, d5, A6, c6, D6, d6, rfl, P1, P2, P3, P4, B5⟩
              go_wp2_with fail
              refine (hT _ (st (st hO.rw B5) (bal _ _))).mono ?_; rintro e w' ⟨rfl, rfl⟩
              have B6 := bal w5 (.cells #[.bool (qn 0), .slice (some ⟨wc.heap.size, 0, none⟩) (digs (lv C)).length (k / 4 + 1), .slice D5 (digs (qd 0)).length d5, .bool (qn 0), .slice A6 (digs (qt 0)).length c6, .slice D6 (digs (qd 0)).length d6] 26)
              have hsc := ((((S1.nx BC).nx hbel).nx B5).nx B6)
              have hRC := hsc.rc (n := 6)
              have hbc : w.heap.size < wc.heap.size := (S1.nx BC).2
              have hbr : w.heap.size < wr.heap.size := ((S1.nx BC).nx hbel).2
              have S17 := SB.new w5 [.bool (qn 0), .slice (some ⟨wc.heap.size, 0, none⟩) (digs (lv C)).length (k / 4 + 1), .slice D5 (digs (qd 0)).length d5, .bool (qn 0), .slice A6 (digs (qt 0)).length c6, .slice D6 (digs (qd 0)).length d6] 26
              have z5 : (w5.alloc (.cells #[.bool (qn 0), .slice (some ⟨wc.heap.size, 0, none⟩) (digs (lv C)).length (k / 4 + 1), .slice D5 (digs (qd 0)).length d5, .bool (qn 0), .slice A6 (digs (qt 0)).length c6, .slice D6 (digs (qd 0)).length d6] 26)).heap.size = w5.heap.size + 1 := by simp
              obtain ⟨W6, hW6⟩ : ∃ W6, W6 = w5.alloc (.cells #[.bool (qn 0), .slice (some ⟨wc.heap.size, 0, none⟩) (digs (lv C)).length (k / 4 + 1), .slice D5 (digs (qd 0)).length d5, .bool (qn 0), .slice A6 (digs (qt 0)).length c6, .slice D6 (digs (qd 0)).length d6] 26) := ⟨_, rfl⟩
              have ew : IntKind.i64.wrap (8 * (k : Int)) = 8 * (k : Int) := IntWalk.i64_in _ (by omega)
              have RT6 : RW W6 W6.heap.size (some ⟨wc.heap.size, 0, none⟩) (k / 4 + 1) (digs (lv C)) := by rw [hW6]; exact st (st hOn.rw B5) B6
              rw [← hW6] at S17 B6 hsc hRC z5
              have BU := Below.drew (bal W6 (.cells #[.int .u32 (1 : Nat)] 55))
              have RU := (RW.one W6 55 (show 1 < 4294967296 by omega)).step (Below.drew (Below.refl _ _)) (Nat.le_refl _)
              have hU := up_any (some ⟨W6.heap.size, 0, none⟩) 1 1 [1] ((W6.alloc (.cells #[.int .u32 (1 : Nat)] 55)).drew) (8 * k) (by omega) rfl (RU.more (by show _ ≤ (W6.alloc _).heap.size; simp <;> omega)) (by simp)
              rw [val_one, Nat.one_mul, ← pow8, HPn.out, show ((8 * k : Nat) : Int) = 8 * (k : Int) by omega] at hU
              have SU := S17.nx BU
              have RTU := st RT6 BU
              have hL := fun A7 c7 w' x y => less_any A7 (some ⟨wc.heap.size, 0, none⟩) c7 (k / 4 + 1) _ _ (digs PW) (digs (lv C)) w' rfl rfl x y (digs_mono (Nat.le_of_lt hlt.out)) (by rw [val_digs, val_digs]; exact Nat.le_of_lt hlt.out)
              simp only [val_digs] at hL
              have hRU := hRC.nx BU
              have BU2 := bt (bt (bt (bt B1 BC) hbel) B5) (bt B6 BU)
              have m0 := SU.cell 0
              have m1 := SU.cell 1
              have x0 := S17.cell 0
              have x1 := S17.cell 1
              have y1 : (W6.alloc (.cells #[.int .u32 (1 : Int)] 55)).cell? ⟨w5.heap.size, 1, none⟩ = _ := (S17.nx (bal W6 _)).cell 1
              clear S17 hRC hsc
              go_wp2_with fail
              try rw [← hW6]
              clear hW6 z5
              go_region_with (first | (go_at_call 26; refine hU.mono ?_; rintro e w7 ⟨A7, c7, rfl, O7, B7⟩; have S7 := SU.nx B7; have q1 := S7.cell 1) | (go_at_call 25; refine (hL A7 c7 w7 O7.rw (st RTU B7)).mono ?_; rintro e w8 ⟨A8, c8, rfl, O8, B8⟩; have S8 := S7.nx B8; have p0 := S8.cell 0; have p1 := S8.cell 1; have f0 := S8.frozen 0; have f1 := S8.frozen 1))
              all_goals
                have BF := ((bt (bt (bt B6 BU) B7) B8).setCell (p := ⟨w5.heap.size, 0, none⟩) (Nat.le_refl _) (.bool true)).setCell (p := ⟨w5.heap.size, 1, none⟩) (Nat.le_refl _) (.slice A8 (digs (PW - lv C)).length c8)
                have h57 : w5.heap.size < w7.heap.size := (SU.nx B7).2
                have hn8 : ∀ g, A8 = some ⟨g, 0, none⟩ → g ≠ w5.heap.size := fun g hg => by subst hg; have := O8.lt.1; omega
                have OT := (O8.far (p := ⟨w5.heap.size, 0, none⟩) hn8 (.bool true)).far (p := ⟨w5.heap.size, 1, none⟩) hn8 (.slice A8 (digs (PW - lv C)).length c8)
                have P2f := P2.below BF (Nat.le_refl _)
                have P3f := P3.below BF (Nat.le_refl _)
                have P4f := P4.below BF (Nat.le_refl _)
                have S9 := (S8.set 0 (.bool true)).set 1 (.slice A8 (digs (PW - lv C)).length c8)
                have q0 := S9.cell 0
                have q1 := S9.cell 1
                have q2 := S9.cell 2
                have q3 := S9.cell 3
                have q4 := S9.cell 4
                have q5 := S9.cell 5
                have hb5 : w.heap.size < w5.heap.size := (((S1.nx BC).nx hbel).nx B5).2
                have hRC := ((((hRU.nx B7).nx B8).sb.far (p := ⟨w5.heap.size, 0, none⟩) (by show _ ≠ w5.heap.size; omega) (.bool true)).far (p := ⟨w5.heap.size, 1, none⟩) (by show _ ≠ w5.heap.size; omega) (.slice A8 (digs (PW - lv C)).length c8)).rc (n := 6) (by simp)
                clear S7 S8 S9 SU p0 p1 f0 f1
                go_wp2_with (refine wp_st6 rfl (.tmp 10) (.tmp 88) rfl _ rfl _ _ _ _ _ _ rfl hRC rfl rfl rfl rfl rfl rfl ?_)
                have s6 := hRC.put6 (.bool true) (.slice A8 (digs (PW - lv C)).length c8) (.slice D5 (digs (qd 0)).length d5) (.bool (qn 0)) (.slice A6 (digs (qt 0)).length c6) (.slice D6 (digs (qd 0)).length d6)
                have BZ := wr6_below (b := w.heap.size) (bt (bt (bt (bt B1 BC) hbel) B5) BF) (Nat.le_refl _) (.bool true) (.slice A8 (digs (PW - lv C)).length c8) (.slice D5 (digs (qd 0)).length d5) (.bool (qn 0)) (.slice A6 (digs (qt 0)).length c6) (.slice D6 (digs (qd 0)).length d6)
                have Oa := OT.put6 (b := w.heap.size) (by omega) (.bool true) (.slice A8 (digs (PW - lv C)).length c8) (.slice D5 (digs (qd 0)).length d5) (.bool (qn 0)) (.slice A6 (digs (qt 0)).length c6) (.slice D6 (digs (qd 0)).length d6)
                have Ob := P2f.put6 (b := w.heap.size) hbr (.bool true) (.slice A8 (digs (PW - lv C)).length c8) (.slice D5 (digs (qd 0)).length d5) (.bool (qn 0)) (.slice A6 (digs (qt 0)).length c6) (.slice D6 (digs (qd 0)).length d6)
                have Oc := P3f.put6 (b := w.heap.size) hbr (.bool true) (.slice A8 (digs (PW - lv C)).length c8) (.slice D5 (digs (qd 0)).length d5) (.bool (qn 0)) (.slice A6 (digs (qt 0)).length c6) (.slice D6 (digs (qd 0)).length d6)
                have Od := P4f.put6 (b := w.heap.size) hbr (.bool true) (.slice A8 (digs (PW - lv C)).length c8) (.slice D5 (digs (qd 0)).length d5) (.bool (qn 0)) (.slice A6 (digs (qt 0)).length c6) (.slice D6 (digs (qd 0)).length d6)
                have r0' := s6.cell 0
                have r1' := s6.cell 1
                have r2' := s6.cell 2
                have r3' := s6.cell 3
                have r4' := s6.cell 4
                have r5' := s6.cell 5
                refine bodyPost_ret (v := .tuple #[.agg #[.bool true, .slice A8 (digs (PW - lv C)).length c8, .slice D5 (digs (qd 0)).length d5, .bool (qn 0), .slice A6 (digs (qt 0)).length c6, .slice D6 (digs (qd 0)).length d6], .int .i64 0]) (by simp [results, r0', r1', r2', r3', r4', r5', go_sem]) rfl ?_
                have hle7 : w.heap.size ≤ w7.heap.size := by omega
                exact ⟨A8, c8, D5, d5, A6, c6, D6, d6, rfl, Oa.base_le hle7, Ob.base_le (Nat.le_of_lt hbr), Oc.base_le (Nat.le_of_lt hbr), Od.base_le (Nat.le_of_lt hbr), BZ⟩
        · rw [show (true && decide (128 ≤ (bgT C t).toNat)) = false by rw [decide_eq_false hng]; rfl, if_neg (by simp), rwq_pos]
          go_enter Tryz.func7, Tryz.ntmps7
          go_wp2_with fail
          refine hin.mono ?_; rintro e w' ⟨rfl, rfl⟩
          go_wp2_with fail
          refine hcl.mono ?_; rintro e w2 ⟨A2, c2, rfl, O2, B2⟩
          go_wp2_with fail
          refine (reverse_anyT A2 c2 s _ w2 _ hls.out.symm O2).mono ?_; rintro e wc ⟨rfl, O3, B3⟩
          have hC : OBT wc (w.alloc (.cells #[.bool false, .slice none 0 0, .slice none 0 0, .bool false, .slice none 0 0, .slice none 0 0] 26)).heap.size A2 c2 C := by rw [HC.out]; exact O3
          have BC := B2.trans B3
          rcases OM.form hC with ⟨_, _, he⟩ | ⟨gc, rfl, hgc, _, _⟩
          · exact absurd (by rw [← HCl.out, he]; rfl) (show ¬ s = 0 by omega)
          clear O2
          have hct := OM.cell hC (bg_getT? (l := C) (k := t) (by have := HCl.out; omega))
          simp only [f8T] at hct
          have hxt := (bgT C t).toNat_lt
          go_wp2_with (at_make; refine wp_makeW _ rfl _ _ rfl .i64 .i64 _ _ (s / 4 + 1) rfl rfl (by omega) (by omega) (by omega) ?_; intro w4 hO1 hb1 hs1)
          clear hct hxt
          have hC4 : OBT w4 (w.alloc (.cells #[.bool false, .slice none 0 0, .slice none 0 0, .bool false, .slice none 0 0, .slice none 0 0] 26)).heap.size (some ⟨gc, 0, none⟩) c2 C := OM.below hC hb1 (Nat.le_refl _)
          have hgcw : gc < wc.heap.size := (OM.lt hC).2
          clear hC
          go_loopg [49] s (fun gg iv wr => ∃ (k : Nat) (o : List Nat), k ≤ s ∧ s - k = gg ∧ iv = .int .i64 (k : Int) ∧ OW wr wc.heap.size (some ⟨wc.heap.size, 0, none⟩) (s / 4 + 1) o ∧ Hid (o.length = s / 4 + 1) ∧ Hid (val o = lv (C.take k)) ∧ Below wc.heap.size wc wr)
          case atStart => exact ⟨0, _, Nat.zero_le _, rfl, rfl, hO1, by show _ = _; simp, by show _ = _; rw [val_replicate]; rfl, hb1⟩
          case round =>
            obtain ⟨k, o, hk, rfl, rfl, hO, hol, hv, hbel⟩ := hrel
            by_cases h0 : k < s
            · have hkC : k < C.length := by have := HCl.out; omega
              have hCr := OM.kept hC4 (fun g hg => by simp only [Option.some.injEq, Addr.mk.injEq, and_true] at hg; subst hg; exact (hbel.block gc hgcw).trans (hb1.block gc hgcw).symm)
              have hok : k / 4 < o.length := by have := hol.out; omega
              have hoc := hO.cell hok
              have hfz := hO.frozen (k / 4)
              have hck := OM.cell hCr (bg_getT? (l := C) (k := k) (by omega))
              simp only [f8T] at hck
              have hs24 : 8 * (k % 4) < 32 := by omega
              have hlow := wd_low hO.b32 (k := k) (by rw [hv.out]; exact Nat.lt_of_lt_of_le (lv_lt _) (Nat.pow_le_pow_right (by omega) (by rw [List.length_take]; omega)))
              obtain ⟨ho1, ho2⟩ := or_shlo (x := (bgT C k).toNat) hs24 hlow
              have e1 := shlo_int (bgT C k).toNat (8 * (k % 4))
              have e3 : bits .or .u32 (wd o (k / 4) : Int) (shlo (bgT C k).toNat (8 * (k % 4)) : Int) = ((wd o (k / 4) + shlo (bgT C k).toNat (8 * (k % 4)) : Nat) : Int) := by
                rw [u32_or_nat _ _ (by have := wd_lt hO.b32 (k / 4); omega) (shlo_lt _ _), ho1]
              have hset := hO.set (k / 4) ho2
              have hstep := Lib.hid (put_step hkC hok hv.out)
              have hbel2 := hbel.setCell (p := ⟨wc.heap.size, k / 4, none⟩) (Nat.le_refl _) (.int .u32 ((wd o (k / 4) + shlo (bgT C k).toNat (8 * (k % 4)) : Nat) : Int))
              go_wp2_with fail
              have e0 : ((bgT C k).toNat : Int) % 4294967296 = ((bgT C k).toNat : Int) := by have := (bgT C k).toNat_lt; omega
              simp only [Int.natCast_add] at hset hbel2 e3
              go_region
              go_wp2_with fail
              go_roundg (s - (k + 1))
              case measure => omega
              case rel => exact ⟨k + 1, _, by omega, rfl, by go_num, hset, by show _ = _; rw [List.length_set]; exact hol.out, hstep, Below.drew hbel2⟩
            · obtain rfl : k = s := by omega
              have hvC : val o = lv C := by have := hv.out; rw [List.take_of_length_le (by rw [HCl.out]; omega)] at this; exact this
              have hOn := hO.norm
              rw [hvC] at hOn
              have hlo : o.length = k / 4 + 1 := hol.out
              have htl := trim_len hO.b32
              rw [hvC] at htl
              have hT := fun w' x => trim_any (some ⟨wc.heap.size, 0, none⟩) (k / 4 + 1) (k / 4 + 1) o w' hlo.symm x
              rw [htl] at hT
              have hle := trimN_le o o.length
              rw [htl, hlo] at hle
              have HVC := Lib.hid hvC
              clear hvC htl hlo h0
              go_wp2_with fail
              refine (int0_any wr).mono ?_; rintro e w5 ⟨A5, c5, D5, d5, A6, c6, D6, d6, rfl, P1, P2, P3, P4, B5⟩
              go_wp2_with fail
              refine (hT _ (st (st hO.rw B5) (bal _ _))).mono ?_; rintro e w' ⟨rfl, rfl⟩
              have B6 := bal w5 (.cells #[.bool (qn 0), .slice (some ⟨wc.heap.size, 0, none⟩) (digs (lv C)).length (k / 4 + 1), .slice D5 (digs (qd 0)).length d5, .bool (qn 0), .slice A6 (digs (qt 0)).length c6, .slice D6 (digs (qd 0)).length d6] 26)
              have hsc := ((((S1.nx BC).nx hbel).nx B5).nx B6)
              have hRC := hsc.rc (n := 6)
              have hbc : w.heap.size < wc.heap.size := (S1.nx BC).2
              have hbr : w.heap.size < wr.heap.size := ((S1.nx BC).nx hbel).2
              go_wp2_with (refine wp_st6 rfl (.tmp 10) (.tmp 88) rfl _ rfl _ _ _ _ _ _ rfl hRC rfl rfl rfl rfl rfl rfl ?_)
              have s6 := hRC.put6 (.bool (qn 0)) (.slice (some ⟨wc.heap.size, 0, none⟩) (digs (lv C)).length (k / 4 + 1)) (.slice D5 (digs (qd 0)).length d5) (.bool (qn 0)) (.slice A6 (digs (qt 0)).length c6) (.slice D6 (digs (qd 0)).length d6)
              have B7 := wr6_below (b := w.heap.size) (bt (bt (bt (bt B1 BC) hbel) B5) B6) (Nat.le_refl _) (.bool (qn 0)) (.slice (some ⟨wc.heap.size, 0, none⟩) (digs (lv C)).length (k / 4 + 1)) (.slice D5 (digs (qd 0)).length d5) (.bool (qn 0)) (.slice A6 (digs (qt 0)).length c6) (.slice D6 (digs (qd 0)).length d6)
              have Oa := ((hOn.below B5 (Nat.le_refl _)).alloc (.cells #[.bool (qn 0), .slice (some ⟨wc.heap.size, 0, none⟩) (digs (lv C)).length (k / 4 + 1), .slice D5 (digs (qd 0)).length d5, .bool (qn 0), .slice A6 (digs (qt 0)).length c6, .slice D6 (digs (qd 0)).length d6] 26)).put6 (b := w.heap.size) hbc (.bool (qn 0)) (.slice (some ⟨wc.heap.size, 0, none⟩) (digs (lv C)).length (k / 4 + 1)) (.slice D5 (digs (qd 0)).length d5) (.bool (qn 0)) (.slice A6 (digs (qt 0)).length c6) (.slice D6 (digs (qd 0)).length d6)
              have Ob := (P2.alloc (.cells #[.bool (qn 0), .slice (some ⟨wc.heap.size, 0, none⟩) (digs (lv C)).length (k / 4 + 1), .slice D5 (digs (qd 0)).length d5, .bool (qn 0), .slice A6 (digs (qt 0)).length c6, .slice D6 (digs (qd 0)).length d6] 26)).put6 (b := w.heap.size) hbr (.bool (qn 0)) (.slice (some ⟨wc.heap.size, 0, none⟩) (digs (lv C)).length (k / 4 + 1)) (.slice D5 (digs (qd 0)).length d5) (.bool (qn 0)) (.slice A6 (digs (qt 0)).length c6) (.slice D6 (digs (qd 0)).length d6)
              have Oc := (P3.alloc (.cells #[.bool (qn 0), .slice (some ⟨wc.heap.size, 0, none⟩) (digs (lv C)).length (k / 4 + 1), .slice D5 (digs (qd 0)).length d5, .bool (qn 0), .slice A6 (digs (qt 0)).length c6, .slice D6 (digs (qd 0)).length d6] 26)).put6 (b := w.heap.size) hbr (.bool (qn 0)) (.slice (some ⟨wc.heap.size, 0, none⟩) (digs (lv C)).length (k / 4 + 1)) (.slice D5 (digs (qd 0)).length d5) (.bool (qn 0)) (.slice A6 (digs (qt 0)).length c6) (.slice D6 (digs (qd 0)).length d6)
              have Od := (P4.alloc (.cells #[.bool (qn 0), .slice (some ⟨wc.heap.size, 0, none⟩) (digs (lv C)).length (k / 4 + 1), .slice D5 (digs (qd 0)).length d5, .bool (qn 0), .slice A6 (digs (qt 0)).length c6, .slice D6 (digs (qd 0)).length d6] 26)).put6 (b := w.heap.size) hbr (.bool (qn 0)) (.slice (some ⟨wc.heap.size, 0, none⟩) (digs (lv C)).length (k / 4 + 1)) (.slice D5 (digs (qd 0)).length d5) (.bool (qn 0)) (.slice A6 (digs (qt 0)).length c6) (.slice D6 (digs (qd 0)).length d6)
              have r0' := s6.cell 0
              have r1' := s6.cell 1
              have r2' := s6.cell 2
              have r3' := s6.cell 3
              have r4' := s6.cell 4
              have r5' := s6.cell 5
              refine bodyPost_ret (v := .tuple #[.agg #[.bool (qn 0), .slice (some ⟨wc.heap.size, 0, none⟩) (digs (lv C)).length (k / 4 + 1), .slice D5 (digs (qd 0)).length d5, .bool (qn 0), .slice A6 (digs (qt 0)).length c6, .slice D6 (digs (qd 0)).length d6], .int .i64 0]) (by simp [results, r0', r1', r2', r3', r4', r5', go_sem]) rfl ?_
              exact ⟨_, _, D5, d5, A6, c6, D6, d6, rfl, Oa.base_le (Nat.le_of_lt hbc), Ob.base_le (Nat.le_of_lt hbr), Oc.base_le (Nat.le_of_lt hbr), Od.base_le (Nat.le_of_lt hbr), B7⟩

end Go.Proofs.YtbgggepdlkbpoaaGreatDoor
