/- Merged texts: BvA, BvR, BvG. -/
import Derived.Test.YtabcnpcfknlmlaaGF
import Derived.Test.YtabcnpcfknlmlaaGG
import Derived.Test.YtabcnpcfknlmlaaGC
import Derived.Deep.RegionWith
import Derived.Test.YtabcnpcfknlmlaaGB
namespace Go.Proofs.Ytabcnpcfknlmlaa
open Go.RowKit

/-- do size bytes from at on lie among n? -/
def inB (n : Nat) (at_ size : Int) : Bool := decide (1 ≤ size ∧ size ≤ 64 ∧ 0 ≤ at_ ∧ at_ ≤ (n : Int) - size)


set_option maxHeartbeats 1000000 in
theorem in_any (A : Option Addr) (c n : Nat) (at_ size : Int) (w : World) (hb : n ≤ 140737488351232) (a0 : -9223372036854775808 ≤ at_) (a1 : at_ ≤ 9223372036854775807) (s0 : -9223372036854775808 ≤ size) (s1 : size ≤ 9223372036854775807) :
    Calls Try.prog 24 #[.slice A n c, .int .i64 at_, .int .i64 size] w fun e w' => e = .returned (.bool (inB n at_ size)) ∧ w = w' := by
  unfold inB
  by_cases h1 : 1 ≤ size
  · by_cases h2 : size ≤ 64
    · by_cases h3 : 0 ≤ at_
      · by_cases h4 : at_ ≤ (n : Int) - size
        · rw [decide_eq_true (by omega)]
          go_enter Try.func24, Try.ntmps24
          go_wp2_with fail
          go_ret
          exact ⟨rfl, rfl⟩
        · rw [decide_eq_false (by omega)]
          go_enter Try.func24, Try.ntmps24
          go_wp2_with fail
          go_ret
          exact ⟨rfl, rfl⟩
      · rw [decide_eq_false (by omega)]
        go_enter Try.func24, Try.ntmps24
        go_wp2_with fail
        go_ret
        exact ⟨rfl, rfl⟩
    · rw [decide_eq_false (by omega)]
      go_enter Try.func24, Try.ntmps24
      go_wp2_with fail
      go_ret
      exact ⟨rfl, rfl⟩
  · rw [decide_eq_false (by omega)]
    go_enter Try.func24, Try.ntmps24
    go_wp2_with fail
    go_ret
    exact ⟨rfl, rfl⟩


set_option maxHeartbeats 1000000 in
theorem rin_any (n : Nat) (at_ size : Int) (w : World) (hb : n ≤ 140737488351232) (a0 : -9223372036854775808 ≤ at_) (a1 : at_ ≤ 9223372036854775807) (s0 : -9223372036854775808 ≤ size) (s1 : size ≤ 9223372036854775807) :
    Calls Try.prog 30 #[.int .i64 (n : Int), .int .i64 at_, .int .i64 size] w fun e w' => e = .returned (.bool (inB n at_ size)) ∧ w = w' := by
  unfold inB
  by_cases h1 : 1 ≤ size
  · by_cases h2 : size ≤ 64
    · by_cases h3 : 0 ≤ at_
      · by_cases h5 : size ≤ (n : Int)
        · by_cases h4 : at_ ≤ (n : Int) - size
          · rw [decide_eq_true (by omega)]
            go_enter Try.func30, Try.ntmps30
            go_wp2_with fail
            go_ret
            exact ⟨rfl, rfl⟩
          · rw [decide_eq_false (by omega)]
            go_enter Try.func30, Try.ntmps30
            go_wp2_with fail
            go_ret
            exact ⟨rfl, rfl⟩
        · rw [decide_eq_false (by omega)]
          go_enter Try.func30, Try.ntmps30
          go_wp2_with fail
          go_ret
          exact ⟨rfl, rfl⟩
      · rw [decide_eq_false (by omega)]
        go_enter Try.func30, Try.ntmps30
        go_wp2_with fail
        go_ret
        exact ⟨rfl, rfl⟩
    · rw [decide_eq_false (by omega)]
      go_enter Try.func30, Try.ntmps30
      go_wp2_with fail
      go_ret
      exact ⟨rfl, rfl⟩
  · rw [decide_eq_false (by omega)]
    go_enter Try.func30, Try.ntmps30
    go_wp2_with fail
    go_ret
    exact ⟨rfl, rfl⟩


theorem cloneB_any (A : Option Addr) (c n : Nat) (l : List UInt8) (w : World) (hn : n = l.length) (h : RB w w.heap.size A c l) :
    Calls Try.prog 25 #[.slice A n c] w fun e w' => ∃ A' c', e = .returned (.slice A' l.length c') ∧ OB w' w.heap.size A' c' l ∧ Below w.heap.size w w' := by
  subst hn
  have hbig := h.big
  have q22 : ∀ (w : World) (a : Option Addr) (n c n' c' : Nat), (binOp .eql 22 (.slice a n c) (.slice none n' c')).run Try.prog w = .ok (.bool a.isNone) w := fun w a n c n' c' => Lib.run_eql_slice_nil w _ _ a n c n' c' Try.underlying22
  rcases A with _ | ad
  · have hl0 : l = [] := by
      rcases Nat.eq_zero_or_pos l.length with h0 | h0
      · exact List.eq_nil_of_length_eq_zero h0
      · obtain ⟨_, _, e, _⟩ := h.at_ h0; cases e
    subst hl0
    go_enter Try.func25, Try.ntmps25
    go_wp2
    go_ret
    exact ⟨none, 0, rfl, OM.nil .., Below.refl _ _⟩
  · have hb1 : Below w.heap.size w (w.alloc (.cells #[] 5)) := (Below.refl _ _).alloc (Nat.le_refl _) _
    have hr := h.below hb1
    clear h
    go_enter Try.func25, Try.ntmps25
    go_wp2_with (at_builtin; refine wp_appB _ rfl _ _ rfl w.heap.size _ _ _ [] rfl rfl (OB.empty w) _ _ _ l rfl rfl _ hr (by simp; omega) (by simp) ?_; intro A' c' w' h1 h2 h3)
    go_ret
    exact ⟨A', c', ret_slice (by simp), h1, hb1.trans h3⟩


theorem int0_any (w : World) : Calls Try.prog 21 #[.int .i64 0] w fun e w' => ∃ A1 c1 D1 d1 A2 c2 D2 d2, e = .returned (.agg #[.bool (qn 0), .slice A1 (digs (qt 0)).length c1, .slice D1 (digs (qd 0)).length d1, .bool (qn 0), .slice A2 (digs (qt 0)).length c2, .slice D2 (digs (qd 0)).length d2]) ∧
    OW w' w.heap.size A1 c1 (digs (qt 0)) ∧ OW w' w.heap.size D1 d1 (digs (qd 0)) ∧ OW w' w.heap.size A2 c2 (digs (qt 0)) ∧ OW w' w.heap.size D2 d2 (digs (qd 0)) ∧ Below w.heap.size w w' :=
  int_any 0 w (by omega) (by omega)
theorem RB_sub {w : World} {B : Nat} {b off c : Nat} {l : List UInt8} (h : RB w B (some ⟨b, off, none⟩) c l) (q s : Nat) (hq : q + s ≤ l.length) : RB w B (some ⟨b, off + q, none⟩) (c - q) ((l.drop q).take s) := by
  have hl : ((l.drop q).take s).length = s := by rw [List.length_take, List.length_drop]; omega
  refine ⟨by rw [hl]; have := RM.lc h; omega, by rw [hl]; have := RM.big h; omega, fun hn => ?_⟩
  obtain ⟨b', off', e, hb, hc⟩ := RM.at_ h (by omega)
  simp only [Option.some.injEq, Addr.mk.injEq, and_true] at e
  obtain ⟨rfl, rfl⟩ := e
  refine ⟨b, off + q, rfl, hb, fun k x hk => ?_⟩
  rw [List.getElem?_take] at hk
  split at hk
  · rw [List.getElem?_drop] at hk
    rw [Nat.add_assoc]
    exact hc _ x hk
  · cases hk
/-- the bytes, the lowest first -/
def leB (l : List UInt8) (a s : Nat) (big : Bool) : List UInt8 := if big = true then ((l.drop a).take s).reverse else (l.drop a).take s
theorem leB_len {l : List UInt8} {a s : Nat} (big : Bool) (h : a + s ≤ l.length) : (leB l a s big).length = s := by
  unfold leB; split
  · rw [List.length_reverse, List.length_take, List.length_drop]; omega
  · rw [List.length_take, List.length_drop]; omega
def negB (C : List UInt8) (s : Nat) (signed : Bool) : Bool := signed && decide (128 ≤ (bg C (s - 1)).toNat)
def getI (l : List UInt8) (a s : Nat) (big signed : Bool) : Int := if negB (leB l a s big) s signed = true then (lv (leB l a s big) : Int) - 256 ^ s else (lv (leB l a s big) : Int)
def getQ (l : List UInt8) (at_ size : Int) (big signed : Bool) : Rw × Rw × Int := if inB l.length at_ size = true then (rwq ((getI l at_.toNat size.toNat big signed : Int) : Rat), rwq 0, 0) else (rw0, rw0, 1)
theorem rwq_pos {v : Nat} : rwq (((v : Int)) : Rat) = ⟨qn 0, digs v, digs (qd 0)⟩ := by
  unfold rwq
  rw [qn_int, qt_int, qd_int, decide_eq_false (by omega), Int.natAbs_natCast]; rfl
theorem rwq_neg {v p : Nat} (h : v < p) : rwq (((v : Int) - (p : Int) : Int) : Rat) = ⟨true, digs (p - v), digs (qd 0)⟩ := by
  unfold rwq
  rw [qn_int, qt_int, qd_int, decide_eq_true (by omega), show ((v : Int) - (p : Int)).natAbs = p - v by omega]; rfl


set_option maxRecDepth 100000 in
set_option maxHeartbeats 16000000 in
theorem get_any (A : Option Addr) (c n : Nat) (l : List UInt8) (at_ size : Int) (big signed : Bool) (w : World) (hn : n = l.length) (h : RB w w.heap.size A c l)
    (a0 : -9223372036854775808 ≤ at_) (a1 : at_ ≤ 9223372036854775807) (s0 : -9223372036854775808 ≤ size) (s1 : size ≤ 9223372036854775807) :
    Calls Try.prog 8 #[.slice A n c, .int .i64 at_, .int .i64 size, .bool big, .bool signed] w (RetNE w (getQ l at_ size big signed)) := by
  subst hn
  have hbig := h.big
  have B1 := bal w (.cells #[.bool false, .slice none 0 0, .slice none 0 0, .bool false, .slice none 0 0, .slice none 0 0] 27)
  have S1 := SB.new w [.bool false, .slice none 0 0, .slice none 0 0, .bool false, .slice none 0 0, .slice none 0 0] 27
  have hin := in_any A c l.length at_ size (w.alloc (.cells #[.bool false, .slice none 0 0, .slice none 0 0, .bool false, .slice none 0 0, .slice none 0 0] 27)) hbig a0 a1 s0 s1
  unfold getQ
  cases hi : inB l.length at_ size with
  | false =>
    rw [hi] at hin
    have hRC := S1.rc (n := 6)
    go_enter Try.func8, Try.ntmps8
    go_wp2_with fail
    refine hin.mono ?_; rintro e w' ⟨rfl, rfl⟩
    go_wp2_with (refine wp_st6 rfl (.tmp 10) (.tmp 23) rfl _ rfl _ _ _ _ _ _ rfl hRC rfl rfl rfl rfl rfl rfl ?_)
    have s6 := hRC.put6 (.bool false) (.slice none 0 0) (.slice none 0 0) (.bool false) (.slice none 0 0) (.slice none 0 0)
    have B6 := wr6_below (b := w.heap.size) B1 (Nat.le_refl _) (.bool false) (.slice none 0 0) (.slice none 0 0) (.bool false) (.slice none 0 0) (.slice none 0 0)
    have r0' := s6.cell 0
    have r1' := s6.cell 1
    have r2' := s6.cell 2
    have r3' := s6.cell 3
    have r4' := s6.cell 4
    have r5' := s6.cell 5
    refine bodyPost_ret (v := .tuple #[.agg #[.bool false, .slice none 0 0, .slice none 0 0, .bool false, .slice none 0 0, .slice none 0 0], .int .i64 1]) (by simp [results, r0', r1', r2', r3', r4', r5', go_sem]) rfl ?_
    exact retNE_nil 1 B6
  | true =>
    rw [hi] at hin
    unfold inB at hi
    rw [decide_eq_true_eq] at hi
    obtain ⟨a, rfl⟩ := Int.eq_ofNat_of_zero_le hi.2.2.1
    obtain ⟨s, rfl⟩ := Int.eq_ofNat_of_zero_le (show 0 ≤ size by omega)
    obtain ⟨i1, i2, _, i4⟩ := hi
    rw [Int.toNat_natCast, Int.toNat_natCast, if_pos rfl]
    have hsl : a + s ≤ l.length := by omega
    have hs1 : 1 ≤ s := by omega
    have hs64 : s ≤ 64 := by omega
    obtain ⟨b, off, rfl, hb, _⟩ := RM.at_ h (by omega)
    have hlc := RM.lc h
    have hck : ¬ c = a := by omega
    have hcl := cloneB_any (some ⟨b, off + a, none⟩) (c - a) s ((l.drop a).take s) (w.alloc (.cells #[.bool false, .slice none 0 0, .slice none 0 0, .bool false, .slice none 0 0, .slice none 0 0] 27)) (by rw [List.length_take, List.length_drop]; omega) (RB_sub (RM.step h B1 B1.size) a s hsl)
    rw [show ((l.drop a).take s).length = s by rw [List.length_take, List.length_drop]; omega] at hcl
    obtain ⟨t, ht⟩ : ∃ t, t = s - 1 := ⟨_, rfl⟩
    have e1 : (s : Int) - 1 = (t : Int) := by omega
    have hls : Hid (((l.drop a).take s).length = s) := by show _ = _; rw [List.length_take, List.length_drop]; omega
    clear h i1 i2 i4
    unfold getI negB
    rw [← ht]
    have hts : t + 1 = s := by omega
    have HT := Lib.hid hts
    clear ht hts
    obtain ⟨PW, HPn⟩ : ∃ PW : Nat, Hid (256 ^ s = PW) := ⟨_, rfl⟩
    have HPW : Hid ((256 : Int) ^ s = (PW : Int)) := by show _ = _; rw [← HPn.out]; simp
    cases big with
    | false =>
      obtain ⟨C, hC⟩ : ∃ C, C = (l.drop a).take s := ⟨_, rfl⟩
      rw [show leB l a s false = C by rw [hC]; rfl]
      have HC := Lib.hid hC
      have HCl : Hid (C.length = s) := by show _ = _; rw [hC]; exact hls.out
      have hlt : Hid (lv C < PW) := by show _ < _; rw [← HPn.out, ← HCl.out]; exact lv_lt C
      clear hC
      cases signed with
      | false =>
        rw [show (false && decide (128 ≤ (bg C t).toNat)) = false from rfl, if_neg (by simp), rwq_pos]
        go_enter Try.func8, Try.ntmps8
        go_wp2_with fail
        refine hin.mono ?_; rintro e w' ⟨rfl, rfl⟩
        go_wp2_with fail
        refine hcl.mono ?_; rintro e w2 ⟨A2, c2, rfl, O2, B2⟩
        obtain ⟨wc, hwc⟩ : ∃ wc, wc = w2 := ⟨_, rfl⟩
        subst hwc
        have hC : OB wc (w.alloc (.cells #[.bool false, .slice none 0 0, .slice none 0 0, .bool false, .slice none 0 0, .slice none 0 0] 27)).heap.size A2 c2 C := by rw [HC.out]; exact O2
        have BC := B2
        rcases OM.form hC with ⟨_, _, he⟩ | ⟨gc, rfl, hgc, _, _⟩
        · exact absurd (by rw [← HCl.out, he]; rfl) (show ¬ s = 0 by omega)
        clear O2
        go_wp2_with (at_make; refine wp_makeW _ rfl _ _ rfl .i64 .i64 _ _ (s / 4 + 1) rfl rfl (by omega) (by omega) (by omega) ?_; intro w4 hO1 hb1 hs1)
        have hC4 : OB w4 (w.alloc (.cells #[.bool false, .slice none 0 0, .slice none 0 0, .bool false, .slice none 0 0, .slice none 0 0] 27)).heap.size (some ⟨gc, 0, none⟩) c2 C := OM.below hC hb1 (Nat.le_refl _)
        have hgcw : gc < wc.heap.size := (OM.lt hC).2
        clear hC
        go_loopg [49] s (fun gg iv wr => ∃ (k : Nat) (o : List Nat), k ≤ s ∧ s - k = gg ∧ iv = .int .i64 (k : Int) ∧ OW wr wc.heap.size (some ⟨wc.heap.size, 0, none⟩) (s / 4 + 1) o ∧ Hid (o.length = s / 4 + 1) ∧ Hid (val o = lv (C.take k)) ∧ Below wc.heap.size wc wr)
        case atStart => exact ⟨0, _, Nat.zero_le _, rfl, rfl, hO1, by show _ = _; simp, by show _ = _; rw [val_replicate]; rfl, hb1⟩
        case round =>
          obtain ⟨k, o, hk, rfl, rfl, hO, hol, hv, hbel⟩ := hrel
          by_cases h0 : k < s
          · have hkC : k < C.length := by have := HCl.out; omega
            have hCr := OM.kept hC4 (fun g hg => by simp only [Option.some.injEq, Addr.mk.injEq, and_true] at hg; subst hg; exact (hbel.block gc hgcw).trans (hb1.block gc hgcw).symm)
            have hok : k / 4 < o.length := by have := hol.out; omega
            have hoc := hO.cell hok
            have hfz := hO.frozen (k / 4)
            have hck := OM.cell hCr (bg_get? (l := C) (k := k) (by omega))
            simp only [f8] at hck
            have hs24 : 8 * (k % 4) < 32 := by omega
            have hlow := wd_low hO.b32 (k := k) (by rw [hv.out]; exact Nat.lt_of_lt_of_le (lv_lt _) (Nat.pow_le_pow_right (by omega) (by rw [List.length_take]; omega)))
            obtain ⟨ho1, ho2⟩ := or_shlo (x := (bg C k).toNat) hs24 hlow
            have e1 := shlo_int (bg C k).toNat (8 * (k % 4))
            have e3 : bits .or .u32 (wd o (k / 4) : Int) (shlo (bg C k).toNat (8 * (k % 4)) : Int) = ((wd o (k / 4) + shlo (bg C k).toNat (8 * (k % 4)) : Nat) : Int) := by
              rw [u32_or_nat _ _ (by have := wd_lt hO.b32 (k / 4); omega) (shlo_lt _ _), ho1]
            have hset := hO.set (k / 4) ho2
            have hstep := Lib.hid (put_step hkC hok hv.out)
            have hbel2 := hbel.setCell (p := ⟨wc.heap.size, k / 4, none⟩) (Nat.le_refl _) (.int .u32 ((wd o (k / 4) + shlo (bg C k).toNat (8 * (k % 4)) : Nat) : Int))
            go_wp2_with fail
            have e0 : ((bg C k).toNat : Int) % 4294967296 = ((bg C k).toNat : Int) := by have := (bg C k).toNat_lt; omega
            simp only [Int.natCast_add] at hset hbel2 e3
            go_region
            go_wp2_with fail
            go_roundg (s - (k + 1))
            case measure => omega
            case rel => exact ⟨k + 1, _, by omega, rfl, by go_num, hset, by show _ = _; rw [List.length_set]; exact hol.out, hstep, Below.drew hbel2⟩
          · obtain rfl : k = s := by omega
            have hvC : val o = lv C := by have := hv.out; rw [List.take_of_length_le (by rw [HCl.out]; omega)] at this; exact this
            have hOn := hO.norm
            rw [hvC] at hOn
            have hlo : o.length = k / 4 + 1 := hol.out
            have htl := trim_len hO.b32
            rw [hvC] at htl
            have hT := fun w' x => trim_any (some ⟨wc.heap.size, 0, none⟩) (k / 4 + 1) (k / 4 + 1) o w' hlo.symm x
            rw [htl] at hT
            have hle := trimN_le o o.length
            rw [htl, hlo] at hle
            have HVC := Lib.hid hvC
            clear hvC htl hlo h0
            go_wp2_with fail
            refine (int0_any wr).mono ?_; rintro e w5 ⟨A5, c5, D5, d5, A6, c6, D6, d6, rfl, P1, P2, P3, P4, B5⟩
            go_wp2_with fail
            refine (hT _ (st (st hO.rw B5) (bal _ _))).mono ?_; rintro e w' ⟨rfl, rfl⟩
            have B6 := bal w5 (.cells #[.bool (qn 0), .slice (some ⟨wc.heap.size, 0, none⟩) (digs (lv C)).length (k / 4 + 1), .slice D5 (digs (qd 0)).length d5, .bool (qn 0), .slice A6 (digs (qt 0)).length c6, .slice D6 (digs (qd 0)).length d6] 27)
            have hsc := ((((S1.nx BC).nx hbel).nx B5).nx B6)
            have hRC := hsc.rc (n := 6)
            have hbc : w.heap.size < wc.heap.size := (S1.nx BC).2
            have hbr : w.heap.size < wr.heap.size := ((S1.nx BC).nx hbel).2
            go_wp2_with (refine wp_st6 rfl (.tmp 10) (.tmp 88) rfl _ rfl _ _ _ _ _ _ rfl hRC rfl rfl rfl rfl rfl rfl ?_)
            have s6 := hRC.put6 (.bool (qn 0)) (.slice (some ⟨wc.heap.size, 0, none⟩) (digs (lv C)).length (k / 4 + 1)) (.slice D5 (digs (qd 0)).length d5) (.bool (qn 0)) (.slice A6 (digs (qt 0)).length c6) (.slice D6 (digs (qd 0)).length d6)
            have B7 := wr6_below (b := w.heap.size) (bt (bt (bt (bt B1 BC) hbel) B5) B6) (Nat.le_refl _) (.bool (qn 0)) (.slice (some ⟨wc.heap.size, 0, none⟩) (digs (lv C)).length (k / 4 + 1)) (.slice D5 (digs (qd 0)).length d5) (.bool (qn 0)) (.slice A6 (digs (qt 0)).length c6) (.slice D6 (digs (qd 0)).length d6)
            have Oa := ((hOn.below B5 (Nat.le_refl _)).alloc (.cells #[.bool (qn 0), .slice (some ⟨wc.heap.size, 0, none⟩) (digs (lv C)).length (k / 4 + 1), .slice D5 (digs (qd 0)).length d5, .bool (qn 0), .slice A6 (digs (qt 0)).length c6, .slice D6 (digs (qd 0)).length d6] 27)).put6 (b := w.heap.size) hbc (.bool (qn 0)) (.slice (some ⟨wc.heap.size, 0, none⟩) (digs (lv C)).length (k / 4 + 1)) (.slice D5 (digs (qd 0)).length d5) (.bool (qn 0)) (.slice A6 (digs (qt 0)).length c6) (.slice D6 (digs (qd 0)).length d6)
            have Ob := (P2.alloc (.cells #[.bool (qn 0), .slice (some ⟨wc.heap.size, 0, none⟩) (digs (lv C)).length (k / 4 + 1), .slice D5 (digs (qd 0)).length d5, .bool (qn 0), .slice A6 (digs (qt 0)).length c6, .slice D6 (digs (qd 0)).length d6] 27)).put6 (b := w.heap.size) hbr (.bool (qn 0)) (.slice (some ⟨wc.heap.size, 0, none⟩) (digs (lv C)).length (k / 4 + 1)) (.slice D5 (digs (qd 0)).length d5) (.bool (qn 0)) (.slice A6 (digs (qt 0)).length c6) (.slice D6 (digs (qd 0)).length d6)
            have Oc := (P3.alloc (.cells #[.bool (qn 0), .slice (some ⟨wc.heap.size, 0, none⟩) (digs (lv C)).length (k / 4 + 1), .slice D5 (digs (qd 0)).length d5, .bool (qn 0), .slice A6 (digs (qt 0)).length c6, .slice D6 (digs (qd 0)).length d6] 27)).put6 (b := w.heap.size) hbr (.bool (qn 0)) (.slice (some ⟨wc.heap.size, 0, none⟩) (digs (lv C)).length (k / 4 + 1)) (.slice D5 (digs (qd 0)).length d5) (.bool (qn 0)) (.slice A6 (digs (qt 0)).length c6) (.slice D6 (digs (qd 0)).length d6)
            have Od := (P4.alloc (.cells #[.bool (qn 0), .slice (some ⟨wc.heap.size, 0, none⟩) (digs (lv C)).length (k / 4 + 1), .slice D5 (digs (qd 0)).length d5, .bool (qn 0), .slice A6 (digs (qt 0)).length c6, .slice D6 (digs (qd 0)).length d6] 27)).put6 (b := w.heap.size) hbr (.bool (qn 0)) (.slice (some ⟨wc.heap.size, 0, none⟩) (digs (lv C)).length (k / 4 + 1)) (.slice D5 (digs (qd 0)).length d5) (.bool (qn 0)) (.slice A6 (digs (qt 0)).length c6) (.slice D6 (digs (qd 0)).length d6)
            have r0' := s6.cell 0
            have r1' := s6.cell 1
            have r2' := s6.cell 2
            have r3' := s6.cell 3
            have r4' := s6.cell 4
            have r5' := s6.cell 5
            refine bodyPost_ret (v := .tuple #[.agg #[.bool (qn 0), .slice (some ⟨wc.heap.size, 0, none⟩) (digs (lv C)).length (k / 4 + 1), .slice D5 (digs (qd 0)).length d5, .bool (qn 0), .slice A6 (digs (qt 0)).length c6, .slice D6 (digs (qd 0)).length d6], .int .i64 0]) (by simp [results, r0', r1', r2', r3', r4', r5', go_sem]) rfl ?_
            exact ⟨_, _, D5, d5, A6, c6, D6, d6, rfl, Oa.base_le (Nat.le_of_lt hbc), Ob.base_le (Nat.le_of_lt hbr), Oc.base_le (Nat.le_of_lt hbr), Od.base_le (Nat.le_of_lt hbr), B7⟩
      | true =>
        by_cases hng : 128 ≤ (bg C t).toNat
        · rw [show (true && decide (128 ≤ (bg C t).toNat)) = true by rw [decide_eq_true hng]; rfl, if_pos rfl, HPW.out, rwq_neg hlt.out]
          go_enter Try.func8, Try.ntmps8
          go_wp2_with fail
          refine hin.mono ?_; rintro e w' ⟨rfl, rfl⟩
          go_wp2_with fail
          refine hcl.mono ?_; rintro e w2 ⟨A2, c2, rfl, O2, B2⟩
          obtain ⟨wc, hwc⟩ : ∃ wc, wc = w2 := ⟨_, rfl⟩
          subst hwc
          have hC : OB wc (w.alloc (.cells #[.bool false, .slice none 0 0, .slice none 0 0, .bool false, .slice none 0 0, .slice none 0 0] 27)).heap.size A2 c2 C := by rw [HC.out]; exact O2
          have BC := B2
          rcases OM.form hC with ⟨_, _, he⟩ | ⟨gc, rfl, hgc, _, _⟩
          · exact absurd (by rw [← HCl.out, he]; rfl) (show ¬ s = 0 by omega)
          clear O2
          have hct := OM.cell hC (bg_get? (l := C) (k := t) (by have := HCl.out; omega))
          simp only [f8] at hct
          have hxt := (bg C t).toNat_lt
          go_wp2_with (at_make; refine wp_makeW _ rfl _ _ rfl .i64 .i64 _ _ (s / 4 + 1) rfl rfl (by omega) (by omega) (by omega) ?_; intro w4 hO1 hb1 hs1)
          clear hct hxt
          have hC4 : OB w4 (w.alloc (.cells #[.bool false, .slice none 0 0, .slice none 0 0, .bool false, .slice none 0 0, .slice none 0 0] 27)).heap.size (some ⟨gc, 0, none⟩) c2 C := OM.below hC hb1 (Nat.le_refl _)
          have hgcw : gc < wc.heap.size := (OM.lt hC).2
          clear hC
          go_loopg [49] s (fun gg iv wr => ∃ (k : Nat) (o : List Nat), k ≤ s ∧ s - k = gg ∧ iv = .int .i64 (k : Int) ∧ OW wr wc.heap.size (some ⟨wc.heap.size, 0, none⟩) (s / 4 + 1) o ∧ Hid (o.length = s / 4 + 1) ∧ Hid (val o = lv (C.take k)) ∧ Below wc.heap.size wc wr)
          case atStart => exact ⟨0, _, Nat.zero_le _, rfl, rfl, hO1, by show _ = _; simp, by show _ = _; rw [val_replicate]; rfl, hb1⟩
          case round =>
            obtain ⟨k, o, hk, rfl, rfl, hO, hol, hv, hbel⟩ := hrel
            by_cases h0 : k < s
            · have hkC : k < C.length := by have := HCl.out; omega
              have hCr := OM.kept hC4 (fun g hg => by simp only [Option.some.injEq, Addr.mk.injEq, and_true] at hg; subst hg; exact (hbel.block gc hgcw).trans (hb1.block gc hgcw).symm)
              have hok : k / 4 < o.length := by have := hol.out; omega
              have hoc := hO.cell hok
              have hfz := hO.frozen (k / 4)
              have hck := OM.cell hCr (bg_get? (l := C) (k := k) (by omega))
              simp only [f8] at hck
              have hs24 : 8 * (k % 4) < 32 := by omega
              have hlow := wd_low hO.b32 (k := k) (by rw [hv.out]; exact Nat.lt_of_lt_of_le (lv_lt _) (Nat.pow_le_pow_right (by omega) (by rw [List.length_take]; omega)))
              obtain ⟨ho1, ho2⟩ := or_shlo (x := (bg C k).toNat) hs24 hlow
              have e1 := shlo_int (bg C k).toNat (8 * (k % 4))
              have e3 : bits .or .u32 (wd o (k / 4) : Int) (shlo (bg C k).toNat (8 * (k % 4)) : Int) = ((wd o (k / 4) + shlo (bg C k).toNat (8 * (k % 4)) : Nat) : Int) := by
                rw [u32_or_nat _ _ (by have := wd_lt hO.b32 (k / 4); omega) (shlo_lt _ _), ho1]
              have hset := hO.set (k / 4) ho2
              have hstep := Lib.hid (put_step hkC hok hv.out)
              have hbel2 := hbel.setCell (p := ⟨wc.heap.size, k / 4, none⟩) (Nat.le_refl _) (.int .u32 ((wd o (k / 4) + shlo (bg C k).toNat (8 * (k % 4)) : Nat) : Int))
              go_wp2_with fail
              have e0 : ((bg C k).toNat : Int) % 4294967296 = ((bg C k).toNat : Int) := by have := (bg C k).toNat_lt; omega
              simp only [Int.natCast_add] at hset hbel2 e3
              go_region
              go_wp2_with fail
              go_roundg (s - (k + 1))
              case measure => omega
              case rel => exact ⟨k + 1, _, by omega, rfl, by go_num, hset, by show _ = _; rw [List.length_set]; exact hol.out, hstep, Below.drew hbel2⟩
            · obtain rfl : k = s := by omega
              have hvC : val o = lv C := by have := hv.out; rw [List.take_of_length_le (by rw [HCl.out]; omega)] at this; exact this
              have hOn := hO.norm
              rw [hvC] at hOn
              have hlo : o.length = k / 4 + 1 := hol.out
              have htl := trim_len hO.b32
              rw [hvC] at htl
              have hT := fun w' x => trim_any (some ⟨wc.heap.size, 0, none⟩) (k / 4 + 1) (k / 4 + 1) o w' hlo.symm x
              rw [htl] at hT
              have hle := trimN_le o o.length
              rw [htl, hlo] at hle
              have HVC := Lib.hid hvC
              clear hvC htl hlo h0
              go_wp2_with fail
              refine (int0_any wr).mono ?_; rintro e w5 ⟨A5, c5, D5, d5, A6, c6, D6, d6, rfl, P1, P2, P3, P4, B5⟩
              go_wp2_with fail
              refine (hT _ (st (st hO.rw B5) (bal _ _))).mono ?_; rintro e w' ⟨rfl, rfl⟩
              have B6 := bal w5 (.cells #[.bool (qn 0), .slice (some ⟨wc.heap.size, 0, none⟩) (digs (lv C)).length (k / 4 + 1), .slice D5 (digs (qd 0)).length d5, .bool (qn 0), .slice A6 (digs (qt 0)).length c6, .slice D6 (digs (qd 0)).length d6] 27)
              have hsc := ((((S1.nx BC).nx hbel).nx B5).nx B6)
              have hRC := hsc.rc (n := 6)
              have hbc : w.heap.size < wc.heap.size := (S1.nx BC).2
              have hbr : w.heap.size < wr.heap.size := ((S1.nx BC).nx hbel).2
              have S17 := SB.new w5 [.bool (qn 0), .slice (some ⟨wc.heap.size, 0, none⟩) (digs (lv C)).length (k / 4 + 1), .slice D5 (digs (qd 0)).length d5, .bool (qn 0), .slice A6 (digs (qt 0)).length c6, .slice D6 (digs (qd 0)).length d6] 27
              have z5 : (w5.alloc (.cells #[.bool (qn 0), .slice (some ⟨wc.heap.size, 0, none⟩) (digs (lv C)).length (k / 4 + 1), .slice D5 (digs (qd 0)).length d5, .bool (qn 0), .slice A6 (digs (qt 0)).length c6, .slice D6 (digs (qd 0)).length d6] 27)).heap.size = w5.heap.size + 1 := by simp
              obtain ⟨W6, hW6⟩ : ∃ W6, W6 = w5.alloc (.cells #[.bool (qn 0), .slice (some ⟨wc.heap.size, 0, none⟩) (digs (lv C)).length (k / 4 + 1), .slice D5 (digs (qd 0)).length d5, .bool (qn 0), .slice A6 (digs (qt 0)).length c6, .slice D6 (digs (qd 0)).length d6] 27) := ⟨_, rfl⟩
              have ew : IntKind.i64.wrap (8 * (k : Int)) = 8 * (k : Int) := IntWalk.i64_in _ (by omega)
              have RT6 : RW W6 W6.heap.size (some ⟨wc.heap.size, 0, none⟩) (k / 4 + 1) (digs (lv C)) := by rw [hW6]; exact st (st hOn.rw B5) B6
              rw [← hW6] at S17 B6 hsc hRC z5
              have BU := Below.drew (bal W6 (.cells #[.int .u32 (1 : Nat)] 53))
              have RU := (RW.one W6 53 (show 1 < 4294967296 by omega)).step (Below.drew (Below.refl _ _)) (Nat.le_refl _)
              have hU := up_any (some ⟨W6.heap.size, 0, none⟩) 1 1 [1] ((W6.alloc (.cells #[.int .u32 (1 : Nat)] 53)).drew) (8 * k) (by omega) rfl (RU.more (by show _ ≤ (W6.alloc _).heap.size; simp <;> omega)) (by simp)
              rw [val_one, Nat.one_mul, ← pow8, HPn.out, show ((8 * k : Nat) : Int) = 8 * (k : Int) by omega] at hU
              have SU := S17.nx BU
              have RTU := st RT6 BU
              have hL := fun A7 c7 w' x y => less_any A7 (some ⟨wc.heap.size, 0, none⟩) c7 (k / 4 + 1) _ _ (digs PW) (digs (lv C)) w' rfl rfl x y (digs_mono (Nat.le_of_lt hlt.out)) (by rw [val_digs, val_digs]; exact Nat.le_of_lt hlt.out)
              simp only [val_digs] at hL
              have hRU := hRC.nx BU
              have BU2 := bt (bt (bt (bt B1 BC) hbel) B5) (bt B6 BU)
              have m0 := SU.cell 0
              have m1 := SU.cell 1
              have x0 := S17.cell 0
              have x1 := S17.cell 1
              have y1 : (W6.alloc (.cells #[.int .u32 (1 : Int)] 53)).cell? ⟨w5.heap.size, 1, none⟩ = _ := (S17.nx (bal W6 _)).cell 1
              clear S17 hRC hsc
              go_wp2_with fail
              try rw [← hW6]
              clear hW6 z5
              go_region_with (first | (go_at_call 29; refine hU.mono ?_; rintro e w7 ⟨A7, c7, rfl, O7, B7⟩; have S7 := SU.nx B7; have q1 := S7.cell 1) | (go_at_call 28; refine (hL A7 c7 w7 O7.rw (st RTU B7)).mono ?_; rintro e w8 ⟨A8, c8, rfl, O8, B8⟩; have S8 := S7.nx B8; have p0 := S8.cell 0; have p1 := S8.cell 1; have f0 := S8.frozen 0; have f1 := S8.frozen 1))
              all_goals
                have BF := ((bt (bt (bt B6 BU) B7) B8).setCell (p := ⟨w5.heap.size, 0, none⟩) (Nat.le_refl _) (.bool true)).setCell (p := ⟨w5.heap.size, 1, none⟩) (Nat.le_refl _) (.slice A8 (digs (PW - lv C)).length c8)
                have h57 : w5.heap.size < w7.heap.size := (SU.nx B7).2
                have hn8 : ∀ g, A8 = some ⟨g, 0, none⟩ → g ≠ w5.heap.size := fun g hg => by subst hg; have := O8.lt.1; omega
                have OT := (O8.far (p := ⟨w5.heap.size, 0, none⟩) hn8 (.bool true)).far (p := ⟨w5.heap.size, 1, none⟩) hn8 (.slice A8 (digs (PW - lv C)).length c8)
                have P2f := P2.below BF (Nat.le_refl _)
                have P3f := P3.below BF (Nat.le_refl _)
                have P4f := P4.below BF (Nat.le_refl _)
                have S9 := (S8.set 0 (.bool true)).set 1 (.slice A8 (digs (PW - lv C)).length c8)
                have q0 := S9.cell 0
                have q1 := S9.cell 1
                have q2 := S9.cell 2
                have q3 := S9.cell 3
                have q4 := S9.cell 4
                have q5 := S9.cell 5
                have hb5 : w.heap.size < w5.heap.size := (((S1.nx BC).nx hbel).nx B5).2
                have hRC := ((((hRU.nx B7).nx B8).sb.far (p := ⟨w5.heap.size, 0, none⟩) (by show _ ≠ w5.heap.size; omega) (.bool true)).far (p := ⟨w5.heap.size, 1, none⟩) (by show _ ≠ w5.heap.size; omega) (.slice A8 (digs (PW - lv C)).length c8)).rc (n := 6) (by simp)
                clear S7 S8 S9 SU p0 p1 f0 f1
                go_wp2_with (refine wp_st6 rfl (.tmp 10) (.tmp 88) rfl _ rfl _ _ _ _ _ _ rfl hRC rfl rfl rfl rfl rfl rfl ?_)
                have s6 := hRC.put6 (.bool true) (.slice A8 (digs (PW - lv C)).length c8) (.slice D5 (digs (qd 0)).length d5) (.bool (qn 0)) (.slice A6 (digs (qt 0)).length c6) (.slice D6 (digs (qd 0)).length d6)
                have BZ := wr6_below (b := w.heap.size) (bt (bt (bt (bt B1 BC) hbel) B5) BF) (Nat.le_refl _) (.bool true) (.slice A8 (digs (PW - lv C)).length c8) (.slice D5 (digs (qd 0)).length d5) (.bool (qn 0)) (.slice A6 (digs (qt 0)).length c6) (.slice D6 (digs (qd 0)).length d6)
                have Oa := OT.put6 (b := w.heap.size) (by omega) (.bool true) (.slice A8 (digs (PW - lv C)).length c8) (.slice D5 (digs (qd 0)).length d5) (.bool (qn 0)) (.slice A6 (digs (qt 0)).length c6) (.slice D6 (digs (qd 0)).length d6)
                have Ob := P2f.put6 (b := w.heap.size) hbr (.bool true) (.slice A8 (digs (PW - lv C)).length c8) (.slice D5 (digs (qd 0)).length d5) (.bool (qn 0)) (.slice A6 (digs (qt 0)).length c6) (.slice D6 (digs (qd 0)).length d6)
                have Oc := P3f.put6 (b := w.heap.size) hbr (.bool true) (.slice A8 (digs (PW - lv C)).length c8) (.slice D5 (digs (qd 0)).length d5) (.bool (qn 0)) (.slice A6 (digs (qt 0)).length c6) (.slice D6 (digs (qd 0)).length d6)
                have Od := P4f.put6 (b := w.heap.size) hbr (.bool true) (.slice A8 (digs (PW - lv C)).length c8) (.slice D5 (digs (qd 0)).length d5) (.bool (qn 0)) (.slice A6 (digs (qt 0)).length c6) (.slice D6 (digs (qd 0)).length d6)
                have r0' := s6.cell 0
                have r1' := s6.cell 1
                have r2' := s6.cell 2
                have r3' := s6.cell 3
                have r4' := s6.cell 4
                have r5' := s6.cell 5
                refine bodyPost_ret (v := .tuple #[.agg #[.bool true, .slice A8 (digs (PW - lv C)).length c8, .slice D5 (digs (qd 0)).length d5, .bool (qn 0), .slice A6 (digs (qt 0)).length c6, .slice D6 (digs (qd 0)).length d6], .int .i64 0]) (by simp [results, r0', r1', r2', r3', r4', r5', go_sem]) rfl ?_
                have hle7 : w.heap.size ≤ w7.heap.size := by omega
                exact ⟨A8, c8, D5, d5, A6, c6, D6, d6, rfl, Oa.base_le hle7, Ob.base_le (Nat.le_of_lt hbr), Oc.base_le (Nat.le_of_lt hbr), Od.base_le (Nat.le_of_lt hbr), BZ⟩
        · rw [show (true && decide (128 ≤ (bg C t).toNat)) = false by rw [decide_eq_false hng]; rfl, if_neg (by simp), rwq_pos]
          go_enter Try.func8, Try.ntmps8
          go_wp2_with fail
          refine hin.mono ?_; rintro e w' ⟨rfl, rfl⟩
          go_wp2_with fail
          refine hcl.mono ?_; rintro e w2 ⟨A2, c2, rfl, O2, B2⟩
          obtain ⟨wc, hwc⟩ : ∃ wc, wc = w2 := ⟨_, rfl⟩
          subst hwc
          have hC : OB wc (w.alloc (.cells #[.bool false, .slice none 0 0, .slice none 0 0, .bool false, .slice none 0 0, .slice none 0 0] 27)).heap.size A2 c2 C := by rw [HC.out]; exact O2
          have BC := B2
          rcases OM.form hC with ⟨_, _, he⟩ | ⟨gc, rfl, hgc, _, _⟩
          · exact absurd (by rw [← HCl.out, he]; rfl) (show ¬ s = 0 by omega)
          clear O2
          have hct := OM.cell hC (bg_get? (l := C) (k := t) (by have := HCl.out; omega))
          simp only [f8] at hct
          have hxt := (bg C t).toNat_lt
          go_wp2_with (at_make; refine wp_makeW _ rfl _ _ rfl .i64 .i64 _ _ (s / 4 + 1) rfl rfl (by omega) (by omega) (by omega) ?_; intro w4 hO1 hb1 hs1)
          clear hct hxt
          have hC4 : OB w4 (w.alloc (.cells #[.bool false, .slice none 0 0, .slice none 0 0, .bool false, .slice none 0 0, .slice none 0 0] 27)).heap.size (some ⟨gc, 0, none⟩) c2 C := OM.below hC hb1 (Nat.le_refl _)
          have hgcw : gc < wc.heap.size := (OM.lt hC).2
          clear hC
          go_loopg [49] s (fun gg iv wr => ∃ (k : Nat) (o : List Nat), k ≤ s ∧ s - k = gg ∧ iv = .int .i64 (k : Int) ∧ OW wr wc.heap.size (some ⟨wc.heap.size, 0, none⟩) (s / 4 + 1) o ∧ Hid (o.length = s / 4 + 1) ∧ Hid (val o = lv (C.take k)) ∧ Below wc.heap.size wc wr)
          case atStart => exact ⟨0, _, Nat.zero_le _, rfl, rfl, hO1, by show _ = _; simp, by show _ = _; rw [val_replicate]; rfl, hb1⟩
          case round =>
            obtain ⟨k, o, hk, rfl, rfl, hO, hol, hv, hbel⟩ := hrel
            by_cases h0 : k < s
            · have hkC : k < C.length := by have := HCl.out; omega
              have hCr := OM.kept hC4 (fun g hg => by simp only [Option.some.injEq, Addr.mk.injEq, and_true] at hg; subst hg; exact (hbel.block gc hgcw).trans (hb1.block gc hgcw).symm)
              have hok : k / 4 < o.length := by have := hol.out; omega
              have hoc := hO.cell hok
              have hfz := hO.frozen (k / 4)
              have hck := OM.cell hCr (bg_get? (l := C) (k := k) (by omega))
              simp only [f8] at hck
              have hs24 : 8 * (k % 4) < 32 := by omega
              have hlow := wd_low hO.b32 (k := k) (by rw [hv.out]; exact Nat.lt_of_lt_of_le (lv_lt _) (Nat.pow_le_pow_right (by omega) (by rw [List.length_take]; omega)))
              obtain ⟨ho1, ho2⟩ := or_shlo (x := (bg C k).toNat) hs24 hlow
              have e1 := shlo_int (bg C k).toNat (8 * (k % 4))
              have e3 : bits .or .u32 (wd o (k / 4) : Int) (shlo (bg C k).toNat (8 * (k % 4)) : Int) = ((wd o (k / 4) + shlo (bg C k).toNat (8 * (k % 4)) : Nat) : Int) := by
                rw [u32_or_nat _ _ (by have := wd_lt hO.b32 (k / 4); omega) (shlo_lt _ _), ho1]
              have hset := hO.set (k / 4) ho2
              have hstep := Lib.hid (put_step hkC hok hv.out)
              have hbel2 := hbel.setCell (p := ⟨wc.heap.size, k / 4, none⟩) (Nat.le_refl _) (.int .u32 ((wd o (k / 4) + shlo (bg C k).toNat (8 * (k % 4)) : Nat) : Int))
              go_wp2_with fail
              have e0 : ((bg C k).toNat : Int) % 4294967296 = ((bg C k).toNat : Int) := by have := (bg C k).toNat_lt; omega
              simp only [Int.natCast_add] at hset hbel2 e3
              go_region
              go_wp2_with fail
              go_roundg (s - (k + 1))
              case measure => omega
              case rel => exact ⟨k + 1, _, by omega, rfl, by go_num, hset, by show _ = _; rw [List.length_set]; exact hol.out, hstep, Below.drew hbel2⟩
            · obtain rfl : k = s := by omega
              have hvC : val o = lv C := by have := hv.out; rw [List.take_of_length_le (by rw [HCl.out]; omega)] at this; exact this
              have hOn := hO.norm
              rw [hvC] at hOn
              have hlo : o.length = k / 4 + 1 := hol.out
              have htl := trim_len hO.b32
              rw [hvC] at htl
              have hT := fun w' x => trim_any (some ⟨wc.heap.size, 0, none⟩) (k / 4 + 1) (k / 4 + 1) o w' hlo.symm x
              rw [htl] at hT
              have hle := trimN_le o o.length
              rw [htl, hlo] at hle
              have HVC := Lib.hid hvC
              clear hvC htl hlo h0
              go_wp2_with fail
              refine (int0_any wr).mono ?_; rintro e w5 ⟨A5, c5, D5, d5, A6, c6, D6, d6, rfl, P1, P2, P3, P4, B5⟩
              go_wp2_with fail
              refine (hT _ (st (st hO.rw B5) (bal _ _))).mono ?_; rintro e w' ⟨rfl, rfl⟩
              have B6 := bal w5 (.cells #[.bool (qn 0), .slice (some ⟨wc.heap.size, 0, none⟩) (digs (lv C)).length (k / 4 + 1), .slice D5 (digs (qd 0)).length d5, .bool (qn 0), .slice A6 (digs (qt 0)).length c6, .slice D6 (digs (qd 0)).length d6] 27)
              have hsc := ((((S1.nx BC).nx hbel).nx B5).nx B6)
              have hRC := hsc.rc (n := 6)
              have hbc : w.heap.size < wc.heap.size := (S1.nx BC).2
              have hbr : w.heap.size < wr.heap.size := ((S1.nx BC).nx hbel).2
              go_wp2_with (refine wp_st6 rfl (.tmp 10) (.tmp 88) rfl _ rfl _ _ _ _ _ _ rfl hRC rfl rfl rfl rfl rfl rfl ?_)
              have s6 := hRC.put6 (.bool (qn 0)) (.slice (some ⟨wc.heap.size, 0, none⟩) (digs (lv C)).length (k / 4 + 1)) (.slice D5 (digs (qd 0)).length d5) (.bool (qn 0)) (.slice A6 (digs (qt 0)).length c6) (.slice D6 (digs (qd 0)).length d6)
              have B7 := wr6_below (b := w.heap.size) (bt (bt (bt (bt B1 BC) hbel) B5) B6) (Nat.le_refl _) (.bool (qn 0)) (.slice (some ⟨wc.heap.size, 0, none⟩) (digs (lv C)).length (k / 4 + 1)) (.slice D5 (digs (qd 0)).length d5) (.bool (qn 0)) (.slice A6 (digs (qt 0)).length c6) (.slice D6 (digs (qd 0)).length d6)
              have Oa := ((hOn.below B5 (Nat.le_refl _)).alloc (.cells #[.bool (qn 0), .slice (some ⟨wc.heap.size, 0, none⟩) (digs (lv C)).length (k / 4 + 1), .slice D5 (digs (qd 0)).length d5, .bool (qn 0), .slice A6 (digs (qt 0)).length c6, .slice D6 (digs (qd 0)).length d6] 27)).put6 (b := w.heap.size) hbc (.bool (qn 0)) (.slice (some ⟨wc.heap.size, 0, none⟩) (digs (lv C)).length (k / 4 + 1)) (.slice D5 (digs (qd 0)).length d5) (.bool (qn 0)) (.slice A6 (digs (qt 0)).length c6) (.slice D6 (digs (qd 0)).length d6)
              have Ob := (P2.alloc (.cells #[.bool (qn 0), .slice (some ⟨wc.heap.size, 0, none⟩) (digs (lv C)).length (k / 4 + 1), .slice D5 (digs (qd 0)).length d5, .bool (qn 0), .slice A6 (digs (qt 0)).length c6, .slice D6 (digs (qd 0)).length d6] 27)).put6 (b := w.heap.size) hbr (.bool (qn 0)) (.slice (some ⟨wc.heap.size, 0, none⟩) (digs (lv C)).length (k / 4 + 1)) (.slice D5 (digs (qd 0)).length d5) (.bool (qn 0)) (.slice A6 (digs (qt 0)).length c6) (.slice D6 (digs (qd 0)).length d6)
              have Oc := (P3.alloc (.cells #[.bool (qn 0), .slice (some ⟨wc.heap.size, 0, none⟩) (digs (lv C)).length (k / 4 + 1), .slice D5 (digs (qd 0)).length d5, .bool (qn 0), .slice A6 (digs (qt 0)).length c6, .slice D6 (digs (qd 0)).length d6] 27)).put6 (b := w.heap.size) hbr (.bool (qn 0)) (.slice (some ⟨wc.heap.size, 0, none⟩) (digs (lv C)).length (k / 4 + 1)) (.slice D5 (digs (qd 0)).length d5) (.bool (qn 0)) (.slice A6 (digs (qt 0)).length c6) (.slice D6 (digs (qd 0)).length d6)
              have Od := (P4.alloc (.cells #[.bool (qn 0), .slice (some ⟨wc.heap.size, 0, none⟩) (digs (lv C)).length (k / 4 + 1), .slice D5 (digs (qd 0)).length d5, .bool (qn 0), .slice A6 (digs (qt 0)).length c6, .slice D6 (digs (qd 0)).length d6] 27)).put6 (b := w.heap.size) hbr (.bool (qn 0)) (.slice (some ⟨wc.heap.size, 0, none⟩) (digs (lv C)).length (k / 4 + 1)) (.slice D5 (digs (qd 0)).length d5) (.bool (qn 0)) (.slice A6 (digs (qt 0)).length c6) (.slice D6 (digs (qd 0)).length d6)
              have r0' := s6.cell 0
              have r1' := s6.cell 1
              have r2' := s6.cell 2
              have r3' := s6.cell 3
              have r4' := s6.cell 4
              have r5' := s6.cell 5
              refine bodyPost_ret (v := .tuple #[.agg #[.bool (qn 0), .slice (some ⟨wc.heap.size, 0, none⟩) (digs (lv C)).length (k / 4 + 1), .slice D5 (digs (qd 0)).length d5, .bool (qn 0), .slice A6 (digs (qt 0)).length c6, .slice D6 (digs (qd 0)).length d6], .int .i64 0]) (by simp [results, r0', r1', r2', r3', r4', r5', go_sem]) rfl ?_
              exact ⟨_, _, D5, d5, A6, c6, D6, d6, rfl, Oa.base_le (Nat.le_of_lt hbc), Ob.base_le (Nat.le_of_lt hbr), Oc.base_le (Nat.le_of_lt hbr), Od.base_le (Nat.le_of_lt hbr), B7⟩
    | true =>
      obtain ⟨C, hC⟩ : ∃ C, C = ((l.drop a).take s).reverse := ⟨_, rfl⟩
      rw [show leB l a s true = C by rw [hC]; rfl]
      have HC := Lib.hid hC
      have HCl : Hid (C.length = s) := by show _ = _; rw [hC, List.length_reverse]; exact hls.out
      have hlt : Hid (lv C < PW) := by show _ < _; rw [← HPn.out, ← HCl.out]; exact lv_lt C
      clear hC
      cases signed with
      | false =>
        rw [show (false && decide (128 ≤ (bg C t).toNat)) = false from rfl, if_neg (by simp), rwq_pos]
        go_enter Try.func8, Try.ntmps8
        go_wp2_with fail
        refine hin.mono ?_; rintro e w' ⟨rfl, rfl⟩
        go_wp2_with fail
        refine hcl.mono ?_; rintro e w2 ⟨A2, c2, rfl, O2, B2⟩
        go_wp2_with fail
        refine (reverse_any A2 c2 s _ w2 _ hls.out.symm O2).mono ?_; rintro e wc ⟨rfl, O3, B3⟩
        have hC : OB wc (w.alloc (.cells #[.bool false, .slice none 0 0, .slice none 0 0, .bool false, .slice none 0 0, .slice none 0 0] 27)).heap.size A2 c2 C := by rw [HC.out]; exact O3
        have BC := B2.trans B3
        rcases OM.form hC with ⟨_, _, he⟩ | ⟨gc, rfl, hgc, _, _⟩
        · exact absurd (by rw [← HCl.out, he]; rfl) (show ¬ s = 0 by omega)
        clear O2
        go_wp2_with (at_make; refine wp_makeW _ rfl _ _ rfl .i64 .i64 _ _ (s / 4 + 1) rfl rfl (by omega) (by omega) (by omega) ?_; intro w4 hO1 hb1 hs1)
        have hC4 : OB w4 (w.alloc (.cells #[.bool false, .slice none 0 0, .slice none 0 0, .bool false, .slice none 0 0, .slice none 0 0] 27)).heap.size (some ⟨gc, 0, none⟩) c2 C := OM.below hC hb1 (Nat.le_refl _)
        have hgcw : gc < wc.heap.size := (OM.lt hC).2
        clear hC
        go_loopg [49] s (fun gg iv wr => ∃ (k : Nat) (o : List Nat), k ≤ s ∧ s - k = gg ∧ iv = .int .i64 (k : Int) ∧ OW wr wc.heap.size (some ⟨wc.heap.size, 0, none⟩) (s / 4 + 1) o ∧ Hid (o.length = s / 4 + 1) ∧ Hid (val o = lv (C.take k)) ∧ Below wc.heap.size wc wr)
        case atStart => exact ⟨0, _, Nat.zero_le _, rfl, rfl, hO1, by show _ = _; simp, by show _ = _; rw [val_replicate]; rfl, hb1⟩
        case round =>
          obtain ⟨k, o, hk, rfl, rfl, hO, hol, hv, hbel⟩ := hrel
          by_cases h0 : k < s
          · have hkC : k < C.length := by have := HCl.out; omega
            have hCr := OM.kept hC4 (fun g hg => by simp only [Option.some.injEq, Addr.mk.injEq, and_true] at hg; subst hg; exact (hbel.block gc hgcw).trans (hb1.block gc hgcw).symm)
            have hok : k / 4 < o.length := by have := hol.out; omega
            have hoc := hO.cell hok
            have hfz := hO.frozen (k / 4)
            have hck := OM.cell hCr (bg_get? (l := C) (k := k) (by omega))
            simp only [f8] at hck
            have hs24 : 8 * (k % 4) < 32 := by omega
            have hlow := wd_low hO.b32 (k := k) (by rw [hv.out]; exact Nat.lt_of_lt_of_le (lv_lt _) (Nat.pow_le_pow_right (by omega) (by rw [List.length_take]; omega)))
            obtain ⟨ho1, ho2⟩ := or_shlo (x := (bg C k).toNat) hs24 hlow
            have e1 := shlo_int (bg C k).toNat (8 * (k % 4))
            have e3 : bits .or .u32 (wd o (k / 4) : Int) (shlo (bg C k).toNat (8 * (k % 4)) : Int) = ((wd o (k / 4) + shlo (bg C k).toNat (8 * (k % 4)) : Nat) : Int) := by
              rw [u32_or_nat _ _ (by have := wd_lt hO.b32 (k / 4); omega) (shlo_lt _ _), ho1]
            have hset := hO.set (k / 4) ho2
            have hstep := Lib.hid (put_step hkC hok hv.out)
            have hbel2 := hbel.setCell (p := ⟨wc.heap.size, k / 4, none⟩) (Nat.le_refl _) (.int .u32 ((wd o (k / 4) + shlo (bg C k).toNat (8 * (k % 4)) : Nat) : Int))
            go_wp2_with fail
            have e0 : ((bg C k).toNat : Int) % 4294967296 = ((bg C k).toNat : Int) := by have := (bg C k).toNat_lt; omega
            simp only [Int.natCast_add] at hset hbel2 e3
            go_region
            go_wp2_with fail
            go_roundg (s - (k + 1))
            case measure => omega
            case rel => exact ⟨k + 1, _, by omega, rfl, by go_num, hset, by show _ = _; rw [List.length_set]; exact hol.out, hstep, Below.drew hbel2⟩
          · obtain rfl : k = s := by omega
            have hvC : val o = lv C := by have := hv.out; rw [List.take_of_length_le (by rw [HCl.out]; omega)] at this; exact this
            have hOn := hO.norm
            rw [hvC] at hOn
            have hlo : o.length = k / 4 + 1 := hol.out
            have htl := trim_len hO.b32
            rw [hvC] at htl
            have hT := fun w' x => trim_any (some ⟨wc.heap.size, 0, none⟩) (k / 4 + 1) (k / 4 + 1) o w' hlo.symm x
            rw [htl] at hT
            have hle := trimN_le o o.length
            rw [htl, hlo] at hle
            have HVC := Lib.hid hvC
            clear hvC htl hlo h0
            go_wp2_with fail
            refine (int0_any wr).mono ?_; rintro e w5 ⟨A5, c5, D5, d5, A6, c6, D6, d6, rfl, P1, P2, P3, P4, B5⟩
            go_wp2_with fail
            refine (hT _ (st (st hO.rw B5) (bal _ _))).mono ?_; rintro e w' ⟨rfl, rfl⟩
            have B6 := bal w5 (.cells #[.bool (qn 0), .slice (some ⟨wc.heap.size, 0, none⟩) (digs (lv C)).length (k / 4 + 1), .slice D5 (digs (qd 0)).length d5, .bool (qn 0), .slice A6 (digs (qt 0)).length c6, .slice D6 (digs (qd 0)).length d6] 27)
            have hsc := ((((S1.nx BC).nx hbel).nx B5).nx B6)
            have hRC := hsc.rc (n := 6)
            have hbc : w.heap.size < wc.heap.size := (S1.nx BC).2
            have hbr : w.heap.size < wr.heap.size := ((S1.nx BC).nx hbel).2
            go_wp2_with (refine wp_st6 rfl (.tmp 10) (.tmp 88) rfl _ rfl _ _ _ _ _ _ rfl hRC rfl rfl rfl rfl rfl rfl ?_)
            have s6 := hRC.put6 (.bool (qn 0)) (.slice (some ⟨wc.heap.size, 0, none⟩) (digs (lv C)).length (k / 4 + 1)) (.slice D5 (digs (qd 0)).length d5) (.bool (qn 0)) (.slice A6 (digs (qt 0)).length c6) (.slice D6 (digs (qd 0)).length d6)
            have B7 := wr6_below (b := w.heap.size) (bt (bt (bt (bt B1 BC) hbel) B5) B6) (Nat.le_refl _) (.bool (qn 0)) (.slice (some ⟨wc.heap.size, 0, none⟩) (digs (lv C)).length (k / 4 + 1)) (.slice D5 (digs (qd 0)).length d5) (.bool (qn 0)) (.slice A6 (digs (qt 0)).length c6) (.slice D6 (digs (qd 0)).length d6)
            have Oa := ((hOn.below B5 (Nat.le_refl _)).alloc (.cells #[.bool (qn 0), .slice (some ⟨wc.heap.size, 0, none⟩) (digs (lv C)).length (k / 4 + 1), .slice D5 (digs (qd 0)).length d5, .bool (qn 0), .slice A6 (digs (qt 0)).length c6, .slice D6 (digs (qd 0)).length d6] 27)).put6 (b := w.heap.size) hbc (.bool (qn 0)) (.slice (some ⟨wc.heap.size, 0, none⟩) (digs (lv C)).length (k / 4 + 1)) (.slice D5 (digs (qd 0)).length d5) (.bool (qn 0)) (.slice A6 (digs (qt 0)).length c6) (.slice D6 (digs (qd 0)).length d6)
            have Ob := (P2.alloc (.cells #[.bool (qn 0), .slice (some ⟨wc.heap.size, 0, none⟩) (digs (lv C)).length (k / 4 + 1), .slice D5 (digs (qd 0)).length d5, .bool (qn 0), .slice A6 (digs (qt 0)).length c6, .slice D6 (digs (qd 0)).length d6] 27)).put6 (b := w.heap.size) hbr (.bool (qn 0)) (.slice (some ⟨wc.heap.size, 0, none⟩) (digs (lv C)).length (k / 4 + 1)) (.slice D5 (digs (qd 0)).length d5) (.bool (qn 0)) (.slice A6 (digs (qt 0)).length c6) (.slice D6 (digs (qd 0)).length d6)
            have Oc := (P3.alloc (.cells #[.bool (qn 0), .slice (some ⟨wc.heap.size, 0, none⟩) (digs (lv C)).length (k / 4 + 1), .slice D5 (digs (qd 0)).length d5, .bool (qn 0), .slice A6 (digs (qt 0)).length c6, .slice D6 (digs (qd 0)).length d6] 27)).put6 (b := w.heap.size) hbr (.bool (qn 0)) (.slice (some ⟨wc.heap.size, 0, none⟩) (digs (lv C)).length (k / 4 + 1)) (.slice D5 (digs (qd 0)).length d5) (.bool (qn 0)) (.slice A6 (digs (qt 0)).length c6) (.slice D6 (digs (qd 0)).length d6)
            have Od := (P4.alloc (.cells #[.bool (qn 0), .slice (some ⟨wc.heap.size, 0, none⟩) (digs (lv C)).length (k / 4 + 1), .slice D5 (digs (qd 0)).length d5, .bool (qn 0), .slice A6 (digs (qt 0)).length c6, .slice D6 (digs (qd 0)).length d6] 27)).put6 (b := w.heap.size) hbr (.bool (qn 0)) (.slice (some ⟨wc.heap.size, 0, none⟩) (digs (lv C)).length (k / 4 + 1)) (.slice D5 (digs (qd 0)).length d5) (.bool (qn 0)) (.slice A6 (digs (qt 0)).length c6) (.slice D6 (digs (qd 0)).length d6)
            have r0' := s6.cell 0
            have r1' := s6.cell 1
            have r2' := s6.cell 2
            have r3' := s6.cell 3
            have r4' := s6.cell 4
            have r5' := s6.cell 5
            refine bodyPost_ret (v := .tuple #[.agg #[.bool (qn 0), .slice (some ⟨wc.heap.size, 0, none⟩) (digs (lv C)).length (k / 4 + 1), .slice D5 (digs (qd 0)).length d5, .bool (qn 0), .slice A6 (digs (qt 0)).length c6, .slice D6 (digs (qd 0)).length d6], .int .i64 0]) (by simp [results, r0', r1', r2', r3', r4', r5', go_sem]) rfl ?_
            exact ⟨_, _, D5, d5, A6, c6, D6, d6, rfl, Oa.base_le (Nat.le_of_lt hbc), Ob.base_le (Nat.le_of_lt hbr), Oc.base_le (Nat.le_of_lt hbr), Od.base_le (Nat.le_of_lt hbr), B7⟩
      | true =>
        by_cases hng : 128 ≤ (bg C t).toNat
        · rw [show (true && decide (128 ≤ (bg C t).toNat)) = true by rw [decide_eq_true hng]; rfl, if_pos rfl, HPW.out, rwq_neg hlt.out]
          go_enter Try.func8, Try.ntmps8
          go_wp2_with fail
          refine hin.mono ?_; rintro e w' ⟨rfl, rfl⟩
          go_wp2_with fail
          refine hcl.mono ?_; rintro e w2 ⟨A2, c2, rfl, O2, B2⟩
          go_wp2_with fail
          refine (reverse_any A2 c2 s _ w2 _ hls.out.symm O2).mono ?_; rintro e wc ⟨rfl, O3, B3⟩
          have hC : OB wc (w.alloc (.cells #[.bool false, .slice none 0 0, .slice none 0 0, .bool false, .slice none 0 0, .slice none 0 0] 27)).heap.size A2 c2 C := by rw [HC.out]; exact O3
          have BC := B2.trans B3
          rcases OM.form hC with ⟨_, _, he⟩ | ⟨gc, rfl, hgc, _, _⟩
          · exact absurd (by rw [← HCl.out, he]; rfl) (show ¬ s = 0 by omega)
          clear O2
          have hct := OM.cell hC (bg_get? (l := C) (k := t) (by have := HCl.out; omega))
          simp only [f8] at hct
          have hxt := (bg C t).toNat_lt
          go_wp2_with (at_make; refine wp_makeW _ rfl _ _ rfl .i64 .i64 _ _ (s / 4 + 1) rfl rfl (by omega) (by omega) (by omega) ?_; intro w4 hO1 hb1 hs1)
          clear hct hxt
          have hC4 : OB w4 (w.alloc (.cells #[.bool false, .slice none 0 0, .slice none 0 0, .bool false, .slice none 0 0, .slice none 0 0] 27)).heap.size (some ⟨gc, 0, none⟩) c2 C := OM.below hC hb1 (Nat.le_refl _)
          have hgcw : gc < wc.heap.size := (OM.lt hC).2
          clear hC
          go_loopg [49] s (fun gg iv wr => ∃ (k : Nat) (o : List Nat), k ≤ s ∧ s - k = gg ∧ iv = .int .i64 (k : Int) ∧ OW wr wc.heap.size (some ⟨wc.heap.size, 0, none⟩) (s / 4 + 1) o ∧ Hid (o.length = s / 4 + 1) ∧ Hid (val o = lv (C.take k)) ∧ Below wc.heap.size wc wr)
          case atStart => exact ⟨0, _, Nat.zero_le _, rfl, rfl, hO1, by show _ = _; simp, by show _ = _; rw [val_replicate]; rfl, hb1⟩
          case round =>
            obtain ⟨k, o, hk, rfl, rfl, hO, hol, hv, hbel⟩ := hrel
            by_cases h0 : k < s
            · have hkC : k < C.length := by have := HCl.out; omega
              have hCr := OM.kept hC4 (fun g hg => by simp only [Option.some.injEq, Addr.mk.injEq, and_true] at hg; subst hg; exact (hbel.block gc hgcw).trans (hb1.block gc hgcw).symm)
              have hok : k / 4 < o.length := by have := hol.out; omega
              have hoc := hO.cell hok
              have hfz := hO.frozen (k / 4)
              have hck := OM.cell hCr (bg_get? (l := C) (k := k) (by omega))
              simp only [f8] at hck
              have hs24 : 8 * (k % 4) < 32 := by omega
              have hlow := wd_low hO.b32 (k := k) (by rw [hv.out]; exact Nat.lt_of_lt_of_le (lv_lt _) (Nat.pow_le_pow_right (by omega) (by rw [List.length_take]; omega)))
              obtain ⟨ho1, ho2⟩ := or_shlo (x := (bg C k).toNat) hs24 hlow
              have e1 := shlo_int (bg C k).toNat (8 * (k % 4))
              have e3 : bits .or .u32 (wd o (k / 4) : Int) (shlo (bg C k).toNat (8 * (k % 4)) : Int) = ((wd o (k / 4) + shlo (bg C k).toNat (8 * (k % 4)) : Nat) : Int) := by
                rw [u32_or_nat _ _ (by have := wd_lt hO.b32 (k / 4); omega) (shlo_lt _ _), ho1]
              have hset := hO.set (k / 4) ho2
              have hstep := Lib.hid (put_step hkC hok hv.out)
              have hbel2 := hbel.setCell (p := ⟨wc.heap.size, k / 4, none⟩) (Nat.le_refl _) (.int .u32 ((wd o (k / 4) + shlo (bg C k).toNat (8 * (k % 4)) : Nat) : Int))
              go_wp2_with fail
              have e0 : ((bg C k).toNat : Int) % 4294967296 = ((bg C k).toNat : Int) := by have := (bg C k).toNat_lt; omega
              simp only [Int.natCast_add] at hset hbel2 e3
              go_region
              go_wp2_with fail
              go_roundg (s - (k + 1))
              case measure => omega
              case rel => exact ⟨k + 1, _, by omega, rfl, by go_num, hset, by show _ = _; rw [List.length_set]; exact hol.out, hstep, Below.drew hbel2⟩
            · obtain rfl : k = s := by omega
              have hvC : val o = lv C := by have := hv.out; rw [List.take_of_length_le (by rw [HCl.out]; omega)] at this; exact this
              have hOn := hO.norm
              rw [hvC] at hOn
              have hlo : o.length = k / 4 + 1 := hol.out
              have htl := trim_len hO.b32
              rw [hvC] at htl
              have hT := fun w' x => trim_any (some ⟨wc.heap.size, 0, none⟩) (k / 4 + 1) (k / 4 + 1) o w' hlo.symm x
              rw [htl] at hT
              have hle := trimN_le o o.length
              rw [htl, hlo] at hle
              have HVC := Lib.hid hvC
              clear hvC htl hlo h0
              go_wp2_with fail
              refine (int0_any wr).mono ?_; rintro e w5 ⟨A5, c5, D5, d5, A6, c6, D6, d6, rfl, P1, P2, P3, P4, B5⟩
              go_wp2_with fail
              refine (hT _ (st (st hO.rw B5) (bal _ _))).mono ?_; rintro e w' ⟨rfl, rfl⟩
              have B6 := bal w5 (.cells #[.bool (qn 0), .slice (some ⟨wc.heap.size, 0, none⟩) (digs (lv C)).length (k / 4 + 1), .slice D5 (digs (qd 0)).length d5, .bool (qn 0), .slice A6 (digs (qt 0)).length c6, .slice D6 (digs (qd 0)).length d6] 27)
              have hsc := ((((S1.nx BC).nx hbel).nx B5).nx B6)
              have hRC := hsc.rc (n := 6)
              have hbc : w.heap.size < wc.heap.size := (S1.nx BC).2
              have hbr : w.heap.size < wr.heap.size := ((S1.nx BC).nx hbel).2
              have S17 := SB.new w5 [.bool (qn 0), .slice (some ⟨wc.heap.size, 0, none⟩) (digs (lv C)).length (k / 4 + 1), .slice D5 (digs (qd 0)).length d5, .bool (qn 0), .slice A6 (digs (qt 0)).length c6, .slice D6 (digs (qd 0)).length d6] 27
              have z5 : (w5.alloc (.cells #[.bool (qn 0), .slice (some ⟨wc.heap.size, 0, none⟩) (digs (lv C)).length (k / 4 + 1), .slice D5 (digs (qd 0)).length d5, .bool (qn 0), .slice A6 (digs (qt 0)).length c6, .slice D6 (digs (qd 0)).length d6] 27)).heap.size = w5.heap.size + 1 := by simp
              obtain ⟨W6, hW6⟩ : ∃ W6, W6 = w5.alloc (.cells #[.bool (qn 0), .slice (some ⟨wc.heap.size, 0, none⟩) (digs (lv C)).length (k / 4 + 1), .slice D5 (digs (qd 0)).length d5, .bool (qn 0), .slice A6 (digs (qt 0)).length c6, .slice D6 (digs (qd 0)).length d6] 27) := ⟨_, rfl⟩
              have ew : IntKind.i64.wrap (8 * (k : Int)) = 8 * (k : Int) := IntWalk.i64_in _ (by omega)
              have RT6 : RW W6 W6.heap.size (some ⟨wc.heap.size, 0, none⟩) (k / 4 + 1) (digs (lv C)) := by rw [hW6]; exact st (st hOn.rw B5) B6
              rw [← hW6] at S17 B6 hsc hRC z5
              have BU := Below.drew (bal W6 (.cells #[.int .u32 (1 : Nat)] 53))
              have RU := (RW.one W6 53 (show 1 < 4294967296 by omega)).step (Below.drew (Below.refl _ _)) (Nat.le_refl _)
              have hU := up_any (some ⟨W6.heap.size, 0, none⟩) 1 1 [1] ((W6.alloc (.cells #[.int .u32 (1 : Nat)] 53)).drew) (8 * k) (by omega) rfl (RU.more (by show _ ≤ (W6.alloc _).heap.size; simp <;> omega)) (by simp)
              rw [val_one, Nat.one_mul, ← pow8, HPn.out, show ((8 * k : Nat) : Int) = 8 * (k : Int) by omega] at hU
              have SU := S17.nx BU
              have RTU := st RT6 BU
              have hL := fun A7 c7 w' x y => less_any A7 (some ⟨wc.heap.size, 0, none⟩) c7 (k / 4 + 1) _ _ (digs PW) (digs (lv C)) w' rfl rfl x y (digs_mono (Nat.le_of_lt hlt.out)) (by rw [val_digs, val_digs]; exact Nat.le_of_lt hlt.out)
              simp only [val_digs] at hL
              have hRU := hRC.nx BU
              have BU2 := bt (bt (bt (bt B1 BC) hbel) B5) (bt B6 BU)
              have m0 := SU.cell 0
              have m1 := SU.cell 1
              have x0 := S17.cell 0
              have x1 := S17.cell 1
              have y1 : (W6.alloc (.cells #[.int .u32 (1 : Int)] 53)).cell? ⟨w5.heap.size, 1, none⟩ = _ := (S17.nx (bal W6 _)).cell 1
              clear S17 hRC hsc
              go_wp2_with fail
              try rw [← hW6]
              clear hW6 z5
              go_region_with (first | (go_at_call 29; refine hU.mono ?_; rintro e w7 ⟨A7, c7, rfl, O7, B7⟩; have S7 := SU.nx B7; have q1 := S7.cell 1) | (go_at_call 28; refine (hL A7 c7 w7 O7.rw (st RTU B7)).mono ?_; rintro e w8 ⟨A8, c8, rfl, O8, B8⟩; have S8 := S7.nx B8; have p0 := S8.cell 0; have p1 := S8.cell 1; have f0 := S8.frozen 0; have f1 := S8.frozen 1))
              all_goals
                have BF := ((bt (bt (bt B6 BU) B7) B8).setCell (p := ⟨w5.heap.size, 0, none⟩) (Nat.le_refl _) (.bool true)).setCell (p := ⟨w5.heap.size, 1, none⟩) (Nat.le_refl _) (.slice A8 (digs (PW - lv C)).length c8)
                have h57 : w5.heap.size < w7.heap.size := (SU.nx B7).2
                have hn8 : ∀ g, A8 = some ⟨g, 0, none⟩ → g ≠ w5.heap.size := fun g hg => by subst hg; have := O8.lt.1; omega
                have OT := (O8.far (p := ⟨w5.heap.size, 0, none⟩) hn8 (.bool true)).far (p := ⟨w5.heap.size, 1, none⟩) hn8 (.slice A8 (digs (PW - lv C)).length c8)
                have P2f := P2.below BF (Nat.le_refl _)
                have P3f := P3.below BF (Nat.le_refl _)
                have P4f := P4.below BF (Nat.le_refl _)
                have S9 := (S8.set 0 (.bool true)).set 1 (.slice A8 (digs (PW - lv C)).length c8)
                have q0 := S9.cell 0
                have q1 := S9.cell 1
                have q2 := S9.cell 2
                have q3 := S9.cell 3
                have q4 := S9.cell 4
                have q5 := S9.cell 5
                have hb5 : w.heap.size < w5.heap.size := (((S1.nx BC).nx hbel).nx B5).2
                have hRC := ((((hRU.nx B7).nx B8).sb.far (p := ⟨w5.heap.size, 0, none⟩) (by show _ ≠ w5.heap.size; omega) (.bool true)).far (p := ⟨w5.heap.size, 1, none⟩) (by show _ ≠ w5.heap.size; omega) (.slice A8 (digs (PW - lv C)).length c8)).rc (n := 6) (by simp)
                clear S7 S8 S9 SU p0 p1 f0 f1
                go_wp2_with (refine wp_st6 rfl (.tmp 10) (.tmp 88) rfl _ rfl _ _ _ _ _ _ rfl hRC rfl rfl rfl rfl rfl rfl ?_)
                have s6 := hRC.put6 (.bool true) (.slice A8 (digs (PW - lv C)).length c8) (.slice D5 (digs (qd 0)).length d5) (.bool (qn 0)) (.slice A6 (digs (qt 0)).length c6) (.slice D6 (digs (qd 0)).length d6)
                have BZ := wr6_below (b := w.heap.size) (bt (bt (bt (bt B1 BC) hbel) B5) BF) (Nat.le_refl _) (.bool true) (.slice A8 (digs (PW - lv C)).length c8) (.slice D5 (digs (qd 0)).length d5) (.bool (qn 0)) (.slice A6 (digs (qt 0)).length c6) (.slice D6 (digs (qd 0)).length d6)
                have Oa := OT.put6 (b := w.heap.size) (by omega) (.bool true) (.slice A8 (digs (PW - lv C)).length c8) (.slice D5 (digs (qd 0)).length d5) (.bool (qn 0)) (.slice A6 (digs (qt 0)).length c6) (.slice D6 (digs (qd 0)).length d6)
                have Ob := P2f.put6 (b := w.heap.size) hbr (.bool true) (.slice A8 (digs (PW - lv C)).length c8) (.slice D5 (digs (qd 0)).length d5) (.bool (qn 0)) (.slice A6 (digs (qt 0)).length c6) (.slice D6 (digs (qd 0)).length d6)
                have Oc := P3f.put6 (b := w.heap.size) hbr (.bool true) (.slice A8 (digs (PW - lv C)).length c8) (.slice D5 (digs (qd 0)).length d5) (.bool (qn 0)) (.slice A6 (digs (qt 0)).length c6) (.slice D6 (digs (qd 0)).length d6)
                have Od := P4f.put6 (b := w.heap.size) hbr (.bool true) (.slice A8 (digs (PW - lv C)).length c8) (.slice D5 (digs (qd 0)).length d5) (.bool (qn 0)) (.slice A6 (digs (qt 0)).length c6) (.slice D6 (digs (qd 0)).length d6)
                have r0' := s6.cell 0
                have r1' := s6.cell 1
                have r2' := s6.cell 2
                have r3' := s6.cell 3
                have r4' := s6.cell 4
                have r5' := s6.cell 5
                refine bodyPost_ret (v := .tuple #[.agg #[.bool true, .slice A8 (digs (PW - lv C)).length c8, .slice D5 (digs (qd 0)).length d5, .bool (qn 0), .slice A6 (digs (qt 0)).length c6, .slice D6 (digs (qd 0)).length d6], .int .i64 0]) (by simp [results, r0', r1', r2', r3', r4', r5', go_sem]) rfl ?_
                have hle7 : w.heap.size ≤ w7.heap.size := by omega
                exact ⟨A8, c8, D5, d5, A6, c6, D6, d6, rfl, Oa.base_le hle7, Ob.base_le (Nat.le_of_lt hbr), Oc.base_le (Nat.le_of_lt hbr), Od.base_le (Nat.le_of_lt hbr), BZ⟩
        · rw [show (true && decide (128 ≤ (bg C t).toNat)) = false by rw [decide_eq_false hng]; rfl, if_neg (by simp), rwq_pos]
          go_enter Try.func8, Try.ntmps8
          go_wp2_with fail
          refine hin.mono ?_; rintro e w' ⟨rfl, rfl⟩
          go_wp2_with fail
          refine hcl.mono ?_; rintro e w2 ⟨A2, c2, rfl, O2, B2⟩
          go_wp2_with fail
          refine (reverse_any A2 c2 s _ w2 _ hls.out.symm O2).mono ?_; rintro e wc ⟨rfl, O3, B3⟩
          have hC : OB wc (w.alloc (.cells #[.bool false, .slice none 0 0, .slice none 0 0, .bool false, .slice none 0 0, .slice none 0 0] 27)).heap.size A2 c2 C := by rw [HC.out]; exact O3
          have BC := B2.trans B3
          rcases OM.form hC with ⟨_, _, he⟩ | ⟨gc, rfl, hgc, _, _⟩
          · exact absurd (by rw [← HCl.out, he]; rfl) (show ¬ s = 0 by omega)
          clear O2
          have hct := OM.cell hC (bg_get? (l := C) (k := t) (by have := HCl.out; omega))
          simp only [f8] at hct
          have hxt := (bg C t).toNat_lt
          go_wp2_with (at_make; refine wp_makeW _ rfl _ _ rfl .i64 .i64 _ _ (s / 4 + 1) rfl rfl (by omega) (by omega) (by omega) ?_; intro w4 hO1 hb1 hs1)
          clear hct hxt
          have hC4 : OB w4 (w.alloc (.cells #[.bool false, .slice none 0 0, .slice none 0 0, .bool false, .slice none 0 0, .slice none 0 0] 27)).heap.size (some ⟨gc, 0, none⟩) c2 C := OM.below hC hb1 (Nat.le_refl _)
          have hgcw : gc < wc.heap.size := (OM.lt hC).2
          clear hC
          go_loopg [49] s (fun gg iv wr => ∃ (k : Nat) (o : List Nat), k ≤ s ∧ s - k = gg ∧ iv = .int .i64 (k : Int) ∧ OW wr wc.heap.size (some ⟨wc.heap.size, 0, none⟩) (s / 4 + 1) o ∧ Hid (o.length = s / 4 + 1) ∧ Hid (val o = lv (C.take k)) ∧ Below wc.heap.size wc wr)
          case atStart => exact ⟨0, _, Nat.zero_le _, rfl, rfl, hO1, by show _ = _; simp, by show _ = _; rw [val_replicate]; rfl, hb1⟩
          case round =>
            obtain ⟨k, o, hk, rfl, rfl, hO, hol, hv, hbel⟩ := hrel
            by_cases h0 : k < s
            · have hkC : k < C.length := by have := HCl.out; omega
              have hCr := OM.kept hC4 (fun g hg => by simp only [Option.some.injEq, Addr.mk.injEq, and_true] at hg; subst hg; exact (hbel.block gc hgcw).trans (hb1.block gc hgcw).symm)
              have hok : k / 4 < o.length := by have := hol.out; omega
              have hoc := hO.cell hok
              have hfz := hO.frozen (k / 4)
              have hck := OM.cell hCr (bg_get? (l := C) (k := k) (by omega))
              simp only [f8] at hck
              have hs24 : 8 * (k % 4) < 32 := by omega
              have hlow := wd_low hO.b32 (k := k) (by rw [hv.out]; exact Nat.lt_of_lt_of_le (lv_lt _) (Nat.pow_le_pow_right (by omega) (by rw [List.length_take]; omega)))
              obtain ⟨ho1, ho2⟩ := or_shlo (x := (bg C k).toNat) hs24 hlow
              have e1 := shlo_int (bg C k).toNat (8 * (k % 4))
              have e3 : bits .or .u32 (wd o (k / 4) : Int) (shlo (bg C k).toNat (8 * (k % 4)) : Int) = ((wd o (k / 4) + shlo (bg C k).toNat (8 * (k % 4)) : Nat) : Int) := by
                rw [u32_or_nat _ _ (by have := wd_lt hO.b32 (k / 4); omega) (shlo_lt _ _), ho1]
              have hset := hO.set (k / 4) ho2
              have hstep := Lib.hid (put_step hkC hok hv.out)
              have hbel2 := hbel.setCell (p := ⟨wc.heap.size, k / 4, none⟩) (Nat.le_refl _) (.int .u32 ((wd o (k / 4) + shlo (bg C k).toNat (8 * (k % 4)) : Nat) : Int))
              go_wp2_with fail
              have e0 : ((bg C k).toNat : Int) % 4294967296 = ((bg C k).toNat : Int) := by have := (bg C k).toNat_lt; omega
              simp only [Int.natCast_add] at hset hbel2 e3
              go_region
              go_wp2_with fail
              go_roundg (s - (k + 1))
              case measure => omega
              case rel => exact ⟨k + 1, _, by omega, rfl, by go_num, hset, by show _ = _; rw [List.length_set]; exact hol.out, hstep, Below.drew hbel2⟩
            · obtain rfl : k = s := by omega
              have hvC : val o = lv C := by have := hv.out; rw [List.take_of_length_le (by rw [HCl.out]; omega)] at this; exact this
              have hOn := hO.norm
              rw [hvC] at hOn
              have hlo : o.length = k / 4 + 1 := hol.out
              have htl := trim_len hO.b32
              rw [hvC] at htl
              have hT := fun w' x => trim_any (some ⟨wc.heap.size, 0, none⟩) (k / 4 + 1) (k / 4 + 1) o w' hlo.symm x
              rw [htl] at hT
              have hle := trimN_le o o.length
              rw [htl, hlo] at hle
              have HVC := Lib.hid hvC
              clear hvC htl hlo h0
              go_wp2_with fail
              refine (int0_any wr).mono ?_; rintro e w5 ⟨A5, c5, D5, d5, A6, c6, D6, d6, rfl, P1, P2, P3, P4, B5⟩
              go_wp2_with fail
              refine (hT _ (st (st hO.rw B5) (bal _ _))).mono ?_; rintro e w' ⟨rfl, rfl⟩
              have B6 := bal w5 (.cells #[.bool (qn 0), .slice (some ⟨wc.heap.size, 0, none⟩) (digs (lv C)).length (k / 4 + 1), .slice D5 (digs (qd 0)).length d5, .bool (qn 0), .slice A6 (digs (qt 0)).length c6, .slice D6 (digs (qd 0)).length d6] 27)
              have hsc := ((((S1.nx BC).nx hbel).nx B5).nx B6)
              have hRC := hsc.rc (n := 6)
              have hbc : w.heap.size < wc.heap.size := (S1.nx BC).2
              have hbr : w.heap.size < wr.heap.size := ((S1.nx BC).nx hbel).2
              go_wp2_with (refine wp_st6 rfl (.tmp 10) (.tmp 88) rfl _ rfl _ _ _ _ _ _ rfl hRC rfl rfl rfl rfl rfl rfl ?_)
              have s6 := hRC.put6 (.bool (qn 0)) (.slice (some ⟨wc.heap.size, 0, none⟩) (digs (lv C)).length (k / 4 + 1)) (.slice D5 (digs (qd 0)).length d5) (.bool (qn 0)) (.slice A6 (digs (qt 0)).length c6) (.slice D6 (digs (qd 0)).length d6)
              have B7 := wr6_below (b := w.heap.size) (bt (bt (bt (bt B1 BC) hbel) B5) B6) (Nat.le_refl _) (.bool (qn 0)) (.slice (some ⟨wc.heap.size, 0, none⟩) (digs (lv C)).length (k / 4 + 1)) (.slice D5 (digs (qd 0)).length d5) (.bool (qn 0)) (.slice A6 (digs (qt 0)).length c6) (.slice D6 (digs (qd 0)).length d6)
              have Oa := ((hOn.below B5 (Nat.le_refl _)).alloc (.cells #[.bool (qn 0), .slice (some ⟨wc.heap.size, 0, none⟩) (digs (lv C)).length (k / 4 + 1), .slice D5 (digs (qd 0)).length d5, .bool (qn 0), .slice A6 (digs (qt 0)).length c6, .slice D6 (digs (qd 0)).length d6] 27)).put6 (b := w.heap.size) hbc (.bool (qn 0)) (.slice (some ⟨wc.heap.size, 0, none⟩) (digs (lv C)).length (k / 4 + 1)) (.slice D5 (digs (qd 0)).length d5) (.bool (qn 0)) (.slice A6 (digs (qt 0)).length c6) (.slice D6 (digs (qd 0)).length d6)
              have Ob := (P2.alloc (.cells #[.bool (qn 0), .slice (some ⟨wc.heap.size, 0, none⟩) (digs (lv C)).length (k / 4 + 1), .slice D5 (digs (qd 0)).length d5, .bool (qn 0), .slice A6 (digs (qt 0)).length c6, .slice D6 (digs (qd 0)).length d6] 27)).put6 (b := w.heap.size) hbr (.bool (qn 0)) (.slice (some ⟨wc.heap.size, 0, none⟩) (digs (lv C)).length (k / 4 + 1)) (.slice D5 (digs (qd 0)).length d5) (.bool (qn 0)) (.slice A6 (digs (qt 0)).length c6) (.slice D6 (digs (qd 0)).length d6)
              have Oc := (P3.alloc (.cells #[.bool (qn 0), .slice (some ⟨wc.heap.size, 0, none⟩) (digs (lv C)).length (k / 4 + 1), .slice D5 (digs (qd 0)).length d5, .bool (qn 0), .slice A6 (digs (qt 0)).length c6, .slice D6 (digs (qd 0)).length d6] 27)).put6 (b := w.heap.size) hbr (.bool (qn 0)) (.slice (some ⟨wc.heap.size, 0, none⟩) (digs (lv C)).length (k / 4 + 1)) (.slice D5 (digs (qd 0)).length d5) (.bool (qn 0)) (.slice A6 (digs (qt 0)).length c6) (.slice D6 (digs (qd 0)).length d6)
              have Od := (P4.alloc (.cells #[.bool (qn 0), .slice (some ⟨wc.heap.size, 0, none⟩) (digs (lv C)).length (k / 4 + 1), .slice D5 (digs (qd 0)).length d5, .bool (qn 0), .slice A6 (digs (qt 0)).length c6, .slice D6 (digs (qd 0)).length d6] 27)).put6 (b := w.heap.size) hbr (.bool (qn 0)) (.slice (some ⟨wc.heap.size, 0, none⟩) (digs (lv C)).length (k / 4 + 1)) (.slice D5 (digs (qd 0)).length d5) (.bool (qn 0)) (.slice A6 (digs (qt 0)).length c6) (.slice D6 (digs (qd 0)).length d6)
              have r0' := s6.cell 0
              have r1' := s6.cell 1
              have r2' := s6.cell 2
              have r3' := s6.cell 3
              have r4' := s6.cell 4
              have r5' := s6.cell 5
              refine bodyPost_ret (v := .tuple #[.agg #[.bool (qn 0), .slice (some ⟨wc.heap.size, 0, none⟩) (digs (lv C)).length (k / 4 + 1), .slice D5 (digs (qd 0)).length d5, .bool (qn 0), .slice A6 (digs (qt 0)).length c6, .slice D6 (digs (qd 0)).length d6], .int .i64 0]) (by simp [results, r0', r1', r2', r3', r4', r5', go_sem]) rfl ?_
              exact ⟨_, _, D5, d5, A6, c6, D6, d6, rfl, Oa.base_le (Nat.le_of_lt hbc), Ob.base_le (Nat.le_of_lt hbr), Oc.base_le (Nat.le_of_lt hbr), Od.base_le (Nat.le_of_lt hbr), B7⟩

end Go.Proofs.Ytabcnpcfknlmlaa
namespace Go.Proofs.Ytabcnpcfknlmlaa
open Go.RowKit

/-- whole numbers in memory -/
theorem rq_pos {w : World} {B : Nat} {A : Option Addr} {c : Nat} {D : Option Addr} {d : Nat} {v : Nat} (h1 : RW w B A c (digs v)) (h2 : RW w B D d [1]) : RQ w B (.agg #[.bool false, .slice A (digs v).length c, .slice D 1 d]) ((v : Int) : Rat) := by
  refine ⟨A, c, D, d, ?_, ?_, ?_⟩
  · rw [qn_int, qt_int, qd_int, decide_eq_false (by omega), Int.natAbs_natCast, digs_one1]; rfl
  · rw [qt_int, Int.natAbs_natCast]; exact h1
  · rw [qd_int, digs_one1]; exact h2
theorem rq_neg {w : World} {B : Nat} {A : Option Addr} {c : Nat} {D : Option Addr} {d : Nat} {v : Nat} (h0 : 0 < v) (h1 : RW w B A c (digs v)) (h2 : RW w B D d [1]) : RQ w B (.agg #[.bool true, .slice A (digs v).length c, .slice D 1 d]) ((-(v : Int) : Int) : Rat) := by
  refine ⟨A, c, D, d, ?_, ?_, ?_⟩
  · rw [qn_int, qt_int, qd_int, decide_eq_true (by omega), Int.natAbs_neg, Int.natAbs_natCast, digs_one1]; rfl
  · rw [qt_int, Int.natAbs_neg, Int.natAbs_natCast]; exact h1
  · rw [qd_int, digs_one1]; exact h2
theorem rwq_pos1 {v : Nat} : rwq (((v : Int)) : Rat) = ⟨false, digs v, [1]⟩ := by rw [rwq_pos, ← digs_one1]; rfl
theorem rwq_z : rwq 0 = ⟨false, [], [1]⟩ := by rw [← digs_one1, ← digs_zero]; rfl
theorem qw_int (i : Int) (k : Nat) (hk : 1 ≤ k) (h : i.natAbs < Wp k) : qw ((i : Int) : Rat) ≤ k := by
  unfold qw
  rw [qt_int, qd_int, digs_one1]
  have := digs_len_le.2 h
  simp only [List.length_singleton]
  omega
/-- the number that the highest k bytes are -/
def hi8 (C : List UInt8) (k : Nat) : Nat := lv (C.drop (C.length - k))
theorem hi8_zero (C : List UInt8) : hi8 C 0 = 0 := by unfold hi8; rw [Nat.sub_zero, List.drop_length]; rfl
theorem hi8_succ {C : List UInt8} {k : Nat} (h : k < C.length) : hi8 C (k + 1) = hi8 C k * 256 + (bg C (C.length - 1 - k)).toNat := by
  unfold hi8
  have h1 : C.length - (k + 1) < C.length := by omega
  rw [List.drop_eq_getElem_cons h1]
  have h2 : C[C.length - (k + 1)] = bg C (C.length - 1 - k) := by
    have := bg_get? (l := C) (k := C.length - (k + 1)) h1
    rw [List.getElem?_eq_getElem h1] at this
    rw [Option.some.inj this]; congr 1; omega
  rw [h2, show C.length - (k + 1) + 1 = C.length - k by omega]
  simp only [lv]
  omega
theorem hi8_all (C : List UInt8) : hi8 C C.length = lv C := by unfold hi8; rw [Nat.sub_self]; rfl
theorem hi8_lt (C : List UInt8) (k : Nat) (hk : k ≤ C.length) : hi8 C k < 256 ^ k := by
  unfold hi8
  have := lv_lt (C.drop (C.length - k))
  rw [List.length_drop, show C.length - (C.length - k) = k by omega] at this
  exact this
theorem bg_sub {l : List UInt8} {a s i : Nat} (hi : i < s) (h : a + s ≤ l.length) : bg ((l.drop a).take s) i = bg l (a + i) := by
  have h1 := bg_get? (l := (l.drop a).take s) (k := i) (by rw [List.length_take, List.length_drop]; omega)
  rw [List.getElem?_take, if_pos hi, List.getElem?_drop, bg_get? (by omega)] at h1
  exact (Option.some.inj h1).symm
theorem top_size {C : List UInt8} {t s : Nat} (hs : C.length = s) (ht : t + 1 = s) : (blen (lv C) = 8 * s) ↔ 128 ≤ (bg C t).toNat := by
  have h1 : lv C < 2 ^ (8 * s) := by rw [← pow8, ← hs]; exact lv_lt C
  have h2 := blen_le.2 h1
  rw [lv_high (l := C) (n := t) (by omega)]
  have e : 128 * 256 ^ t = 2 ^ (8 * s - 1) := by
    rw [pow8, show (128 : Nat) = 2 ^ 7 from rfl, ← Nat.pow_add]; congr 1; omega
  rw [e]
  have h3 : blen (lv C) ≤ 8 * s - 1 ↔ lv C < 2 ^ (8 * s - 1) := blen_le
  omega
theorem pow_wm {s m : Nat} (h : 8 * s < 32 * m) : 256 ^ s < Wp m := by
  rw [pow8, Wp_eq]
  exact Nat.pow_lt_pow_right (by omega) h


set_option maxHeartbeats 1000000 in
theorem rzero0_any (w : World) : Calls Try.prog 34 #[] w fun e w' => ∃ D, e = .returned (.agg #[.bool false, .slice none 0 0, .slice D 1 1]) ∧ OW w' (w.heap.size + 1) D 1 [1] ∧ Below w.heap.size w w' := by
  have z1 : (w.alloc (.cells #[.bool false, .slice none 0 0, .slice (some ⟨w.heap.size + 1, 0, none⟩) 1 1] 25)).heap.size = w.heap.size + 1 := by simp
  have s1 := (SB.new w [.bool false, .slice none 0 0, .slice (some ⟨w.heap.size + 1, 0, none⟩) 1 1] 25).nx (bal _ (.cells #[.int .u32 (1 : Int)] 53))
  have O1 := OW.lit (w.alloc (.cells #[.bool false, .slice none 0 0, .slice (some ⟨w.heap.size + 1, 0, none⟩) 1 1] 25)) [1] (by simp) (by rw [← digs_one1]; exact B32_digs 1)
  rw [z1] at O1
  have O2 : OW ((w.alloc (.cells #[.bool false, .slice none 0 0, .slice (some ⟨w.heap.size + 1, 0, none⟩) 1 1] 25)).alloc (.cells #[.int .u32 (1 : Int)] 53)) (w.heap.size + 1) (some ⟨w.heap.size + 1, 0, none⟩) 1 [1] := O1
  have r0 := s1.cell 0
  have r1 := s1.cell 1
  have r2 := s1.cell 2
  go_enter Try.func34, Try.ntmps34
  go_wp2_with fail
  refine bodyPost_ret (v := .agg #[.bool false, .slice none 0 0, .slice (some ⟨w.heap.size + 1, 0, none⟩) 1 1]) (by simp [results, r0, r1, r2, go_sem]) rfl ?_
  exact ⟨_, rfl, O2, bt (bal _ _) (bal _ _)⟩


set_option maxRecDepth 100000 in
set_option maxHeartbeats 16000000 in
theorem rget_any (A : Option Addr) (c n : Nat) (l : List UInt8) (at_ size : Int) (big signed : Bool) (w : World) (hn : n = l.length) (h : RB w w.heap.size A c l)
    (a0 : -9223372036854775808 ≤ at_) (a1 : at_ ≤ 9223372036854775807) (s0 : -9223372036854775808 ≤ size) (s1 : size ≤ 9223372036854775807) :
    Calls Try.prog 9 #[.slice A n c, .int .i64 at_, .int .i64 size, .bool big, .bool signed] w (RetNE w (getQ l at_ size big signed)) := by
  subst hn
  have hbig := h.big
  have B1 := bal w (.cells #[.bool false, .slice none 0 0, .slice none 0 0, .bool false, .slice none 0 0, .slice none 0 0] 27)
  have S1 := SB.new w [.bool false, .slice none 0 0, .slice none 0 0, .bool false, .slice none 0 0, .slice none 0 0] 27
  have hz1 : (w.alloc (.cells #[.bool false, .slice none 0 0, .slice none 0 0, .bool false, .slice none 0 0, .slice none 0 0] 27)).heap.size = w.heap.size + 1 := by simp
  have hin := rin_any l.length at_ size (w.alloc (.cells #[.bool false, .slice none 0 0, .slice none 0 0, .bool false, .slice none 0 0, .slice none 0 0] 27)) hbig a0 a1 s0 s1
  unfold getQ
  cases hi : inB l.length at_ size with
  | false =>
    rw [hi] at hin
    have hRC := S1.rc (n := 6)
    go_enter Try.func9, Try.ntmps9
    go_wp2_with fail
    refine hin.mono ?_; rintro e w' ⟨rfl, rfl⟩
    go_wp2_with (refine wp_st6 rfl (.tmp 10) (.tmp 23) rfl _ rfl _ _ _ _ _ _ rfl hRC rfl rfl rfl rfl rfl rfl ?_)
    have s6 := hRC.put6 (.bool false) (.slice none 0 0) (.slice none 0 0) (.bool false) (.slice none 0 0) (.slice none 0 0)
    have B6 := wr6_below (b := w.heap.size) B1 (Nat.le_refl _) (.bool false) (.slice none 0 0) (.slice none 0 0) (.bool false) (.slice none 0 0) (.slice none 0 0)
    have r0' := s6.cell 0
    have r1' := s6.cell 1
    have r2' := s6.cell 2
    have r3' := s6.cell 3
    have r4' := s6.cell 4
    have r5' := s6.cell 5
    refine bodyPost_ret (v := .tuple #[.agg #[.bool false, .slice none 0 0, .slice none 0 0, .bool false, .slice none 0 0, .slice none 0 0], .int .i64 1]) (by simp [results, r0', r1', r2', r3', r4', r5', go_sem]) rfl ?_
    exact retNE_nil 1 B6
  | true =>
    rw [hi] at hin
    unfold inB at hi
    rw [decide_eq_true_eq] at hi
    obtain ⟨a, rfl⟩ := Int.eq_ofNat_of_zero_le hi.2.2.1
    obtain ⟨s, rfl⟩ := Int.eq_ofNat_of_zero_le (show 0 ≤ size by omega)
    obtain ⟨i1, i2, _, i4⟩ := hi
    rw [Int.toNat_natCast, Int.toNat_natCast, if_pos rfl]
    have hsl : a + s ≤ l.length := by omega
    have hs1 : 1 ≤ s := by omega
    have hs64 : s ≤ 64 := by omega
    obtain ⟨b, off, rfl, hb, _⟩ := RM.at_ h (by omega)
    obtain ⟨t, ht⟩ : ∃ t, t = s - 1 := ⟨_, rfl⟩
    have hts : t + 1 = s := by omega
    unfold getI negB
    rw [← ht]
    have HT := Lib.hid hts
    clear i1 i2 i4 ht hts
    obtain ⟨PW, HPn⟩ : ∃ PW : Nat, Hid (256 ^ s = PW) := ⟨_, rfl⟩
    have HPW : Hid ((256 : Int) ^ s = (PW : Int)) := by show _ = _; rw [← HPn.out]; simp
    have hlS : ((l.drop a).take s).length = s := by rw [List.length_take, List.length_drop]; omega
    obtain ⟨C, hC⟩ : ∃ C, C = leB l a s big := ⟨_, rfl⟩
    rw [← hC]
    have HCl : Hid (C.length = s) := by show _ = _; rw [hC]; exact leB_len big hsl
    have hlt : Hid (lv C < PW) := by show _ < _; rw [← HPn.out, ← HCl.out]; exact lv_lt C
    have hsucc : ∀ k, k < s → (big = false → Hid (hi8 C (k + 1) = hi8 C k * 256 + (bg l (a + (s - 1 - k))).toNat)) ∧ (big = true → Hid (hi8 C (k + 1) = hi8 C k * 256 + (bg l (a + k)).toNat)) := by
      intro k hk
      have h1 := hi8_succ (C := C) (k := k) (by rw [HCl.out]; exact hk)
      rw [HCl.out] at h1
      constructor
      · intro hb; subst hb
        show _ = _
        rw [h1, hC, show leB l a s false = (l.drop a).take s from rfl, bg_sub (by omega) hsl]
      · intro hb; subst hb
        show _ = _
        rw [h1, hC, show leB l a s true = ((l.drop a).take s).reverse from rfl, bg_rev (by rw [hlS]; omega), hlS, bg_sub (by omega) hsl]
        congr 3; omega
    clear hC hlS
    cases big with
    | false =>
      have hsc := fun k hk => (hsucc k hk).1 rfl
      clear hsucc
      cases signed with
      | false =>
        rw [show (false && decide (128 ≤ (bg C t).toNat)) = false from rfl, if_neg (by simp), rwq_pos1, rwq_z]
        go_enter Try.func9, Try.ntmps9
        go_wp2_with fail
        refine hin.mono ?_; rintro e w' ⟨rfl, rfl⟩
        go_wp2_with fail
        go_loopg [12, 13] s (fun gg nv iv wr => ∃ (k : Nat) (A5 : Option Addr) (c5 : Nat), k ≤ s ∧ s - k = gg ∧ iv = .int .i64 (k : Int) ∧ nv = .slice A5 (digs (hi8 C k)).length c5 ∧ OW wr (w.alloc (.cells #[.bool false, .slice none 0 0, .slice none 0 0, .bool false, .slice none 0 0, .slice none 0 0] 27)).heap.size A5 c5 (digs (hi8 C k)) ∧ Below (w.alloc (.cells #[.bool false, .slice none 0 0, .slice none 0 0, .bool false, .slice none 0 0, .slice none 0 0] 27)).heap.size (w.alloc (.cells #[.bool false, .slice none 0 0, .slice none 0 0, .bool false, .slice none 0 0, .slice none 0 0] 27)) wr)
        case atStart => exact ⟨0, _, 0, Nat.zero_le _, rfl, rfl, by rw [hi8_zero, digs_zero]; rfl, by rw [hi8_zero, digs_zero]; have h5 := OW.empty (w.alloc (.cells #[.bool false, .slice none 0 0, .slice none 0 0, .bool false, .slice none 0 0, .slice none 0 0] 27)); rw [hz1] at h5 ⊢; exact h5, bal _ _⟩
        case round =>
          obtain ⟨k, A5, c5, hk, rfl, rfl, rfl, O5, B5⟩ := hrel
          by_cases h0 : k < s
          · obtain ⟨j, hj⟩ : ∃ j, j = s - 1 - k := ⟨_, rfl⟩
            have e1 : (a : Int) + (s : Int) - 1 - (k : Int) = (a : Int) + (j : Int) := by omega
            obtain ⟨b', off', he, _, hx⟩ := RM.at_ (RM.below h (bt B1 B5)) (by omega)
            simp only [Option.some.injEq, Addr.mk.injEq, and_true] at he
            obtain ⟨rfl, rfl⟩ := he
            have x1 := hx (a + j) _ (bg_get? (by omega))
            have x2 := hx (a + k) _ (bg_get? (by omega))
            simp only [f8] at x1 x2
            have hbk := hsc k h0
            rw [← hj] at hbk
            have lj := (bg l (a + j)).toNat_lt
            have lk := (bg l (a + k)).toNat_lt
            have ew : IntKind.u64.wrap ((bg l (a + j)).toNat : Int) = ((bg l (a + j)).toNat : Int) := IntWalk.u64_in _ (by omega)
            have hd5 : (digs (hi8 C k)).length ≤ 100 := by have := digs_len_le.2 (Nat.lt_trans (hi8_lt C k (by rw [HCl.out]; omega)) (pow_wm (s := k) (m := 17) (by omega))); omega
            have hT := rtimes_any A5 (some ⟨wr.heap.size, 0, none⟩) c5 1 _ 1 (digs (hi8 C k)) [256] (wr.alloc (.cells #[.int .u32 (256 : Nat)] 53)) rfl rfl (st O5.rw (bal _ _)) ((RW.one wr 53 (show 256 < 4294967296 by omega)).more (by simp)) (by omega) (by simp)
            rw [val_digs, val_one] at hT
            have hO := fun w' => rof_any ((bg l (a + j)).toNat : Int) w' (by omega) (by omega)
            simp only [Int.toNat_natCast] at hO
            have hd6 : (digs (hi8 C k * 256)).length ≤ 200 := by have := digs_mul (hi8 C k) 256; rw [digs_one (n := 256) (by omega) (by omega)] at this; simp only [List.length_singleton] at this; omega
            have hd7 : (digs (bg l (a + j)).toNat).length ≤ 2 := digs_u64 (by omega)
            have HJ := Lib.hid hj
            clear hj hd5
            go_wp2_with fail
            refine hT.mono ?_; rintro e w6 ⟨A6, c6, rfl, O6, B6⟩
            go_wp2_with fail
            refine (hO w6).mono ?_; rintro e w7 ⟨A7, c7, rfl, O7, B7⟩
            have hP := rplus_any A6 A7 c6 c7 _ _ (digs (hi8 C k * 256)) (digs (bg l (a + j)).toNat) w7 rfl rfl (st O6.rw B7) O7.rw (by omega) (by omega)
            rw [val_digs, val_digs, ← hbk.out] at hP
            go_wp2_with fail
            refine hP.mono ?_; rintro e w8 ⟨A8, c8, rfl, O8, B8⟩
            go_wp2_with fail
            go_roundg (s - (k + 1))
            case measure => omega
            case rel => exact ⟨k + 1, A8, c8, by omega, rfl, by go_num, rfl, O8.base_le (by have := B5.size; have := (bal wr (.cells #[.int .u32 (256 : Nat)] 53)).size; have := B6.size; have := B7.size; omega), B5.trans ((bt (bt (bt (bal _ _) B6) B7) B8).mono B5.size)⟩
          · obtain rfl : k = s := by omega
            have hv : hi8 C k = lv C := by have := hi8_all C; rw [HCl.out] at this; exact this
            rw [hv] at O5 ⊢
            clear hv h0
            go_wp2_with fail
            refine (rzero0_any _).mono ?_; rintro e w6 ⟨D6, rfl, O6, B6⟩
            have Bo := bal wr (.cells #[.int .u32 (1 : Int)] 53)
            have z5 : (wr.alloc (.cells #[.int .u32 (1 : Int)] 53)).heap.size = wr.heap.size + 1 := by simp
            have ON : OW (wr.alloc (.cells #[.int .u32 (1 : Int)] 53)) wr.heap.size (some ⟨wr.heap.size, 0, none⟩) 1 [1] := OW.lit wr [1] (by simp) (by rw [← digs_one1]; exact B32_digs 1)
            have B7 := bal w6 (.cells #[.bool false, .slice A5 (digs (lv C)).length c5, .slice (some ⟨wr.heap.size, 0, none⟩) 1 1, .bool false, .slice none 0 0, .slice D6 1 1] 27)
            have S7 := SB.new w6 [.bool false, .slice A5 (digs (lv C)).length c5, .slice (some ⟨wr.heap.size, 0, none⟩) 1 1, .bool false, .slice none 0 0, .slice D6 1 1] 27
            have hbr : w.heap.size < wr.heap.size := (S1.nx B5).2
            have hb1 : w.heap.size < (w.alloc (.cells #[.bool false, .slice none 0 0, .slice none 0 0, .bool false, .slice none 0 0, .slice none 0 0] 27)).heap.size := S1.2
            have hRC := (((((S1.nx B5).nx Bo).nx B6).nx B7)).rc (n := 6)
            have hb6 : wr.heap.size < w6.heap.size := by have := Bo.size; have := B6.size; omega
            have hbz : w.heap.size < (wr.alloc (.cells #[.int .u32 (1 : Int)] 53)).heap.size + 1 := by rw [z5]; omega
            go_wp2_with (refine wp_st6 rfl (.tmp 10) (.tmp 78) rfl _ rfl _ _ _ _ _ _ rfl hRC rfl rfl rfl rfl rfl rfl ?_)
            have s6 := hRC.put6 (.bool false) (.slice A5 (digs (lv C)).length c5) (.slice (some ⟨wr.heap.size, 0, none⟩) 1 1) (.bool false) (.slice none 0 0) (.slice D6 1 1)
            have BZ := wr6_below (b := w.heap.size) (bt (bt (bt (bt B1 B5) Bo) B6) B7) (Nat.le_refl _) (.bool false) (.slice A5 (digs (lv C)).length c5) (.slice (some ⟨wr.heap.size, 0, none⟩) 1 1) (.bool false) (.slice none 0 0) (.slice D6 1 1)
            have Oa := (O5.below (bt (bt Bo B6) B7) (Nat.le_refl _)).put6 (b := w.heap.size) hb1 (.bool false) (.slice A5 (digs (lv C)).length c5) (.slice (some ⟨wr.heap.size, 0, none⟩) 1 1) (.bool false) (.slice none 0 0) (.slice D6 1 1)
            have Ob := (ON.below (bt B6 B7) (Nat.le_refl _)).put6 (b := w.heap.size) hbr (.bool false) (.slice A5 (digs (lv C)).length c5) (.slice (some ⟨wr.heap.size, 0, none⟩) 1 1) (.bool false) (.slice none 0 0) (.slice D6 1 1)
            have Od := (O6.below B7 (Nat.le_refl _)).put6 (b := w.heap.size) hbz (.bool false) (.slice A5 (digs (lv C)).length c5) (.slice (some ⟨wr.heap.size, 0, none⟩) 1 1) (.bool false) (.slice none 0 0) (.slice D6 1 1)
            have r0' := s6.cell 0
            have r1' := s6.cell 1
            have r2' := s6.cell 2
            have r3' := s6.cell 3
            have r4' := s6.cell 4
            have r5' := s6.cell 5
            refine bodyPost_ret (v := .tuple #[.agg #[.bool false, .slice A5 (digs (lv C)).length c5, .slice (some ⟨wr.heap.size, 0, none⟩) 1 1, .bool false, .slice none 0 0, .slice D6 1 1], .int .i64 0]) (by simp [results, r0', r1', r2', r3', r4', r5', go_sem]) rfl ?_
            exact ⟨A5, c5, some ⟨wr.heap.size, 0, none⟩, 1, none, 0, D6, 1, rfl, Oa.base_le (Nat.le_of_lt hb1), Ob.base_le (Nat.le_of_lt hbr), OW.nil _ _, Od.base_le (Nat.le_of_lt hbz), BZ⟩
      | true =>
        by_cases hng : 128 ≤ (bg C t).toNat
        · rw [show (true && decide (128 ≤ (bg C t).toNat)) = true by rw [decide_eq_true hng]; rfl, if_pos rfl, HPW.out, rwq_z]
          obtain ⟨X, HX⟩ : ∃ X : Rat, Hid (X = (((lv C : Int) - (PW : Int) : Int) : Rat)) := ⟨_, rfl⟩
          rw [← HX.out]
          have tz : ((blen (lv C) : Int) == 8 * (s : Int)) = true := by rw [beq_iff_eq]; have := (top_size HCl.out HT.out).2 hng; omega
          clear hng
          go_enter Try.func9, Try.ntmps9
          go_wp2_with fail
          refine hin.mono ?_; rintro e w' ⟨rfl, rfl⟩
          go_wp2_with fail
          go_loopg [12, 13] s (fun gg nv iv wr => ∃ (k : Nat) (A5 : Option Addr) (c5 : Nat), k ≤ s ∧ s - k = gg ∧ iv = .int .i64 (k : Int) ∧ nv = .slice A5 (digs (hi8 C k)).length c5 ∧ OW wr (w.alloc (.cells #[.bool false, .slice none 0 0, .slice none 0 0, .bool false, .slice none 0 0, .slice none 0 0] 27)).heap.size A5 c5 (digs (hi8 C k)) ∧ Below (w.alloc (.cells #[.bool false, .slice none 0 0, .slice none 0 0, .bool false, .slice none 0 0, .slice none 0 0] 27)).heap.size (w.alloc (.cells #[.bool false, .slice none 0 0, .slice none 0 0, .bool false, .slice none 0 0, .slice none 0 0] 27)) wr)
          case atStart => exact ⟨0, _, 0, Nat.zero_le _, rfl, rfl, by rw [hi8_zero, digs_zero]; rfl, by rw [hi8_zero, digs_zero]; have h5 := OW.empty (w.alloc (.cells #[.bool false, .slice none 0 0, .slice none 0 0, .bool false, .slice none 0 0, .slice none 0 0] 27)); rw [hz1] at h5 ⊢; exact h5, bal _ _⟩
          case round =>
            obtain ⟨k, A5, c5, hk, rfl, rfl, rfl, O5, B5⟩ := hrel
            by_cases h0 : k < s
            · obtain ⟨j, hj⟩ : ∃ j, j = s - 1 - k := ⟨_, rfl⟩
              have e1 : (a : Int) + (s : Int) - 1 - (k : Int) = (a : Int) + (j : Int) := by omega
              obtain ⟨b', off', he, _, hx⟩ := RM.at_ (RM.below h (bt B1 B5)) (by omega)
              simp only [Option.some.injEq, Addr.mk.injEq, and_true] at he
              obtain ⟨rfl, rfl⟩ := he
              have x1 := hx (a + j) _ (bg_get? (by omega))
              have x2 := hx (a + k) _ (bg_get? (by omega))
              simp only [f8] at x1 x2
              have hbk := hsc k h0
              rw [← hj] at hbk
              have lj := (bg l (a + j)).toNat_lt
              have lk := (bg l (a + k)).toNat_lt
              have ew : IntKind.u64.wrap ((bg l (a + j)).toNat : Int) = ((bg l (a + j)).toNat : Int) := IntWalk.u64_in _ (by omega)
              have hd5 : (digs (hi8 C k)).length ≤ 100 := by have := digs_len_le.2 (Nat.lt_trans (hi8_lt C k (by rw [HCl.out]; omega)) (pow_wm (s := k) (m := 17) (by omega))); omega
              have hT := rtimes_any A5 (some ⟨wr.heap.size, 0, none⟩) c5 1 _ 1 (digs (hi8 C k)) [256] (wr.alloc (.cells #[.int .u32 (256 : Nat)] 53)) rfl rfl (st O5.rw (bal _ _)) ((RW.one wr 53 (show 256 < 4294967296 by omega)).more (by simp)) (by omega) (by simp)
              rw [val_digs, val_one] at hT
              have hO := fun w' => rof_any ((bg l (a + j)).toNat : Int) w' (by omega) (by omega)
              simp only [Int.toNat_natCast] at hO
              have hd6 : (digs (hi8 C k * 256)).length ≤ 200 := by have := digs_mul (hi8 C k) 256; rw [digs_one (n := 256) (by omega) (by omega)] at this; simp only [List.length_singleton] at this; omega
              have hd7 : (digs (bg l (a + j)).toNat).length ≤ 2 := digs_u64 (by omega)
              have HJ := Lib.hid hj
              clear hj hd5
              go_wp2_with fail
              refine hT.mono ?_; rintro e w6 ⟨A6, c6, rfl, O6, B6⟩
              go_wp2_with fail
              refine (hO w6).mono ?_; rintro e w7 ⟨A7, c7, rfl, O7, B7⟩
              have hP := rplus_any A6 A7 c6 c7 _ _ (digs (hi8 C k * 256)) (digs (bg l (a + j)).toNat) w7 rfl rfl (st O6.rw B7) O7.rw (by omega) (by omega)
              rw [val_digs, val_digs, ← hbk.out] at hP
              go_wp2_with fail
              refine hP.mono ?_; rintro e w8 ⟨A8, c8, rfl, O8, B8⟩
              go_wp2_with fail
              go_roundg (s - (k + 1))
              case measure => omega
              case rel => exact ⟨k + 1, A8, c8, by omega, rfl, by go_num, rfl, O8.base_le (by have := B5.size; have := (bal wr (.cells #[.int .u32 (256 : Nat)] 53)).size; have := B6.size; have := B7.size; omega), B5.trans ((bt (bt (bt (bal _ _) B6) B7) B8).mono B5.size)⟩
            · obtain rfl : k = s := by omega
              have hv : hi8 C k = lv C := by have := hi8_all C; rw [HCl.out] at this; exact this
              rw [hv] at O5 ⊢
              clear hv h0
              go_wp2_with fail
              refine (rzero0_any _).mono ?_; rintro e w6 ⟨D6, rfl, O6, B6⟩
              have Bo := bal wr (.cells #[.int .u32 (1 : Int)] 53)
              have z5 : (wr.alloc (.cells #[.int .u32 (1 : Int)] 53)).heap.size = wr.heap.size + 1 := by simp
              have ON : OW (wr.alloc (.cells #[.int .u32 (1 : Int)] 53)) wr.heap.size (some ⟨wr.heap.size, 0, none⟩) 1 [1] := OW.lit wr [1] (by simp) (by rw [← digs_one1]; exact B32_digs 1)
              have B7 := bal w6 (.cells #[.bool false, .slice A5 (digs (lv C)).length c5, .slice (some ⟨wr.heap.size, 0, none⟩) 1 1, .bool false, .slice none 0 0, .slice D6 1 1] 27)
              have S7 := SB.new w6 [.bool false, .slice A5 (digs (lv C)).length c5, .slice (some ⟨wr.heap.size, 0, none⟩) 1 1, .bool false, .slice none 0 0, .slice D6 1 1] 27
              have hbr : w.heap.size < wr.heap.size := (S1.nx B5).2
              have hb1 : w.heap.size < (w.alloc (.cells #[.bool false, .slice none 0 0, .slice none 0 0, .bool false, .slice none 0 0, .slice none 0 0] 27)).heap.size := S1.2
              have hRC := (((((S1.nx B5).nx Bo).nx B6).nx B7)).rc (n := 6)
              have hb6 : wr.heap.size < w6.heap.size := by have := Bo.size; have := B6.size; omega
              have hsz := rsize_any A5 c5 _ (digs (lv C)) (w6.alloc (.cells #[.bool false, .slice A5 (digs (lv C)).length c5, .slice (some ⟨wr.heap.size, 0, none⟩) 1 1, .bool false, .slice none 0 0, .slice D6 1 1] 27)) rfl (st (st (st O5.rw Bo) B6) B7)
              rw [val_digs] at hsz
              have e8 : IntKind.i64.wrap (8 * (k : Int)) = 8 * (k : Int) := IntWalk.i64_in _ (by omega)
              go_wp2_with fail
              refine hsz.mono ?_; rintro e w' ⟨rfl, rfl⟩
              have hbz : w.heap.size < (wr.alloc (.cells #[.int .u32 (1 : Int)] 53)).heap.size + 1 := by rw [z5]; omega
              obtain ⟨W7, hW7⟩ : ∃ W7, W7 = w6.alloc (.cells #[.bool false, .slice A5 (digs (lv C)).length c5, .slice (some ⟨wr.heap.size, 0, none⟩) 1 1, .bool false, .slice none 0 0, .slice D6 1 1] 27) := ⟨_, rfl⟩
              rw [← hW7] at S7 hRC B7 ⊢
              clear hW7
              have hXe : (((lv C : Nat) : Int) : Rat) + ((-(PW : Int) : Int) : Rat) = X := by rw [HX.out, ← Rat.intCast_add]; rfl
              have hPW17 : PW < Wp 17 := by rw [← HPn.out]; exact pow_wm (by omega)
              have hPW0 : 0 < PW := by rw [← HPn.out]; exact Nat.pow_pos (by omega)
              have hq1 := qw_int ((lv C : Nat) : Int) 17 (by omega) (by rw [Int.natAbs_natCast]; exact Nat.lt_trans hlt.out hPW17)
              have hq2 := qw_int (-(PW : Int)) 17 (by omega) (by rw [Int.natAbs_neg, Int.natAbs_natCast]; exact hPW17)
              have hS := fun v u w' x y => rsum_any v u (((lv C : Nat) : Int) : Rat) ((-(PW : Int) : Int) : Rat) w' x y (by omega)
              simp only [hXe] at hS
              have hdP : decide (0 < (digs PW).length) = true := by rw [← digs_pos_iff]; exact decide_eq_true hPW0
              clear hXe hq1 hq2 hPW17
              have hU := rup_any (some ⟨W7.heap.size, 0, none⟩) 1 1 [1] (W7.alloc (.cells #[.int .u32 (1 : Int)] 53)) (8 * k) (by omega) rfl ((RW.one W7 53 (show 1 < 4294967296 by omega)).more (by simp)) (by simp)
              rw [val_one, Nat.one_mul, ← pow8, HPn.out, show ((8 * k : Nat) : Int) = 8 * (k : Int) by omega] at hU
              go_wp2_with fail
              refine hU.mono ?_; rintro e w8 ⟨A8, c8, rfl, O8, B8⟩
              have hM := fun w' => rminus_raw false A8 (some ⟨w8.heap.size, 0, none⟩) c8 1 (digs PW).length 1 w'
              simp only [Bool.not_false, Bool.true_and, hdP] at hM
              clear hdP
              have Bo7 := bal W7 (.cells #[.int .u32 (1 : Int)] 53)
              have Bo8 := bal w8 (.cells #[.int .u32 (1 : Int)] 53)
              have B16 := bal (w8.alloc (.cells #[.int .u32 (1 : Int)] 53)) (.cells #[.bool false, .slice A8 (digs PW).length c8, .slice (some ⟨w8.heap.size, 0, none⟩) 1 1] 25)
              have z8 : (w8.alloc (.cells #[.int .u32 (1 : Int)] 53)).heap.size = w8.heap.size + 1 := by simp
              have ON8 : OW (w8.alloc (.cells #[.int .u32 (1 : Int)] 53)) w8.heap.size (some ⟨w8.heap.size, 0, none⟩) 1 [1] := OW.lit w8 [1] (by simp) (by rw [← digs_one1]; exact B32_digs 1)
              have S16 := SB.new (w8.alloc (.cells #[.int .u32 (1 : Int)] 53)) [.bool false, .slice A8 (digs PW).length c8, .slice (some ⟨w8.heap.size, 0, none⟩) 1 1] 25
              rw [z8] at S16
              have BA := bt (bt Bo7 B8) (bt Bo8 B16)
              have S15 := S7.nx BA
              have hRC9 := hRC.nx BA
              have R5 := st (st (st (st O5.rw Bo) B6) B7) BA
              have RN1 := st (st (st ON.rw B6) B7) BA
              have R8 := st O8.rw (bt Bo8 B16)
              have RN8 := st ON8.rw B16
              obtain ⟨W9, hW9⟩ : ∃ W9, W9 = (w8.alloc (.cells #[.int .u32 (1 : Int)] 53)).alloc (.cells #[.bool false, .slice A8 (digs PW).length c8, .slice (some ⟨w8.heap.size, 0, none⟩) 1 1] 25) := ⟨_, rfl⟩
              go_wp2_with fail
              rw [← hW9] at S16 S15 hRC9 R5 RN1 R8 RN8 BA ⊢
              clear hW9 S7 hRC
              have m0 := S15.cell 0
              have m1 := S15.cell 1
              have m2 := S15.cell 2
              have n0 := S16.cell 0
              have n1 := S16.cell 1
              have n2 := S16.cell 2
              have Bd : Below W9.heap.size W9 W9.drew := Below.drew (Below.refl _ _)
              have S15d := S15.nx Bd
              have R5d := st R5 Bd
              have RN1d := st RN1 Bd
              have R8d := st R8 Bd
              have RN8d := st RN8 Bd
              have hRCd := hRC9.nx Bd
              go_region_with (first | (go_at_call 38; refine (hM _).mono ?_; rintro e w10 ⟨rfl, B10⟩; have Sa := S15d.nx B10; have x0 := Sa.cell 0; have x1 := Sa.cell 1; have x2 := Sa.cell 2) | (go_at_call 37; refine (hS _ _ w10 (rq_pos (st R5d B10) (st RN1d B10)) (rq_neg hPW0 (st R8d B10) (st RN8d B10))).mono ?_; rintro e w11 ⟨A11, c11, D11, d11, rfl, O11, P11, B11⟩; have Sb := Sa.nx B11; have y0 := Sb.cell 0; have y1 := Sb.cell 1; have y2 := Sb.cell 2; have f0 := Sb.frozen 0; have f1 := Sb.frozen 1; have f2 := Sb.frozen 2))
              all_goals
                have BF := (((bt (bt (bt (bt B7 BA) Bd) B10) B11).setCell (p := ⟨w6.heap.size, 0, none⟩) (Nat.le_refl _) (.bool (qn X))).setCell (p := ⟨w6.heap.size, 1, none⟩) (Nat.le_refl _) (.slice A11 (digs (qt X)).length c11)).setCell (p := ⟨w6.heap.size, 2, none⟩) (Nat.le_refl _) (.slice D11 (digs (qd X)).length d11)
                have h10 : w6.heap.size < w10.heap.size := (S15d.nx B10).2
                have hnA : ∀ g, A11 = some ⟨g, 0, none⟩ → g ≠ w6.heap.size := fun g hg => by subst hg; have := O11.lt.1; omega
                have hnD : ∀ g, D11 = some ⟨g, 0, none⟩ → g ≠ w6.heap.size := fun g hg => by subst hg; have := P11.lt.1; omega
                have OT := ((O11.far (p := ⟨w6.heap.size, 0, none⟩) hnA (.bool (qn X))).far (p := ⟨w6.heap.size, 1, none⟩) hnA (.slice A11 (digs (qt X)).length c11)).far (p := ⟨w6.heap.size, 2, none⟩) hnA (.slice D11 (digs (qd X)).length d11)
                have PT := ((P11.far (p := ⟨w6.heap.size, 0, none⟩) hnD (.bool (qn X))).far (p := ⟨w6.heap.size, 1, none⟩) hnD (.slice A11 (digs (qt X)).length c11)).far (p := ⟨w6.heap.size, 2, none⟩) hnD (.slice D11 (digs (qd X)).length d11)
                have O6f := O6.below BF (Nat.le_refl _)
                have S9' := ((Sb.set 0 (.bool (qn X))).set 1 (.slice A11 (digs (qt X)).length c11)).set 2 (.slice D11 (digs (qd X)).length d11)
                have q0 := S9'.cell 0
                have q1 := S9'.cell 1
                have q2 := S9'.cell 2
                have q3 := S9'.cell 3
                have q4 := S9'.cell 4
                have q5 := S9'.cell 5
                have hw6 : w.heap.size ≠ w6.heap.size := by omega
                have hRC := ((((hRCd.nx B10).nx B11).sb.far (p := ⟨w6.heap.size, 0, none⟩) hw6 (.bool (qn X))).far (p := ⟨w6.heap.size, 1, none⟩) hw6 (.slice A11 (digs (qt X)).length c11)).far (p := ⟨w6.heap.size, 2, none⟩) hw6 (.slice D11 (digs (qd X)).length d11)
                have hRC := hRC.rc (n := 6) (by simp)
                have hb10 : w.heap.size < w10.heap.size := by omega
                clear Sa Sb S9' y0 y1 y2 f0 f1 f2 S15d S15 S16
                go_wp2_with (refine wp_st6 rfl (.tmp 10) (.tmp 78) rfl _ rfl _ _ _ _ _ _ rfl hRC rfl rfl rfl rfl rfl rfl ?_)
                have s6 := hRC.put6 (.bool (qn X)) (.slice A11 (digs (qt X)).length c11) (.slice D11 (digs (qd X)).length d11) (.bool false) (.slice none 0 0) (.slice D6 1 1)
                have BZ := wr6_below (b := w.heap.size) (bt (bt (bt (bt B1 B5) Bo) B6) BF) (Nat.le_refl _) (.bool (qn X)) (.slice A11 (digs (qt X)).length c11) (.slice D11 (digs (qd X)).length d11) (.bool false) (.slice none 0 0) (.slice D6 1 1)
                have Oa := (OT).put6 (b := w.heap.size) hb10 (.bool (qn X)) (.slice A11 (digs (qt X)).length c11) (.slice D11 (digs (qd X)).length d11) (.bool false) (.slice none 0 0) (.slice D6 1 1)
                have Ob := (PT).put6 (b := w.heap.size) hb10 (.bool (qn X)) (.slice A11 (digs (qt X)).length c11) (.slice D11 (digs (qd X)).length d11) (.bool false) (.slice none 0 0) (.slice D6 1 1)
                have Od := (O6f).put6 (b := w.heap.size) hbz (.bool (qn X)) (.slice A11 (digs (qt X)).length c11) (.slice D11 (digs (qd X)).length d11) (.bool false) (.slice none 0 0) (.slice D6 1 1)
                have r0' := s6.cell 0
                have r1' := s6.cell 1
                have r2' := s6.cell 2
                have r3' := s6.cell 3
                have r4' := s6.cell 4
                have r5' := s6.cell 5
                refine bodyPost_ret (v := .tuple #[.agg #[.bool (qn X), .slice A11 (digs (qt X)).length c11, .slice D11 (digs (qd X)).length d11, .bool false, .slice none 0 0, .slice D6 1 1], .int .i64 0]) (by simp [results, r0', r1', r2', r3', r4', r5', go_sem]) rfl ?_
                exact ⟨A11, c11, D11, d11, none, 0, D6, 1, rfl, Oa.base_le (Nat.le_of_lt hb10), Ob.base_le (Nat.le_of_lt hb10), OW.nil _ _, Od.base_le (Nat.le_of_lt hbz), BZ⟩
        · rw [show (true && decide (128 ≤ (bg C t).toNat)) = false by rw [decide_eq_false hng]; rfl, if_neg (by simp), rwq_pos1, rwq_z]
          have tz : ((blen (lv C) : Int) == 8 * (s : Int)) = false := beq_eq_false_iff_ne.2 (fun h => hng ((top_size HCl.out HT.out).1 (by omega)))
          clear hng
          go_enter Try.func9, Try.ntmps9
          go_wp2_with fail
          refine hin.mono ?_; rintro e w' ⟨rfl, rfl⟩
          go_wp2_with fail
          go_loopg [12, 13] s (fun gg nv iv wr => ∃ (k : Nat) (A5 : Option Addr) (c5 : Nat), k ≤ s ∧ s - k = gg ∧ iv = .int .i64 (k : Int) ∧ nv = .slice A5 (digs (hi8 C k)).length c5 ∧ OW wr (w.alloc (.cells #[.bool false, .slice none 0 0, .slice none 0 0, .bool false, .slice none 0 0, .slice none 0 0] 27)).heap.size A5 c5 (digs (hi8 C k)) ∧ Below (w.alloc (.cells #[.bool false, .slice none 0 0, .slice none 0 0, .bool false, .slice none 0 0, .slice none 0 0] 27)).heap.size (w.alloc (.cells #[.bool false, .slice none 0 0, .slice none 0 0, .bool false, .slice none 0 0, .slice none 0 0] 27)) wr)
          case atStart => exact ⟨0, _, 0, Nat.zero_le _, rfl, rfl, by rw [hi8_zero, digs_zero]; rfl, by rw [hi8_zero, digs_zero]; have h5 := OW.empty (w.alloc (.cells #[.bool false, .slice none 0 0, .slice none 0 0, .bool false, .slice none 0 0, .slice none 0 0] 27)); rw [hz1] at h5 ⊢; exact h5, bal _ _⟩
          case round =>
            obtain ⟨k, A5, c5, hk, rfl, rfl, rfl, O5, B5⟩ := hrel
            by_cases h0 : k < s
            · obtain ⟨j, hj⟩ : ∃ j, j = s - 1 - k := ⟨_, rfl⟩
              have e1 : (a : Int) + (s : Int) - 1 - (k : Int) = (a : Int) + (j : Int) := by omega
              obtain ⟨b', off', he, _, hx⟩ := RM.at_ (RM.below h (bt B1 B5)) (by omega)
              simp only [Option.some.injEq, Addr.mk.injEq, and_true] at he
              obtain ⟨rfl, rfl⟩ := he
              have x1 := hx (a + j) _ (bg_get? (by omega))
              have x2 := hx (a + k) _ (bg_get? (by omega))
              simp only [f8] at x1 x2
              have hbk := hsc k h0
              rw [← hj] at hbk
              have lj := (bg l (a + j)).toNat_lt
              have lk := (bg l (a + k)).toNat_lt
              have ew : IntKind.u64.wrap ((bg l (a + j)).toNat : Int) = ((bg l (a + j)).toNat : Int) := IntWalk.u64_in _ (by omega)
              have hd5 : (digs (hi8 C k)).length ≤ 100 := by have := digs_len_le.2 (Nat.lt_trans (hi8_lt C k (by rw [HCl.out]; omega)) (pow_wm (s := k) (m := 17) (by omega))); omega
              have hT := rtimes_any A5 (some ⟨wr.heap.size, 0, none⟩) c5 1 _ 1 (digs (hi8 C k)) [256] (wr.alloc (.cells #[.int .u32 (256 : Nat)] 53)) rfl rfl (st O5.rw (bal _ _)) ((RW.one wr 53 (show 256 < 4294967296 by omega)).more (by simp)) (by omega) (by simp)
              rw [val_digs, val_one] at hT
              have hO := fun w' => rof_any ((bg l (a + j)).toNat : Int) w' (by omega) (by omega)
              simp only [Int.toNat_natCast] at hO
              have hd6 : (digs (hi8 C k * 256)).length ≤ 200 := by have := digs_mul (hi8 C k) 256; rw [digs_one (n := 256) (by omega) (by omega)] at this; simp only [List.length_singleton] at this; omega
              have hd7 : (digs (bg l (a + j)).toNat).length ≤ 2 := digs_u64 (by omega)
              have HJ := Lib.hid hj
              clear hj hd5
              go_wp2_with fail
              refine hT.mono ?_; rintro e w6 ⟨A6, c6, rfl, O6, B6⟩
              go_wp2_with fail
              refine (hO w6).mono ?_; rintro e w7 ⟨A7, c7, rfl, O7, B7⟩
              have hP := rplus_any A6 A7 c6 c7 _ _ (digs (hi8 C k * 256)) (digs (bg l (a + j)).toNat) w7 rfl rfl (st O6.rw B7) O7.rw (by omega) (by omega)
              rw [val_digs, val_digs, ← hbk.out] at hP
              go_wp2_with fail
              refine hP.mono ?_; rintro e w8 ⟨A8, c8, rfl, O8, B8⟩
              go_wp2_with fail
              go_roundg (s - (k + 1))
              case measure => omega
              case rel => exact ⟨k + 1, A8, c8, by omega, rfl, by go_num, rfl, O8.base_le (by have := B5.size; have := (bal wr (.cells #[.int .u32 (256 : Nat)] 53)).size; have := B6.size; have := B7.size; omega), B5.trans ((bt (bt (bt (bal _ _) B6) B7) B8).mono B5.size)⟩
            · obtain rfl : k = s := by omega
              have hv : hi8 C k = lv C := by have := hi8_all C; rw [HCl.out] at this; exact this
              rw [hv] at O5 ⊢
              clear hv h0
              go_wp2_with fail
              refine (rzero0_any _).mono ?_; rintro e w6 ⟨D6, rfl, O6, B6⟩
              have Bo := bal wr (.cells #[.int .u32 (1 : Int)] 53)
              have z5 : (wr.alloc (.cells #[.int .u32 (1 : Int)] 53)).heap.size = wr.heap.size + 1 := by simp
              have ON : OW (wr.alloc (.cells #[.int .u32 (1 : Int)] 53)) wr.heap.size (some ⟨wr.heap.size, 0, none⟩) 1 [1] := OW.lit wr [1] (by simp) (by rw [← digs_one1]; exact B32_digs 1)
              have B7 := bal w6 (.cells #[.bool false, .slice A5 (digs (lv C)).length c5, .slice (some ⟨wr.heap.size, 0, none⟩) 1 1, .bool false, .slice none 0 0, .slice D6 1 1] 27)
              have S7 := SB.new w6 [.bool false, .slice A5 (digs (lv C)).length c5, .slice (some ⟨wr.heap.size, 0, none⟩) 1 1, .bool false, .slice none 0 0, .slice D6 1 1] 27
              have hbr : w.heap.size < wr.heap.size := (S1.nx B5).2
              have hb1 : w.heap.size < (w.alloc (.cells #[.bool false, .slice none 0 0, .slice none 0 0, .bool false, .slice none 0 0, .slice none 0 0] 27)).heap.size := S1.2
              have hRC := (((((S1.nx B5).nx Bo).nx B6).nx B7)).rc (n := 6)
              have hb6 : wr.heap.size < w6.heap.size := by have := Bo.size; have := B6.size; omega
              have hsz := rsize_any A5 c5 _ (digs (lv C)) (w6.alloc (.cells #[.bool false, .slice A5 (digs (lv C)).length c5, .slice (some ⟨wr.heap.size, 0, none⟩) 1 1, .bool false, .slice none 0 0, .slice D6 1 1] 27)) rfl (st (st (st O5.rw Bo) B6) B7)
              rw [val_digs] at hsz
              have e8 : IntKind.i64.wrap (8 * (k : Int)) = 8 * (k : Int) := IntWalk.i64_in _ (by omega)
              go_wp2_with fail
              refine hsz.mono ?_; rintro e w' ⟨rfl, rfl⟩
              have hbz : w.heap.size < (wr.alloc (.cells #[.int .u32 (1 : Int)] 53)).heap.size + 1 := by rw [z5]; omega
              go_wp2_with (refine wp_st6 rfl (.tmp 10) (.tmp 78) rfl _ rfl _ _ _ _ _ _ rfl hRC rfl rfl rfl rfl rfl rfl ?_)
              have s6 := hRC.put6 (.bool false) (.slice A5 (digs (lv C)).length c5) (.slice (some ⟨wr.heap.size, 0, none⟩) 1 1) (.bool false) (.slice none 0 0) (.slice D6 1 1)
              have BZ := wr6_below (b := w.heap.size) (bt (bt (bt (bt B1 B5) Bo) B6) B7) (Nat.le_refl _) (.bool false) (.slice A5 (digs (lv C)).length c5) (.slice (some ⟨wr.heap.size, 0, none⟩) 1 1) (.bool false) (.slice none 0 0) (.slice D6 1 1)
              have Oa := (O5.below (bt (bt Bo B6) B7) (Nat.le_refl _)).put6 (b := w.heap.size) hb1 (.bool false) (.slice A5 (digs (lv C)).length c5) (.slice (some ⟨wr.heap.size, 0, none⟩) 1 1) (.bool false) (.slice none 0 0) (.slice D6 1 1)
              have Ob := (ON.below (bt B6 B7) (Nat.le_refl _)).put6 (b := w.heap.size) hbr (.bool false) (.slice A5 (digs (lv C)).length c5) (.slice (some ⟨wr.heap.size, 0, none⟩) 1 1) (.bool false) (.slice none 0 0) (.slice D6 1 1)
              have Od := (O6.below B7 (Nat.le_refl _)).put6 (b := w.heap.size) hbz (.bool false) (.slice A5 (digs (lv C)).length c5) (.slice (some ⟨wr.heap.size, 0, none⟩) 1 1) (.bool false) (.slice none 0 0) (.slice D6 1 1)
              have r0' := s6.cell 0
              have r1' := s6.cell 1
              have r2' := s6.cell 2
              have r3' := s6.cell 3
              have r4' := s6.cell 4
              have r5' := s6.cell 5
              refine bodyPost_ret (v := .tuple #[.agg #[.bool false, .slice A5 (digs (lv C)).length c5, .slice (some ⟨wr.heap.size, 0, none⟩) 1 1, .bool false, .slice none 0 0, .slice D6 1 1], .int .i64 0]) (by simp [results, r0', r1', r2', r3', r4', r5', go_sem]) rfl ?_
              exact ⟨A5, c5, some ⟨wr.heap.size, 0, none⟩, 1, none, 0, D6, 1, rfl, Oa.base_le (Nat.le_of_lt hb1), Ob.base_le (Nat.le_of_lt hbr), OW.nil _ _, Od.base_le (Nat.le_of_lt hbz), BZ⟩
    | true =>
      have hsc := fun k hk => (hsucc k hk).2 rfl
      clear hsucc
      cases signed with
      | false =>
        rw [show (false && decide (128 ≤ (bg C t).toNat)) = false from rfl, if_neg (by simp), rwq_pos1, rwq_z]
        go_enter Try.func9, Try.ntmps9
        go_wp2_with fail
        refine hin.mono ?_; rintro e w' ⟨rfl, rfl⟩
        go_wp2_with fail
        go_loopg [12, 13] s (fun gg nv iv wr => ∃ (k : Nat) (A5 : Option Addr) (c5 : Nat), k ≤ s ∧ s - k = gg ∧ iv = .int .i64 (k : Int) ∧ nv = .slice A5 (digs (hi8 C k)).length c5 ∧ OW wr (w.alloc (.cells #[.bool false, .slice none 0 0, .slice none 0 0, .bool false, .slice none 0 0, .slice none 0 0] 27)).heap.size A5 c5 (digs (hi8 C k)) ∧ Below (w.alloc (.cells #[.bool false, .slice none 0 0, .slice none 0 0, .bool false, .slice none 0 0, .slice none 0 0] 27)).heap.size (w.alloc (.cells #[.bool false, .slice none 0 0, .slice none 0 0, .bool false, .slice none 0 0, .slice none 0 0] 27)) wr)
        case atStart => exact ⟨0, _, 0, Nat.zero_le _, rfl, rfl, by rw [hi8_zero, digs_zero]; rfl, by rw [hi8_zero, digs_zero]; have h5 := OW.empty (w.alloc (.cells #[.bool false, .slice none 0 0, .slice none 0 0, .bool false, .slice none 0 0, .slice none 0 0] 27)); rw [hz1] at h5 ⊢; exact h5, bal _ _⟩
        case round =>
          obtain ⟨k, A5, c5, hk, rfl, rfl, rfl, O5, B5⟩ := hrel
          by_cases h0 : k < s
          · obtain ⟨j, hj⟩ : ∃ j, j = s - 1 - k := ⟨_, rfl⟩
            have e1 : (a : Int) + (s : Int) - 1 - (k : Int) = (a : Int) + (j : Int) := by omega
            obtain ⟨b', off', he, _, hx⟩ := RM.at_ (RM.below h (bt B1 B5)) (by omega)
            simp only [Option.some.injEq, Addr.mk.injEq, and_true] at he
            obtain ⟨rfl, rfl⟩ := he
            have x1 := hx (a + j) _ (bg_get? (by omega))
            have x2 := hx (a + k) _ (bg_get? (by omega))
            simp only [f8] at x1 x2
            have hbk := hsc k h0
            have lj := (bg l (a + j)).toNat_lt
            have lk := (bg l (a + k)).toNat_lt
            have ew : IntKind.u64.wrap ((bg l (a + k)).toNat : Int) = ((bg l (a + k)).toNat : Int) := IntWalk.u64_in _ (by omega)
            have hd5 : (digs (hi8 C k)).length ≤ 100 := by have := digs_len_le.2 (Nat.lt_trans (hi8_lt C k (by rw [HCl.out]; omega)) (pow_wm (s := k) (m := 17) (by omega))); omega
            have hT := rtimes_any A5 (some ⟨wr.heap.size, 0, none⟩) c5 1 _ 1 (digs (hi8 C k)) [256] (wr.alloc (.cells #[.int .u32 (256 : Nat)] 53)) rfl rfl (st O5.rw (bal _ _)) ((RW.one wr 53 (show 256 < 4294967296 by omega)).more (by simp)) (by omega) (by simp)
            rw [val_digs, val_one] at hT
            have hO := fun w' => rof_any ((bg l (a + k)).toNat : Int) w' (by omega) (by omega)
            simp only [Int.toNat_natCast] at hO
            have hd6 : (digs (hi8 C k * 256)).length ≤ 200 := by have := digs_mul (hi8 C k) 256; rw [digs_one (n := 256) (by omega) (by omega)] at this; simp only [List.length_singleton] at this; omega
            have hd7 : (digs (bg l (a + k)).toNat).length ≤ 2 := digs_u64 (by omega)
            have HJ := Lib.hid hj
            clear hj hd5
            go_wp2_with fail
            refine hT.mono ?_; rintro e w6 ⟨A6, c6, rfl, O6, B6⟩
            go_wp2_with fail
            refine (hO w6).mono ?_; rintro e w7 ⟨A7, c7, rfl, O7, B7⟩
            have hP := rplus_any A6 A7 c6 c7 _ _ (digs (hi8 C k * 256)) (digs (bg l (a + k)).toNat) w7 rfl rfl (st O6.rw B7) O7.rw (by omega) (by omega)
            rw [val_digs, val_digs, ← hbk.out] at hP
            go_wp2_with fail
            refine hP.mono ?_; rintro e w8 ⟨A8, c8, rfl, O8, B8⟩
            go_wp2_with fail
            go_roundg (s - (k + 1))
            case measure => omega
            case rel => exact ⟨k + 1, A8, c8, by omega, rfl, by go_num, rfl, O8.base_le (by have := B5.size; have := (bal wr (.cells #[.int .u32 (256 : Nat)] 53)).size; have := B6.size; have := B7.size; omega), B5.trans ((bt (bt (bt (bal _ _) B6) B7) B8).mono B5.size)⟩
          · obtain rfl : k = s := by omega
            have hv : hi8 C k = lv C := by have := hi8_all C; rw [HCl.out] at this; exact this
            rw [hv] at O5 ⊢
            clear hv h0
            go_wp2_with fail
            refine (rzero0_any _).mono ?_; rintro e w6 ⟨D6, rfl, O6, B6⟩
            have Bo := bal wr (.cells #[.int .u32 (1 : Int)] 53)
            have z5 : (wr.alloc (.cells #[.int .u32 (1 : Int)] 53)).heap.size = wr.heap.size + 1 := by simp
            have ON : OW (wr.alloc (.cells #[.int .u32 (1 : Int)] 53)) wr.heap.size (some ⟨wr.heap.size, 0, none⟩) 1 [1] := OW.lit wr [1] (by simp) (by rw [← digs_one1]; exact B32_digs 1)
            have B7 := bal w6 (.cells #[.bool false, .slice A5 (digs (lv C)).length c5, .slice (some ⟨wr.heap.size, 0, none⟩) 1 1, .bool false, .slice none 0 0, .slice D6 1 1] 27)
            have S7 := SB.new w6 [.bool false, .slice A5 (digs (lv C)).length c5, .slice (some ⟨wr.heap.size, 0, none⟩) 1 1, .bool false, .slice none 0 0, .slice D6 1 1] 27
            have hbr : w.heap.size < wr.heap.size := (S1.nx B5).2
            have hb1 : w.heap.size < (w.alloc (.cells #[.bool false, .slice none 0 0, .slice none 0 0, .bool false, .slice none 0 0, .slice none 0 0] 27)).heap.size := S1.2
            have hRC := (((((S1.nx B5).nx Bo).nx B6).nx B7)).rc (n := 6)
            have hb6 : wr.heap.size < w6.heap.size := by have := Bo.size; have := B6.size; omega
            have hbz : w.heap.size < (wr.alloc (.cells #[.int .u32 (1 : Int)] 53)).heap.size + 1 := by rw [z5]; omega
            go_wp2_with (refine wp_st6 rfl (.tmp 10) (.tmp 78) rfl _ rfl _ _ _ _ _ _ rfl hRC rfl rfl rfl rfl rfl rfl ?_)
            have s6 := hRC.put6 (.bool false) (.slice A5 (digs (lv C)).length c5) (.slice (some ⟨wr.heap.size, 0, none⟩) 1 1) (.bool false) (.slice none 0 0) (.slice D6 1 1)
            have BZ := wr6_below (b := w.heap.size) (bt (bt (bt (bt B1 B5) Bo) B6) B7) (Nat.le_refl _) (.bool false) (.slice A5 (digs (lv C)).length c5) (.slice (some ⟨wr.heap.size, 0, none⟩) 1 1) (.bool false) (.slice none 0 0) (.slice D6 1 1)
            have Oa := (O5.below (bt (bt Bo B6) B7) (Nat.le_refl _)).put6 (b := w.heap.size) hb1 (.bool false) (.slice A5 (digs (lv C)).length c5) (.slice (some ⟨wr.heap.size, 0, none⟩) 1 1) (.bool false) (.slice none 0 0) (.slice D6 1 1)
            have Ob := (ON.below (bt B6 B7) (Nat.le_refl _)).put6 (b := w.heap.size) hbr (.bool false) (.slice A5 (digs (lv C)).length c5) (.slice (some ⟨wr.heap.size, 0, none⟩) 1 1) (.bool false) (.slice none 0 0) (.slice D6 1 1)
            have Od := (O6.below B7 (Nat.le_refl _)).put6 (b := w.heap.size) hbz (.bool false) (.slice A5 (digs (lv C)).length c5) (.slice (some ⟨wr.heap.size, 0, none⟩) 1 1) (.bool false) (.slice none 0 0) (.slice D6 1 1)
            have r0' := s6.cell 0
            have r1' := s6.cell 1
            have r2' := s6.cell 2
            have r3' := s6.cell 3
            have r4' := s6.cell 4
            have r5' := s6.cell 5
            refine bodyPost_ret (v := .tuple #[.agg #[.bool false, .slice A5 (digs (lv C)).length c5, .slice (some ⟨wr.heap.size, 0, none⟩) 1 1, .bool false, .slice none 0 0, .slice D6 1 1], .int .i64 0]) (by simp [results, r0', r1', r2', r3', r4', r5', go_sem]) rfl ?_
            exact ⟨A5, c5, some ⟨wr.heap.size, 0, none⟩, 1, none, 0, D6, 1, rfl, Oa.base_le (Nat.le_of_lt hb1), Ob.base_le (Nat.le_of_lt hbr), OW.nil _ _, Od.base_le (Nat.le_of_lt hbz), BZ⟩
      | true =>
        by_cases hng : 128 ≤ (bg C t).toNat
        · rw [show (true && decide (128 ≤ (bg C t).toNat)) = true by rw [decide_eq_true hng]; rfl, if_pos rfl, HPW.out, rwq_z]
          obtain ⟨X, HX⟩ : ∃ X : Rat, Hid (X = (((lv C : Int) - (PW : Int) : Int) : Rat)) := ⟨_, rfl⟩
          rw [← HX.out]
          have tz : ((blen (lv C) : Int) == 8 * (s : Int)) = true := by rw [beq_iff_eq]; have := (top_size HCl.out HT.out).2 hng; omega
          clear hng
          go_enter Try.func9, Try.ntmps9
          go_wp2_with fail
          refine hin.mono ?_; rintro e w' ⟨rfl, rfl⟩
          go_wp2_with fail
          go_loopg [12, 13] s (fun gg nv iv wr => ∃ (k : Nat) (A5 : Option Addr) (c5 : Nat), k ≤ s ∧ s - k = gg ∧ iv = .int .i64 (k : Int) ∧ nv = .slice A5 (digs (hi8 C k)).length c5 ∧ OW wr (w.alloc (.cells #[.bool false, .slice none 0 0, .slice none 0 0, .bool false, .slice none 0 0, .slice none 0 0] 27)).heap.size A5 c5 (digs (hi8 C k)) ∧ Below (w.alloc (.cells #[.bool false, .slice none 0 0, .slice none 0 0, .bool false, .slice none 0 0, .slice none 0 0] 27)).heap.size (w.alloc (.cells #[.bool false, .slice none 0 0, .slice none 0 0, .bool false, .slice none 0 0, .slice none 0 0] 27)) wr)
          case atStart => exact ⟨0, _, 0, Nat.zero_le _, rfl, rfl, by rw [hi8_zero, digs_zero]; rfl, by rw [hi8_zero, digs_zero]; have h5 := OW.empty (w.alloc (.cells #[.bool false, .slice none 0 0, .slice none 0 0, .bool false, .slice none 0 0, .slice none 0 0] 27)); rw [hz1] at h5 ⊢; exact h5, bal _ _⟩
          case round =>
            obtain ⟨k, A5, c5, hk, rfl, rfl, rfl, O5, B5⟩ := hrel
            by_cases h0 : k < s
            · obtain ⟨j, hj⟩ : ∃ j, j = s - 1 - k := ⟨_, rfl⟩
              have e1 : (a : Int) + (s : Int) - 1 - (k : Int) = (a : Int) + (j : Int) := by omega
              obtain ⟨b', off', he, _, hx⟩ := RM.at_ (RM.below h (bt B1 B5)) (by omega)
              simp only [Option.some.injEq, Addr.mk.injEq, and_true] at he
              obtain ⟨rfl, rfl⟩ := he
              have x1 := hx (a + j) _ (bg_get? (by omega))
              have x2 := hx (a + k) _ (bg_get? (by omega))
              simp only [f8] at x1 x2
              have hbk := hsc k h0
              have lj := (bg l (a + j)).toNat_lt
              have lk := (bg l (a + k)).toNat_lt
              have ew : IntKind.u64.wrap ((bg l (a + k)).toNat : Int) = ((bg l (a + k)).toNat : Int) := IntWalk.u64_in _ (by omega)
              have hd5 : (digs (hi8 C k)).length ≤ 100 := by have := digs_len_le.2 (Nat.lt_trans (hi8_lt C k (by rw [HCl.out]; omega)) (pow_wm (s := k) (m := 17) (by omega))); omega
              have hT := rtimes_any A5 (some ⟨wr.heap.size, 0, none⟩) c5 1 _ 1 (digs (hi8 C k)) [256] (wr.alloc (.cells #[.int .u32 (256 : Nat)] 53)) rfl rfl (st O5.rw (bal _ _)) ((RW.one wr 53 (show 256 < 4294967296 by omega)).more (by simp)) (by omega) (by simp)
              rw [val_digs, val_one] at hT
              have hO := fun w' => rof_any ((bg l (a + k)).toNat : Int) w' (by omega) (by omega)
              simp only [Int.toNat_natCast] at hO
              have hd6 : (digs (hi8 C k * 256)).length ≤ 200 := by have := digs_mul (hi8 C k) 256; rw [digs_one (n := 256) (by omega) (by omega)] at this; simp only [List.length_singleton] at this; omega
              have hd7 : (digs (bg l (a + k)).toNat).length ≤ 2 := digs_u64 (by omega)
              have HJ := Lib.hid hj
              clear hj hd5
              go_wp2_with fail
              refine hT.mono ?_; rintro e w6 ⟨A6, c6, rfl, O6, B6⟩
              go_wp2_with fail
              refine (hO w6).mono ?_; rintro e w7 ⟨A7, c7, rfl, O7, B7⟩
              have hP := rplus_any A6 A7 c6 c7 _ _ (digs (hi8 C k * 256)) (digs (bg l (a + k)).toNat) w7 rfl rfl (st O6.rw B7) O7.rw (by omega) (by omega)
              rw [val_digs, val_digs, ← hbk.out] at hP
              go_wp2_with fail
              refine hP.mono ?_; rintro e w8 ⟨A8, c8, rfl, O8, B8⟩
              go_wp2_with fail
              go_roundg (s - (k + 1))
              case measure => omega
              case rel => exact ⟨k + 1, A8, c8, by omega, rfl, by go_num, rfl, O8.base_le (by have := B5.size; have := (bal wr (.cells #[.int .u32 (256 : Nat)] 53)).size; have := B6.size; have := B7.size; omega), B5.trans ((bt (bt (bt (bal _ _) B6) B7) B8).mono B5.size)⟩
            · obtain rfl : k = s := by omega
              have hv : hi8 C k = lv C := by have := hi8_all C; rw [HCl.out] at this; exact this
              rw [hv] at O5 ⊢
              clear hv h0
              go_wp2_with fail
              refine (rzero0_any _).mono ?_; rintro e w6 ⟨D6, rfl, O6, B6⟩
              have Bo := bal wr (.cells #[.int .u32 (1 : Int)] 53)
              have z5 : (wr.alloc (.cells #[.int .u32 (1 : Int)] 53)).heap.size = wr.heap.size + 1 := by simp
              have ON : OW (wr.alloc (.cells #[.int .u32 (1 : Int)] 53)) wr.heap.size (some ⟨wr.heap.size, 0, none⟩) 1 [1] := OW.lit wr [1] (by simp) (by rw [← digs_one1]; exact B32_digs 1)
              have B7 := bal w6 (.cells #[.bool false, .slice A5 (digs (lv C)).length c5, .slice (some ⟨wr.heap.size, 0, none⟩) 1 1, .bool false, .slice none 0 0, .slice D6 1 1] 27)
              have S7 := SB.new w6 [.bool false, .slice A5 (digs (lv C)).length c5, .slice (some ⟨wr.heap.size, 0, none⟩) 1 1, .bool false, .slice none 0 0, .slice D6 1 1] 27
              have hbr : w.heap.size < wr.heap.size := (S1.nx B5).2
              have hb1 : w.heap.size < (w.alloc (.cells #[.bool false, .slice none 0 0, .slice none 0 0, .bool false, .slice none 0 0, .slice none 0 0] 27)).heap.size := S1.2
              have hRC := (((((S1.nx B5).nx Bo).nx B6).nx B7)).rc (n := 6)
              have hb6 : wr.heap.size < w6.heap.size := by have := Bo.size; have := B6.size; omega
              have hsz := rsize_any A5 c5 _ (digs (lv C)) (w6.alloc (.cells #[.bool false, .slice A5 (digs (lv C)).length c5, .slice (some ⟨wr.heap.size, 0, none⟩) 1 1, .bool false, .slice none 0 0, .slice D6 1 1] 27)) rfl (st (st (st O5.rw Bo) B6) B7)
              rw [val_digs] at hsz
              have e8 : IntKind.i64.wrap (8 * (k : Int)) = 8 * (k : Int) := IntWalk.i64_in _ (by omega)
              go_wp2_with fail
              refine hsz.mono ?_; rintro e w' ⟨rfl, rfl⟩
              have hbz : w.heap.size < (wr.alloc (.cells #[.int .u32 (1 : Int)] 53)).heap.size + 1 := by rw [z5]; omega
              obtain ⟨W7, hW7⟩ : ∃ W7, W7 = w6.alloc (.cells #[.bool false, .slice A5 (digs (lv C)).length c5, .slice (some ⟨wr.heap.size, 0, none⟩) 1 1, .bool false, .slice none 0 0, .slice D6 1 1] 27) := ⟨_, rfl⟩
              rw [← hW7] at S7 hRC B7 ⊢
              clear hW7
              have hXe : (((lv C : Nat) : Int) : Rat) + ((-(PW : Int) : Int) : Rat) = X := by rw [HX.out, ← Rat.intCast_add]; rfl
              have hPW17 : PW < Wp 17 := by rw [← HPn.out]; exact pow_wm (by omega)
              have hPW0 : 0 < PW := by rw [← HPn.out]; exact Nat.pow_pos (by omega)
              have hq1 := qw_int ((lv C : Nat) : Int) 17 (by omega) (by rw [Int.natAbs_natCast]; exact Nat.lt_trans hlt.out hPW17)
              have hq2 := qw_int (-(PW : Int)) 17 (by omega) (by rw [Int.natAbs_neg, Int.natAbs_natCast]; exact hPW17)
              have hS := fun v u w' x y => rsum_any v u (((lv C : Nat) : Int) : Rat) ((-(PW : Int) : Int) : Rat) w' x y (by omega)
              simp only [hXe] at hS
              have hdP : decide (0 < (digs PW).length) = true := by rw [← digs_pos_iff]; exact decide_eq_true hPW0
              clear hXe hq1 hq2 hPW17
              have hU := rup_any (some ⟨W7.heap.size, 0, none⟩) 1 1 [1] (W7.alloc (.cells #[.int .u32 (1 : Int)] 53)) (8 * k) (by omega) rfl ((RW.one W7 53 (show 1 < 4294967296 by omega)).more (by simp)) (by simp)
              rw [val_one, Nat.one_mul, ← pow8, HPn.out, show ((8 * k : Nat) : Int) = 8 * (k : Int) by omega] at hU
              go_wp2_with fail
              refine hU.mono ?_; rintro e w8 ⟨A8, c8, rfl, O8, B8⟩
              have hM := fun w' => rminus_raw false A8 (some ⟨w8.heap.size, 0, none⟩) c8 1 (digs PW).length 1 w'
              simp only [Bool.not_false, Bool.true_and, hdP] at hM
              clear hdP
              have Bo7 := bal W7 (.cells #[.int .u32 (1 : Int)] 53)
              have Bo8 := bal w8 (.cells #[.int .u32 (1 : Int)] 53)
              have B16 := bal (w8.alloc (.cells #[.int .u32 (1 : Int)] 53)) (.cells #[.bool false, .slice A8 (digs PW).length c8, .slice (some ⟨w8.heap.size, 0, none⟩) 1 1] 25)
              have z8 : (w8.alloc (.cells #[.int .u32 (1 : Int)] 53)).heap.size = w8.heap.size + 1 := by simp
              have ON8 : OW (w8.alloc (.cells #[.int .u32 (1 : Int)] 53)) w8.heap.size (some ⟨w8.heap.size, 0, none⟩) 1 [1] := OW.lit w8 [1] (by simp) (by rw [← digs_one1]; exact B32_digs 1)
              have S16 := SB.new (w8.alloc (.cells #[.int .u32 (1 : Int)] 53)) [.bool false, .slice A8 (digs PW).length c8, .slice (some ⟨w8.heap.size, 0, none⟩) 1 1] 25
              rw [z8] at S16
              have BA := bt (bt Bo7 B8) (bt Bo8 B16)
              have S15 := S7.nx BA
              have hRC9 := hRC.nx BA
              have R5 := st (st (st (st O5.rw Bo) B6) B7) BA
              have RN1 := st (st (st ON.rw B6) B7) BA
              have R8 := st O8.rw (bt Bo8 B16)
              have RN8 := st ON8.rw B16
              obtain ⟨W9, hW9⟩ : ∃ W9, W9 = (w8.alloc (.cells #[.int .u32 (1 : Int)] 53)).alloc (.cells #[.bool false, .slice A8 (digs PW).length c8, .slice (some ⟨w8.heap.size, 0, none⟩) 1 1] 25) := ⟨_, rfl⟩
              go_wp2_with fail
              rw [← hW9] at S16 S15 hRC9 R5 RN1 R8 RN8 BA ⊢
              clear hW9 S7 hRC
              have m0 := S15.cell 0
              have m1 := S15.cell 1
              have m2 := S15.cell 2
              have n0 := S16.cell 0
              have n1 := S16.cell 1
              have n2 := S16.cell 2
              have Bd : Below W9.heap.size W9 W9.drew := Below.drew (Below.refl _ _)
              have S15d := S15.nx Bd
              have R5d := st R5 Bd
              have RN1d := st RN1 Bd
              have R8d := st R8 Bd
              have RN8d := st RN8 Bd
              have hRCd := hRC9.nx Bd
              go_region_with (first | (go_at_call 38; refine (hM _).mono ?_; rintro e w10 ⟨rfl, B10⟩; have Sa := S15d.nx B10; have x0 := Sa.cell 0; have x1 := Sa.cell 1; have x2 := Sa.cell 2) | (go_at_call 37; refine (hS _ _ w10 (rq_pos (st R5d B10) (st RN1d B10)) (rq_neg hPW0 (st R8d B10) (st RN8d B10))).mono ?_; rintro e w11 ⟨A11, c11, D11, d11, rfl, O11, P11, B11⟩; have Sb := Sa.nx B11; have y0 := Sb.cell 0; have y1 := Sb.cell 1; have y2 := Sb.cell 2; have f0 := Sb.frozen 0; have f1 := Sb.frozen 1; have f2 := Sb.frozen 2))
              all_goals
                have BF := (((bt (bt (bt (bt B7 BA) Bd) B10) B11).setCell (p := ⟨w6.heap.size, 0, none⟩) (Nat.le_refl _) (.bool (qn X))).setCell (p := ⟨w6.heap.size, 1, none⟩) (Nat.le_refl _) (.slice A11 (digs (qt X)).length c11)).setCell (p := ⟨w6.heap.size, 2, none⟩) (Nat.le_refl _) (.slice D11 (digs (qd X)).length d11)
                have h10 : w6.heap.size < w10.heap.size := (S15d.nx B10).2
                have hnA : ∀ g, A11 = some ⟨g, 0, none⟩ → g ≠ w6.heap.size := fun g hg => by subst hg; have := O11.lt.1; omega
                have hnD : ∀ g, D11 = some ⟨g, 0, none⟩ → g ≠ w6.heap.size := fun g hg => by subst hg; have := P11.lt.1; omega
                have OT := ((O11.far (p := ⟨w6.heap.size, 0, none⟩) hnA (.bool (qn X))).far (p := ⟨w6.heap.size, 1, none⟩) hnA (.slice A11 (digs (qt X)).length c11)).far (p := ⟨w6.heap.size, 2, none⟩) hnA (.slice D11 (digs (qd X)).length d11)
                have PT := ((P11.far (p := ⟨w6.heap.size, 0, none⟩) hnD (.bool (qn X))).far (p := ⟨w6.heap.size, 1, none⟩) hnD (.slice A11 (digs (qt X)).length c11)).far (p := ⟨w6.heap.size, 2, none⟩) hnD (.slice D11 (digs (qd X)).length d11)
                have O6f := O6.below BF (Nat.le_refl _)
                have S9' := ((Sb.set 0 (.bool (qn X))).set 1 (.slice A11 (digs (qt X)).length c11)).set 2 (.slice D11 (digs (qd X)).length d11)
                have q0 := S9'.cell 0
                have q1 := S9'.cell 1
                have q2 := S9'.cell 2
                have q3 := S9'.cell 3
                have q4 := S9'.cell 4
                have q5 := S9'.cell 5
                have hw6 : w.heap.size ≠ w6.heap.size := by omega
                have hRC := ((((hRCd.nx B10).nx B11).sb.far (p := ⟨w6.heap.size, 0, none⟩) hw6 (.bool (qn X))).far (p := ⟨w6.heap.size, 1, none⟩) hw6 (.slice A11 (digs (qt X)).length c11)).far (p := ⟨w6.heap.size, 2, none⟩) hw6 (.slice D11 (digs (qd X)).length d11)
                have hRC := hRC.rc (n := 6) (by simp)
                have hb10 : w.heap.size < w10.heap.size := by omega
                clear Sa Sb S9' y0 y1 y2 f0 f1 f2 S15d S15 S16
                go_wp2_with (refine wp_st6 rfl (.tmp 10) (.tmp 78) rfl _ rfl _ _ _ _ _ _ rfl hRC rfl rfl rfl rfl rfl rfl ?_)
                have s6 := hRC.put6 (.bool (qn X)) (.slice A11 (digs (qt X)).length c11) (.slice D11 (digs (qd X)).length d11) (.bool false) (.slice none 0 0) (.slice D6 1 1)
                have BZ := wr6_below (b := w.heap.size) (bt (bt (bt (bt B1 B5) Bo) B6) BF) (Nat.le_refl _) (.bool (qn X)) (.slice A11 (digs (qt X)).length c11) (.slice D11 (digs (qd X)).length d11) (.bool false) (.slice none 0 0) (.slice D6 1 1)
                have Oa := (OT).put6 (b := w.heap.size) hb10 (.bool (qn X)) (.slice A11 (digs (qt X)).length c11) (.slice D11 (digs (qd X)).length d11) (.bool false) (.slice none 0 0) (.slice D6 1 1)
                have Ob := (PT).put6 (b := w.heap.size) hb10 (.bool (qn X)) (.slice A11 (digs (qt X)).length c11) (.slice D11 (digs (qd X)).length d11) (.bool false) (.slice none 0 0) (.slice D6 1 1)
                have Od := (O6f).put6 (b := w.heap.size) hbz (.bool (qn X)) (.slice A11 (digs (qt X)).length c11) (.slice D11 (digs (qd X)).length d11) (.bool false) (.slice none 0 0) (.slice D6 1 1)
                have r0' := s6.cell 0
                have r1' := s6.cell 1
                have r2' := s6.cell 2
                have r3' := s6.cell 3
                have r4' := s6.cell 4
                have r5' := s6.cell 5
                refine bodyPost_ret (v := .tuple #[.agg #[.bool (qn X), .slice A11 (digs (qt X)).length c11, .slice D11 (digs (qd X)).length d11, .bool false, .slice none 0 0, .slice D6 1 1], .int .i64 0]) (by simp [results, r0', r1', r2', r3', r4', r5', go_sem]) rfl ?_
                exact ⟨A11, c11, D11, d11, none, 0, D6, 1, rfl, Oa.base_le (Nat.le_of_lt hb10), Ob.base_le (Nat.le_of_lt hb10), OW.nil _ _, Od.base_le (Nat.le_of_lt hbz), BZ⟩
        · rw [show (true && decide (128 ≤ (bg C t).toNat)) = false by rw [decide_eq_false hng]; rfl, if_neg (by simp), rwq_pos1, rwq_z]
          have tz : ((blen (lv C) : Int) == 8 * (s : Int)) = false := beq_eq_false_iff_ne.2 (fun h => hng ((top_size HCl.out HT.out).1 (by omega)))
          clear hng
          go_enter Try.func9, Try.ntmps9
          go_wp2_with fail
          refine hin.mono ?_; rintro e w' ⟨rfl, rfl⟩
          go_wp2_with fail
          go_loopg [12, 13] s (fun gg nv iv wr => ∃ (k : Nat) (A5 : Option Addr) (c5 : Nat), k ≤ s ∧ s - k = gg ∧ iv = .int .i64 (k : Int) ∧ nv = .slice A5 (digs (hi8 C k)).length c5 ∧ OW wr (w.alloc (.cells #[.bool false, .slice none 0 0, .slice none 0 0, .bool false, .slice none 0 0, .slice none 0 0] 27)).heap.size A5 c5 (digs (hi8 C k)) ∧ Below (w.alloc (.cells #[.bool false, .slice none 0 0, .slice none 0 0, .bool false, .slice none 0 0, .slice none 0 0] 27)).heap.size (w.alloc (.cells #[.bool false, .slice none 0 0, .slice none 0 0, .bool false, .slice none 0 0, .slice none 0 0] 27)) wr)
          case atStart => exact ⟨0, _, 0, Nat.zero_le _, rfl, rfl, by rw [hi8_zero, digs_zero]; rfl, by rw [hi8_zero, digs_zero]; have h5 := OW.empty (w.alloc (.cells #[.bool false, .slice none 0 0, .slice none 0 0, .bool false, .slice none 0 0, .slice none 0 0] 27)); rw [hz1] at h5 ⊢; exact h5, bal _ _⟩
          case round =>
            obtain ⟨k, A5, c5, hk, rfl, rfl, rfl, O5, B5⟩ := hrel
            by_cases h0 : k < s
            · obtain ⟨j, hj⟩ : ∃ j, j = s - 1 - k := ⟨_, rfl⟩
              have e1 : (a : Int) + (s : Int) - 1 - (k : Int) = (a : Int) + (j : Int) := by omega
              obtain ⟨b', off', he, _, hx⟩ := RM.at_ (RM.below h (bt B1 B5)) (by omega)
              simp only [Option.some.injEq, Addr.mk.injEq, and_true] at he
              obtain ⟨rfl, rfl⟩ := he
              have x1 := hx (a + j) _ (bg_get? (by omega))
              have x2 := hx (a + k) _ (bg_get? (by omega))
              simp only [f8] at x1 x2
              have hbk := hsc k h0
              have lj := (bg l (a + j)).toNat_lt
              have lk := (bg l (a + k)).toNat_lt
              have ew : IntKind.u64.wrap ((bg l (a + k)).toNat : Int) = ((bg l (a + k)).toNat : Int) := IntWalk.u64_in _ (by omega)
              have hd5 : (digs (hi8 C k)).length ≤ 100 := by have := digs_len_le.2 (Nat.lt_trans (hi8_lt C k (by rw [HCl.out]; omega)) (pow_wm (s := k) (m := 17) (by omega))); omega
              have hT := rtimes_any A5 (some ⟨wr.heap.size, 0, none⟩) c5 1 _ 1 (digs (hi8 C k)) [256] (wr.alloc (.cells #[.int .u32 (256 : Nat)] 53)) rfl rfl (st O5.rw (bal _ _)) ((RW.one wr 53 (show 256 < 4294967296 by omega)).more (by simp)) (by omega) (by simp)
              rw [val_digs, val_one] at hT
              have hO := fun w' => rof_any ((bg l (a + k)).toNat : Int) w' (by omega) (by omega)
              simp only [Int.toNat_natCast] at hO
              have hd6 : (digs (hi8 C k * 256)).length ≤ 200 := by have := digs_mul (hi8 C k) 256; rw [digs_one (n := 256) (by omega) (by omega)] at this; simp only [List.length_singleton] at this; omega
              have hd7 : (digs (bg l (a + k)).toNat).length ≤ 2 := digs_u64 (by omega)
              have HJ := Lib.hid hj
              clear hj hd5
              go_wp2_with fail
              refine hT.mono ?_; rintro e w6 ⟨A6, c6, rfl, O6, B6⟩
              go_wp2_with fail
              refine (hO w6).mono ?_; rintro e w7 ⟨A7, c7, rfl, O7, B7⟩
              have hP := rplus_any A6 A7 c6 c7 _ _ (digs (hi8 C k * 256)) (digs (bg l (a + k)).toNat) w7 rfl rfl (st O6.rw B7) O7.rw (by omega) (by omega)
              rw [val_digs, val_digs, ← hbk.out] at hP
              go_wp2_with fail
              refine hP.mono ?_; rintro e w8 ⟨A8, c8, rfl, O8, B8⟩
              go_wp2_with fail
              go_roundg (s - (k + 1))
              case measure => omega
              case rel => exact ⟨k + 1, A8, c8, by omega, rfl, by go_num, rfl, O8.base_le (by have := B5.size; have := (bal wr (.cells #[.int .u32 (256 : Nat)] 53)).size; have := B6.size; have := B7.size; omega), B5.trans ((bt (bt (bt (bal _ _) B6) B7) B8).mono B5.size)⟩
            · obtain rfl : k = s := by omega
              have hv : hi8 C k = lv C := by have := hi8_all C; rw [HCl.out] at this; exact this
              rw [hv] at O5 ⊢
              clear hv h0
              go_wp2_with fail
              refine (rzero0_any _).mono ?_; rintro e w6 ⟨D6, rfl, O6, B6⟩
              have Bo := bal wr (.cells #[.int .u32 (1 : Int)] 53)
              have z5 : (wr.alloc (.cells #[.int .u32 (1 : Int)] 53)).heap.size = wr.heap.size + 1 := by simp
              have ON : OW (wr.alloc (.cells #[.int .u32 (1 : Int)] 53)) wr.heap.size (some ⟨wr.heap.size, 0, none⟩) 1 [1] := OW.lit wr [1] (by simp) (by rw [← digs_one1]; exact B32_digs 1)
              have B7 := bal w6 (.cells #[.bool false, .slice A5 (digs (lv C)).length c5, .slice (some ⟨wr.heap.size, 0, none⟩) 1 1, .bool false, .slice none 0 0, .slice D6 1 1] 27)
              have S7 := SB.new w6 [.bool false, .slice A5 (digs (lv C)).length c5, .slice (some ⟨wr.heap.size, 0, none⟩) 1 1, .bool false, .slice none 0 0, .slice D6 1 1] 27
              have hbr : w.heap.size < wr.heap.size := (S1.nx B5).2
              have hb1 : w.heap.size < (w.alloc (.cells #[.bool false, .slice none 0 0, .slice none 0 0, .bool false, .slice none 0 0, .slice none 0 0] 27)).heap.size := S1.2
              have hRC := (((((S1.nx B5).nx Bo).nx B6).nx B7)).rc (n := 6)
              have hb6 : wr.heap.size < w6.heap.size := by have := Bo.size; have := B6.size; omega
              have hsz := rsize_any A5 c5 _ (digs (lv C)) (w6.alloc (.cells #[.bool false, .slice A5 (digs (lv C)).length c5, .slice (some ⟨wr.heap.size, 0, none⟩) 1 1, .bool false, .slice none 0 0, .slice D6 1 1] 27)) rfl (st (st (st O5.rw Bo) B6) B7)
              rw [val_digs] at hsz
              have e8 : IntKind.i64.wrap (8 * (k : Int)) = 8 * (k : Int) := IntWalk.i64_in _ (by omega)
              go_wp2_with fail
              refine hsz.mono ?_; rintro e w' ⟨rfl, rfl⟩
              have hbz : w.heap.size < (wr.alloc (.cells #[.int .u32 (1 : Int)] 53)).heap.size + 1 := by rw [z5]; omega
              go_wp2_with (refine wp_st6 rfl (.tmp 10) (.tmp 78) rfl _ rfl _ _ _ _ _ _ rfl hRC rfl rfl rfl rfl rfl rfl ?_)
              have s6 := hRC.put6 (.bool false) (.slice A5 (digs (lv C)).length c5) (.slice (some ⟨wr.heap.size, 0, none⟩) 1 1) (.bool false) (.slice none 0 0) (.slice D6 1 1)
              have BZ := wr6_below (b := w.heap.size) (bt (bt (bt (bt B1 B5) Bo) B6) B7) (Nat.le_refl _) (.bool false) (.slice A5 (digs (lv C)).length c5) (.slice (some ⟨wr.heap.size, 0, none⟩) 1 1) (.bool false) (.slice none 0 0) (.slice D6 1 1)
              have Oa := (O5.below (bt (bt Bo B6) B7) (Nat.le_refl _)).put6 (b := w.heap.size) hb1 (.bool false) (.slice A5 (digs (lv C)).length c5) (.slice (some ⟨wr.heap.size, 0, none⟩) 1 1) (.bool false) (.slice none 0 0) (.slice D6 1 1)
              have Ob := (ON.below (bt B6 B7) (Nat.le_refl _)).put6 (b := w.heap.size) hbr (.bool false) (.slice A5 (digs (lv C)).length c5) (.slice (some ⟨wr.heap.size, 0, none⟩) 1 1) (.bool false) (.slice none 0 0) (.slice D6 1 1)
              have Od := (O6.below B7 (Nat.le_refl _)).put6 (b := w.heap.size) hbz (.bool false) (.slice A5 (digs (lv C)).length c5) (.slice (some ⟨wr.heap.size, 0, none⟩) 1 1) (.bool false) (.slice none 0 0) (.slice D6 1 1)
              have r0' := s6.cell 0
              have r1' := s6.cell 1
              have r2' := s6.cell 2
              have r3' := s6.cell 3
              have r4' := s6.cell 4
              have r5' := s6.cell 5
              refine bodyPost_ret (v := .tuple #[.agg #[.bool false, .slice A5 (digs (lv C)).length c5, .slice (some ⟨wr.heap.size, 0, none⟩) 1 1, .bool false, .slice none 0 0, .slice D6 1 1], .int .i64 0]) (by simp [results, r0', r1', r2', r3', r4', r5', go_sem]) rfl ?_
              exact ⟨A5, c5, some ⟨wr.heap.size, 0, none⟩, 1, none, 0, D6, 1, rfl, Oa.base_le (Nat.le_of_lt hb1), Ob.base_le (Nat.le_of_lt hbr), OW.nil _ _, Od.base_le (Nat.le_of_lt hbz), BZ⟩

end Go.Proofs.Ytabcnpcfknlmlaa
namespace Go.Proofs.Ytabcnpcfknlmlaa
open Go.RowKit

theorem RB.two (w : World) (t : TypeId) (x y : UInt8) : RB (w.alloc (.cells #[.int .u8 (x.toNat : Int), .int .u8 (y.toNat : Int)] t)) (w.heap.size + 1) (some ⟨w.heap.size, 0, none⟩) 2 [x, y] := by
  refine ⟨by simp, by simp, fun _ => ⟨_, _, rfl, by omega, fun k z hk => ?_⟩⟩
  have h0 := heap_alloc_new w (.cells #[.int .u8 (x.toNat : Int), .int .u8 (y.toNat : Int)] t)
  rw [cell_of_row _ _ _ _ _ _ h0, Nat.zero_add]
  match k, hk with
  | 0, hk => simp at hk; subst hk; rfl
  | 1, hk => simp at hk; subst hk; rfl
theorem get258 : getQ [1, 2] 0 2 true false = (rwq ((258 : Int) : Rat), rwq 0, 0) := by
  unfold getQ
  rw [show inB [(1 : UInt8), 2].length 0 2 = true by decide, if_pos rfl]
  rfl
theorem nB_q {p q : Rat} (h1 : qw p ≤ 512) (h2 : qw q ≤ 512) : nB (rwq p) (rwq q) = true := by
  unfold nB rwq
  dsimp only
  rw [rsB_of p h1, rsB_of q h2]; rfl
theorem sameB_self {r i : Rw} (h : nB r i = true) : sameB r i r i = true := by
  unfold sameB
  rw [h]
  simp [fsB]
theorem alikeB_self (r i : Rw) : alikeB r i r i = true := by unfold alikeB; simp [fsB]
theorem qw_small (i : Int) (h : i.natAbs < 4294967296) : qw ((i : Int) : Rat) ≤ 512 :=
  Nat.le_trans (qw_int i 1 (by omega) (by rw [Wp_succ, Wp_zero]; omega)) (by omega)


set_option maxRecDepth 100000 in
set_option maxHeartbeats 4000000 in
theorem awake5_any (w : World) : Calls Try.prog 10 #[] w fun e w' => e = .returned (.bool true) ∧ Below w.heap.size w w' := by
  have B1 := bal w (.cells #[.int .u8 ((1 : UInt8).toNat : Int), .int .u8 ((2 : UInt8).toNat : Int)] 5)
  have R2 : RB (w.alloc (.cells #[.int .u8 ((1 : UInt8).toNat : Int), .int .u8 ((2 : UInt8).toNat : Int)] 5)) (w.alloc (.cells #[.int .u8 ((1 : UInt8).toNat : Int), .int .u8 ((2 : UInt8).toNat : Int)] 5)).heap.size (some ⟨w.heap.size, 0, none⟩) 2 [1, 2] := RM.more (RB.two w 5 1 2) (by simp)
  have hg := get_any (some ⟨w.heap.size, 0, none⟩) 2 2 [1, 2] 0 2 true false (w.alloc (.cells #[.int .u8 ((1 : UInt8).toNat : Int), .int .u8 ((2 : UInt8).toNat : Int)] 5)) rfl R2 (by omega) (by omega) (by omega) (by omega)
  rw [get258] at hg
  have hI := fun w' => int_any 258 w' (by omega) (by omega)
  have hnb : nB (rwq ((258 : Int) : Rat)) (rwq 0) = true := nB_q (qw_small 258 (by decide)) (qw_small 0 (by decide))
  generalize rwq ((258 : Int) : Rat) = r at *
  generalize rwq 0 = i at *
  have hS := fun v u w' x y => esame_any v u r i r i w' x y
  simp only [sameB_self hnb] at hS
  clear hnb
  go_enter Try.func10, Try.ntmps10
  go_wp2_with fail
  refine hg.mono ?_; rintro e w2 ⟨A1, c1, D1, d1, A2, c2, D2, d2, rfl, O1, O2, O3, O4, B2⟩
  dsimp only at O1 O2 O3 O4
  have B3 := bal w2 (.cells #[.bool r.s, .slice A1 r.a.length c1, .slice D1 r.b.length d1, .bool i.s, .slice A2 i.a.length c2, .slice D2 i.b.length d2] 27)
  have S3 := SB.new w2 [.bool r.s, .slice A1 r.a.length c1, .slice D1 r.b.length d1, .bool i.s, .slice A2 i.a.length c2, .slice D2 i.b.length d2] 27
  obtain ⟨W3, hW3⟩ : ∃ W3, W3 = w2.alloc (.cells #[.bool r.s, .slice A1 r.a.length c1, .slice D1 r.b.length d1, .bool i.s, .slice A2 i.a.length c2, .slice D2 i.b.length d2] 27) := ⟨_, rfl⟩
  have R1 := st O1.rw B3
  have R2' := st O2.rw B3
  have R3 := st O3.rw B3
  have R4 := st O4.rw B3
  go_wp2_with fail
  rw [← hW3] at S3 B3 R1 R2' R3 R4 ⊢
  clear hW3
  have m0 := S3.cell 0
  have m1 := S3.cell 1
  have m2 := S3.cell 2
  have m3 := S3.cell 3
  have m4 := S3.cell 4
  have m5 := S3.cell 5
  have Bd : Below W3.heap.size W3 W3.drew := Below.drew (Below.refl _ _)
  have S3d := S3.nx Bd
  go_region_with (first
    | (go_at_call 21; refine (hI _).mono ?_; rintro e w5 ⟨E1, e1, F1, f1, E2, e2, F2, f2, rfl, P1, P2, P3, P4, B5⟩; have Sa := S3d.nx B5; have x0 := Sa.cell 0; have x1 := Sa.cell 1; have x2 := Sa.cell 2; have x3 := Sa.cell 3; have x4 := Sa.cell 4; have x5 := Sa.cell 5)
    | (go_at_call 15; refine (hS _ _ w5 ⟨A1, c1, D1, d1, A2, c2, D2, d2, rfl, st (st R1 Bd) B5, st (st R2' Bd) B5, st (st R3 Bd) B5, st (st R4 Bd) B5⟩ ⟨E1, e1, F1, f1, E2, e2, F2, f2, rfl, P1.rw, P2.rw, P3.rw, P4.rw⟩).mono ?_; rintro e w6 ⟨rfl, B6⟩))
  all_goals
    go_wp2_with fail
    go_ret
    exact ⟨rfl, bt (bt (bt (bt (bt B1 B2) B3) Bd) B5) B6⟩


set_option maxRecDepth 100000 in
set_option maxHeartbeats 4000000 in
theorem bytevecGets_walk (A : Option Addr) (c : Nat) (l : List UInt8) (at_ size : Int) (big signed : Bool) (w : World) (h : RB w w.heap.size A c l)
    (ha : -9223372036854775808 ≤ at_ ∧ at_ ≤ 9223372036854775807) (hs : -9223372036854775808 ≤ size ∧ size ≤ 9223372036854775807) :
    Calls Try.prog 3 #[.slice A l.length c, .int .i64 at_, .int .i64 size, .bool big, .bool signed] w fun e w' => e = .returned (.bool true) ∧ Below w.heap.size w w' := by
  have hg1 := get_any A c l.length l at_ size big signed w rfl h ha.1 ha.2 hs.1 hs.2
  have hg2 := fun w' x => rget_any A c l.length l at_ size big signed w' rfl x ha.1 ha.2 hs.1 hs.2
  generalize getQ l at_ size big signed = x at *
  obtain ⟨r, i, k⟩ := x
  have hS := fun v u w' x y => alike_any v u r i r i w' x y
  simp only [alikeB_self] at hS
  clear ha hs
  go_enter Try.func3, Try.ntmps3
  go_wp2_with fail
  refine hg1.mono ?_; rintro e w2 ⟨A1, c1, D1, d1, A2, c2, D2, d2, rfl, O1, O2, O3, O4, B2⟩
  dsimp only at O1 O2 O3 O4
  have B3 := bal w2 (.cells #[.bool r.s, .slice A1 r.a.length c1, .slice D1 r.b.length d1, .bool i.s, .slice A2 i.a.length c2, .slice D2 i.b.length d2] 27)
  have S3 := SB.new w2 [.bool r.s, .slice A1 r.a.length c1, .slice D1 r.b.length d1, .bool i.s, .slice A2 i.a.length c2, .slice D2 i.b.length d2] 27
  go_wp2_with fail
  refine (hg2 _ (RM.step h (bt B2 B3) (bt B2 B3).size)).mono ?_; rintro e w4 ⟨E1, e1, F1, f1, E2, e2, F2, f2, rfl, P1, P2, P3, P4, B4⟩
  dsimp only at P1 P2 P3 P4
  have B5 := bal w4 (.cells #[.bool r.s, .slice E1 r.a.length e1, .slice F1 r.b.length f1, .bool i.s, .slice E2 i.a.length e2, .slice F2 i.b.length f2] 27)
  have S5 := SB.new w4 [.bool r.s, .slice E1 r.a.length e1, .slice F1 r.b.length f1, .bool i.s, .slice E2 i.a.length e2, .slice F2 i.b.length f2] 27
  go_wp2_with fail
  refine (awake5_any _).mono ?_; rintro e w6 ⟨rfl, B6⟩
  have S6 := S5.nx B6
  have S3' := ((S3.nx B4).nx B5).nx B6
  have m0 := S3'.cell 0
  have m1 := S3'.cell 1
  have m2 := S3'.cell 2
  have m3 := S3'.cell 3
  have m4 := S3'.cell 4
  have m5 := S3'.cell 5
  have n0 := S6.cell 0
  have n1 := S6.cell 1
  have n2 := S6.cell 2
  have n3 := S6.cell 3
  have n4 := S6.cell 4
  have n5 := S6.cell 5
  have BX := bt (bt (bt B3 B4) B5) B6
  have BY := bt B5 B6
  go_wp2_with fail
  refine (hS _ _ _ ⟨A1, c1, D1, d1, A2, c2, D2, d2, rfl, st O1.rw BX, st O2.rw BX, st O3.rw BX, st O4.rw BX⟩ ⟨E1, e1, F1, f1, E2, e2, F2, f2, rfl, st P1.rw BY, st P2.rw BY, st P3.rw BY, st P4.rw BY⟩).mono ?_; rintro e w7 ⟨rfl, B7⟩
  go_wp2_with fail
  go_ret
  exact ⟨by simp [go_sem], bt (bt B2 BX) B7⟩

end Go.Proofs.Ytabcnpcfknlmlaa
