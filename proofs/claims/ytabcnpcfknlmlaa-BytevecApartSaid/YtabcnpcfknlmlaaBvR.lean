/- Walks: Zero of the reference; Get of bytevec's reference. -/
import Derived.Test.YtabcnpcfknlmlaaBvA
import Derived.Test.YtabcnpcfknlmlaaNatM
import Derived.Test.YtabcnpcfknlmlaaNatJ
import Derived.Test.YtabcnpcfknlmlaaNatI
namespace Go.Proofs.Ytabcnpcfknlmlaa
open Go.RowKit

/-- whole numbers in memory -/
theorem rq_pos {w : World} {B : Nat} {A : Option Addr} {c : Nat} {D : Option Addr} {d : Nat} {v : Nat} (h1 : RW w B A c (digs v)) (h2 : RW w B D d [1]) : RQ w B (.agg #[.bool false, .slice A (digs v).length c, .slice D 1 d]) ((v : Int) : Rat) := by
  refine ⟨A, c, D, d, ?_, ?_, ?_⟩
  · rw [qn_int, qt_int, qd_int, decide_eq_false (by omega), Int.natAbs_natCast, digs_one1]; rfl
  · rw [qt_int, Int.natAbs_natCast]; exact h1
  · rw [qd_int, digs_one1]; exact h2
theorem rq_neg {w : World} {B : Nat} {A : Option Addr} {c : Nat} {D : Option Addr} {d : Nat} {v : Nat} (h0 : 0 < v) (h1 : RW w B A c (digs v)) (h2 : RW w B D d [1]) : RQ w B (.agg #[.bool true, .slice A (digs v).length c, .slice D 1 d]) ((-(v : Int) : Int) : Rat) := by
  refine ⟨A, c, D, d, ?_, ?_, ?_⟩
  · rw [qn_int, qt_int, qd_int, decide_eq_true (by omega), Int.natAbs_neg, Int.natAbs_natCast, digs_one1]; rfl
  · rw [qt_int, Int.natAbs_neg, Int.natAbs_natCast]; exact h1
  · rw [qd_int, digs_one1]; exact h2
theorem rwq_pos1 {v : Nat} : rwq (((v : Int)) : Rat) = ⟨false, digs v, [1]⟩ := by rw [rwq_pos, ← digs_one1]; rfl
theorem rwq_z : rwq 0 = ⟨false, [], [1]⟩ := by rw [← digs_one1, ← digs_zero]; rfl
theorem qw_int (i : Int) (k : Nat) (hk : 1 ≤ k) (h : i.natAbs < Wp k) : qw ((i : Int) : Rat) ≤ k := by
  unfold qw
  rw [qt_int, qd_int, digs_one1]
  have := digs_len_le.2 h
  simp only [List.length_singleton]
  omega
/-- the number that the highest k bytes are -/
def hi8 (C : List UInt8) (k : Nat) : Nat := lv (C.drop (C.length - k))
theorem hi8_zero (C : List UInt8) : hi8 C 0 = 0 := by unfold hi8; rw [Nat.sub_zero, List.drop_length]; rfl
theorem hi8_succ {C : List UInt8} {k : Nat} (h : k < C.length) : hi8 C (k + 1) = hi8 C k * 256 + (bg C (C.length - 1 - k)).toNat := by
  unfold hi8
  have h1 : C.length - (k + 1) < C.length := by omega
  rw [List.drop_eq_getElem_cons h1]
  have h2 : C[C.length - (k + 1)] = bg C (C.length - 1 - k) := by
    have := bg_get? (l := C) (k := C.length - (k + 1)) h1
    rw [List.getElem?_eq_getElem h1] at this
    rw [Option.some.inj this]; congr 1; omega
  rw [h2, show C.length - (k + 1) + 1 = C.length - k by omega]
  simp only [lv]
  omega
theorem hi8_all (C : List UInt8) : hi8 C C.length = lv C := by unfold hi8; rw [Nat.sub_self]; rfl
theorem hi8_lt (C : List UInt8) (k : Nat) (hk : k ≤ C.length) : hi8 C k < 256 ^ k := by
  unfold hi8
  have := lv_lt (C.drop (C.length - k))
  rw [List.length_drop, show C.length - (C.length - k) = k by omega] at this
  exact this
theorem bg_sub {l : List UInt8} {a s i : Nat} (hi : i < s) (h : a + s ≤ l.length) : bg ((l.drop a).take s) i = bg l (a + i) := by
  have h1 := bg_get? (l := (l.drop a).take s) (k := i) (by rw [List.length_take, List.length_drop]; omega)
  rw [List.getElem?_take, if_pos hi, List.getElem?_drop, bg_get? (by omega)] at h1
  exact (Option.some.inj h1).symm
theorem top_size {C : List UInt8} {t s : Nat} (hs : C.length = s) (ht : t + 1 = s) : (blen (lv C) = 8 * s) ↔ 128 ≤ (bg C t).toNat := by
  have h1 : lv C < 2 ^ (8 * s) := by rw [← pow8, ← hs]; exact lv_lt C
  have h2 := blen_le.2 h1
  rw [lv_high (l := C) (n := t) (by omega)]
  have e : 128 * 256 ^ t = 2 ^ (8 * s - 1) := by
    rw [pow8, show (128 : Nat) = 2 ^ 7 from rfl, ← Nat.pow_add]; congr 1; omega
  rw [e]
  have h3 : blen (lv C) ≤ 8 * s - 1 ↔ lv C < 2 ^ (8 * s - 1) := blen_le
  omega
theorem pow_wm {s m : Nat} (h : 8 * s < 32 * m) : 256 ^ s < Wp m := by
  rw [pow8, Wp_eq]
  exact Nat.pow_lt_pow_right (by omega) h


set_option maxHeartbeats 1000000 in
theorem zero_any (w : World) : Calls Try.prog 34 #[] w fun e w' => ∃ D, e = .returned (.agg #[.bool false, .slice none 0 0, .slice D 1 1]) ∧ OW w' (w.heap.size + 1) D 1 [1] ∧ Below w.heap.size w w' := by
  have z1 : (w.alloc (.cells #[.bool false, .slice none 0 0, .slice (some ⟨w.heap.size + 1, 0, none⟩) 1 1] 25)).heap.size = w.heap.size + 1 := by simp
  have s1 := (SB.new w [.bool false, .slice none 0 0, .slice (some ⟨w.heap.size + 1, 0, none⟩) 1 1] 25).nx (bal _ (.cells #[.int .u32 (1 : Int)] 53))
  have O1 := OW.lit (w.alloc (.cells #[.bool false, .slice none 0 0, .slice (some ⟨w.heap.size + 1, 0, none⟩) 1 1] 25)) [1] (by simp) (by rw [← digs_one1]; exact B32_digs 1)
  rw [z1] at O1
  have O2 : OW ((w.alloc (.cells #[.bool false, .slice none 0 0, .slice (some ⟨w.heap.size + 1, 0, none⟩) 1 1] 25)).alloc (.cells #[.int .u32 (1 : Int)] 53)) (w.heap.size + 1) (some ⟨w.heap.size + 1, 0, none⟩) 1 [1] := O1
  have r0 := s1.cell 0
  have r1 := s1.cell 1
  have r2 := s1.cell 2
  go_enter Try.func34, Try.ntmps34
  go_wp2_with fail
  refine bodyPost_ret (v := .agg #[.bool false, .slice none 0 0, .slice (some ⟨w.heap.size + 1, 0, none⟩) 1 1]) (by simp [results, r0, r1, r2, go_sem]) rfl ?_
  exact ⟨_, rfl, O2, bt (bal _ _) (bal _ _)⟩


set_option maxRecDepth 100000 in
set_option maxHeartbeats 16000000 in
theorem rget_any (A : Option Addr) (c n : Nat) (l : List UInt8) (at_ size : Int) (big signed : Bool) (w : World) (hn : n = l.length) (h : RB w w.heap.size A c l)
    (a0 : -9223372036854775808 ≤ at_) (a1 : at_ ≤ 9223372036854775807) (s0 : -9223372036854775808 ≤ size) (s1 : size ≤ 9223372036854775807) :
    Calls Try.prog 9 #[.slice A n c, .int .i64 at_, .int .i64 size, .bool big, .bool signed] w (RetNE w (getQ l at_ size big signed)) := by
  subst hn
  have hbig := h.big
  have B1 := bal w (.cells #[.bool false, .slice none 0 0, .slice none 0 0, .bool false, .slice none 0 0, .slice none 0 0] 27)
  have S1 := SB.new w [.bool false, .slice none 0 0, .slice none 0 0, .bool false, .slice none 0 0, .slice none 0 0] 27
  have hz1 : (w.alloc (.cells #[.bool false, .slice none 0 0, .slice none 0 0, .bool false, .slice none 0 0, .slice none 0 0] 27)).heap.size = w.heap.size + 1 := by simp
  have hin := rin_any l.length at_ size (w.alloc (.cells #[.bool false, .slice none 0 0, .slice none 0 0, .bool false, .slice none 0 0, .slice none 0 0] 27)) hbig a0 a1 s0 s1
  unfold getQ
  cases hi : inB l.length at_ size with
  | false =>
    rw [hi] at hin
    have hRC := S1.rc (n := 6)
    go_enter Try.func9, Try.ntmps9
    go_wp2_with fail
    refine hin.mono ?_; rintro e w' ⟨rfl, rfl⟩
    go_wp2_with (refine wp_st6 rfl (.tmp 10) (.tmp 23) rfl _ rfl _ _ _ _ _ _ rfl hRC rfl rfl rfl rfl rfl rfl ?_)
    have s6 := hRC.put6 (.bool false) (.slice none 0 0) (.slice none 0 0) (.bool false) (.slice none 0 0) (.slice none 0 0)
    have B6 := wr6_below (b := w.heap.size) B1 (Nat.le_refl _) (.bool false) (.slice none 0 0) (.slice none 0 0) (.bool false) (.slice none 0 0) (.slice none 0 0)
    have r0' := s6.cell 0
    have r1' := s6.cell 1
    have r2' := s6.cell 2
    have r3' := s6.cell 3
    have r4' := s6.cell 4
    have r5' := s6.cell 5
    refine bodyPost_ret (v := .tuple #[.agg #[.bool false, .slice none 0 0, .slice none 0 0, .bool false, .slice none 0 0, .slice none 0 0], .int .i64 1]) (by simp [results, r0', r1', r2', r3', r4', r5', go_sem]) rfl ?_
    exact retNE_nil 1 B6
  | true =>
    rw [hi] at hin
    unfold inB at hi
    rw [decide_eq_true_eq] at hi
    obtain ⟨a, rfl⟩ := Int.eq_ofNat_of_zero_le hi.2.2.1
    obtain ⟨s, rfl⟩ := Int.eq_ofNat_of_zero_le (show 0 ≤ size by omega)
    obtain ⟨i1, i2, _, i4⟩ := hi
    rw [Int.toNat_natCast, Int.toNat_natCast, if_pos rfl]
    have hsl : a + s ≤ l.length := by omega
    have hs1 : 1 ≤ s := by omega
    have hs64 : s ≤ 64 := by omega
    obtain ⟨b, off, rfl, hb, _⟩ := RM.at_ h (by omega)
    obtain ⟨t, ht⟩ : ∃ t, t = s - 1 := ⟨_, rfl⟩
    have hts : t + 1 = s := by omega
    unfold getI negB
    rw [← ht]
    have HT := Lib.hid hts
    clear i1 i2 i4 ht hts
    obtain ⟨PW, HPn⟩ : ∃ PW : Nat, Hid (256 ^ s = PW) := ⟨_, rfl⟩
    have HPW : Hid ((256 : Int) ^ s = (PW : Int)) := by show _ = _; rw [← HPn.out]; simp
    have hlS : ((l.drop a).take s).length = s := by rw [List.length_take, List.length_drop]; omega
    obtain ⟨C, hC⟩ : ∃ C, C = leB l a s big := ⟨_, rfl⟩
    rw [← hC]
    have HCl : Hid (C.length = s) := by show _ = _; rw [hC]; exact leB_len big hsl
    have hlt : Hid (lv C < PW) := by show _ < _; rw [← HPn.out, ← HCl.out]; exact lv_lt C
    have hsucc : ∀ k, k < s → (big = false → Hid (hi8 C (k + 1) = hi8 C k * 256 + (bg l (a + (s - 1 - k))).toNat)) ∧ (big = true → Hid (hi8 C (k + 1) = hi8 C k * 256 + (bg l (a + k)).toNat)) := by
      intro k hk
      have h1 := hi8_succ (C := C) (k := k) (by rw [HCl.out]; exact hk)
      rw [HCl.out] at h1
      constructor
      · intro hb; subst hb
        show _ = _
        rw [h1, hC, show leB l a s false = (l.drop a).take s from rfl, bg_sub (by omega) hsl]
      · intro hb; subst hb
        show _ = _
        rw [h1, hC, show leB l a s true = ((l.drop a).take s).reverse from rfl, bg_rev (by rw [hlS]; omega), hlS, bg_sub (by omega) hsl]
        congr 3; omega
    clear hC hlS
    cases big with
    | false =>
      have hsc := fun k hk => (hsucc k hk).1 rfl
      clear hsucc
      cases signed with
      | false =>
        rw [show (false && decide (128 ≤ (bg C t).toNat)) = false from rfl, if_neg (by simp), rwq_pos1, rwq_z]
        go_enter Try.func9, Try.ntmps9
        go_wp2_with fail
        refine hin.mono ?_; rintro e w' ⟨rfl, rfl⟩
        go_wp2_with fail
        go_loopg [12, 13] s (fun gg nv iv wr => ∃ (k : Nat) (A5 : Option Addr) (c5 : Nat), k ≤ s ∧ s - k = gg ∧ iv = .int .i64 (k : Int) ∧ nv = .slice A5 (digs (hi8 C k)).length c5 ∧ OW wr (w.alloc (.cells #[.bool false, .slice none 0 0, .slice none 0 0, .bool false, .slice none 0 0, .slice none 0 0] 27)).heap.size A5 c5 (digs (hi8 C k)) ∧ Below (w.alloc (.cells #[.bool false, .slice none 0 0, .slice none 0 0, .bool false, .slice none 0 0, .slice none 0 0] 27)).heap.size (w.alloc (.cells #[.bool false, .slice none 0 0, .slice none 0 0, .bool false, .slice none 0 0, .slice none 0 0] 27)) wr)
        case atStart => exact ⟨0, _, 0, Nat.zero_le _, rfl, rfl, by rw [hi8_zero, digs_zero]; rfl, by rw [hi8_zero, digs_zero]; have h5 := OW.empty (w.alloc (.cells #[.bool false, .slice none 0 0, .slice none 0 0, .bool false, .slice none 0 0, .slice none 0 0] 27)); rw [hz1] at h5 ⊢; exact h5, bal _ _⟩
        case round =>
          obtain ⟨k, A5, c5, hk, rfl, rfl, rfl, O5, B5⟩ := hrel
          by_cases h0 : k < s
          · obtain ⟨j, hj⟩ : ∃ j, j = s - 1 - k := ⟨_, rfl⟩
            have e1 : (a : Int) + (s : Int) - 1 - (k : Int) = (a : Int) + (j : Int) := by omega
            obtain ⟨b', off', he, _, hx⟩ := RM.at_ (RM.below h (bt B1 B5)) (by omega)
            simp only [Option.some.injEq, Addr.mk.injEq, and_true] at he
            obtain ⟨rfl, rfl⟩ := he
            have x1 := hx (a + j) _ (bg_get? (by omega))
            have x2 := hx (a + k) _ (bg_get? (by omega))
            simp only [f8] at x1 x2
            have hbk := hsc k h0
            rw [← hj] at hbk
            have lj := (bg l (a + j)).toNat_lt
            have lk := (bg l (a + k)).toNat_lt
            have ew : IntKind.u64.wrap ((bg l (a + j)).toNat : Int) = ((bg l (a + j)).toNat : Int) := IntWalk.u64_in _ (by omega)
            have hd5 : (digs (hi8 C k)).length ≤ 100 := by have := digs_len_le.2 (Nat.lt_trans (hi8_lt C k (by rw [HCl.out]; omega)) (pow_wm (s := k) (m := 17) (by omega))); omega
            have hT := rtimes_any A5 (some ⟨wr.heap.size, 0, none⟩) c5 1 _ 1 (digs (hi8 C k)) [256] (wr.alloc (.cells #[.int .u32 (256 : Nat)] 53)) rfl rfl (st O5.rw (bal _ _)) ((RW.one wr 53 (show 256 < 4294967296 by omega)).more (by simp)) (by omega) (by simp)
            rw [val_digs, val_one] at hT
            have hO := fun w' => rof_any ((bg l (a + j)).toNat : Int) w' (by omega) (by omega)
            simp only [Int.toNat_natCast] at hO
            have hd6 : (digs (hi8 C k * 256)).length ≤ 200 := by have := digs_mul (hi8 C k) 256; rw [digs_one (n := 256) (by omega) (by omega)] at this; simp only [List.length_singleton] at this; omega
            have hd7 : (digs (bg l (a + j)).toNat).length ≤ 2 := digs_u64 (by omega)
            have HJ := Lib.hid hj
            clear hj hd5
            go_wp2_with fail
            refine hT.mono ?_; rintro e w6 ⟨A6, c6, rfl, O6, B6⟩
            go_wp2_with fail
            refine (hO w6).mono ?_; rintro e w7 ⟨A7, c7, rfl, O7, B7⟩
            have hP := rplus_any A6 A7 c6 c7 _ _ (digs (hi8 C k * 256)) (digs (bg l (a + j)).toNat) w7 rfl rfl (st O6.rw B7) O7.rw (by omega) (by omega)
            rw [val_digs, val_digs, ← hbk.out] at hP
            go_wp2_with fail
            refine hP.mono ?_; rintro e w8 ⟨A8, c8, rfl, O8, B8⟩
            go_wp2_with fail
            go_roundg (s - (k + 1))
            case measure => omega
            case rel => exact ⟨k + 1, A8, c8, by omega, rfl, by go_num, rfl, O8.base_le (by have := B5.size; have := (bal wr (.cells #[.int .u32 (256 : Nat)] 53)).size; have := B6.size; have := B7.size; omega), B5.trans ((bt (bt (bt (bal _ _) B6) B7) B8).mono B5.size)⟩
          · obtain rfl : k = s := by omega
            have hv : hi8 C k = lv C := by have := hi8_all C; rw [HCl.out] at this; exact this
            rw [hv] at O5 ⊢
            clear hv h0
            go_wp2_with fail
            refine (zero_any _).mono ?_; rintro e w6 ⟨D6, rfl, O6, B6⟩
            have Bo := bal wr (.cells #[.int .u32 (1 : Int)] 53)
            have z5 : (wr.alloc (.cells #[.int .u32 (1 : Int)] 53)).heap.size = wr.heap.size + 1 := by simp
            have ON : OW (wr.alloc (.cells #[.int .u32 (1 : Int)] 53)) wr.heap.size (some ⟨wr.heap.size, 0, none⟩) 1 [1] := OW.lit wr [1] (by simp) (by rw [← digs_one1]; exact B32_digs 1)
            have B7 := bal w6 (.cells #[.bool false, .slice A5 (digs (lv C)).length c5, .slice (some ⟨wr.heap.size, 0, none⟩) 1 1, .bool false, .slice none 0 0, .slice D6 1 1] 27)
            have S7 := SB.new w6 [.bool false, .slice A5 (digs (lv C)).length c5, .slice (some ⟨wr.heap.size, 0, none⟩) 1 1, .bool false, .slice none 0 0, .slice D6 1 1] 27
            have hbr : w.heap.size < wr.heap.size := (S1.nx B5).2
            have hb1 : w.heap.size < (w.alloc (.cells #[.bool false, .slice none 0 0, .slice none 0 0, .bool false, .slice none 0 0, .slice none 0 0] 27)).heap.size := S1.2
            have hRC := (((((S1.nx B5).nx Bo).nx B6).nx B7)).rc (n := 6)
            have hb6 : wr.heap.size < w6.heap.size := by have := Bo.size; have := B6.size; omega
            have hbz : w.heap.size < (wr.alloc (.cells #[.int .u32 (1 : Int)] 53)).heap.size + 1 := by rw [z5]; omega
            go_wp2_with (refine wp_st6 rfl (.tmp 10) (.tmp 78) rfl _ rfl _ _ _ _ _ _ rfl hRC rfl rfl rfl rfl rfl rfl ?_)
            have s6 := hRC.put6 (.bool false) (.slice A5 (digs (lv C)).length c5) (.slice (some ⟨wr.heap.size, 0, none⟩) 1 1) (.bool false) (.slice none 0 0) (.slice D6 1 1)
            have BZ := wr6_below (b := w.heap.size) (bt (bt (bt (bt B1 B5) Bo) B6) B7) (Nat.le_refl _) (.bool false) (.slice A5 (digs (lv C)).length c5) (.slice (some ⟨wr.heap.size, 0, none⟩) 1 1) (.bool false) (.slice none 0 0) (.slice D6 1 1)
            have Oa := (O5.below (bt (bt Bo B6) B7) (Nat.le_refl _)).put6 (b := w.heap.size) hb1 (.bool false) (.slice A5 (digs (lv C)).length c5) (.slice (some ⟨wr.heap.size, 0, none⟩) 1 1) (.bool false) (.slice none 0 0) (.slice D6 1 1)
            have Ob := (ON.below (bt B6 B7) (Nat.le_refl _)).put6 (b := w.heap.size) hbr (.bool false) (.slice A5 (digs (lv C)).length c5) (.slice (some ⟨wr.heap.size, 0, none⟩) 1 1) (.bool false) (.slice none 0 0) (.slice D6 1 1)
            have Od := (O6.below B7 (Nat.le_refl _)).put6 (b := w.heap.size) hbz (.bool false) (.slice A5 (digs (lv C)).length c5) (.slice (some ⟨wr.heap.size, 0, none⟩) 1 1) (.bool false) (.slice none 0 0) (.slice D6 1 1)
            have r0' := s6.cell 0
            have r1' := s6.cell 1
            have r2' := s6.cell 2
            have r3' := s6.cell 3
            have r4' := s6.cell 4
            have r5' := s6.cell 5
            refine bodyPost_ret (v := .tuple #[.agg #[.bool false, .slice A5 (digs (lv C)).length c5, .slice (some ⟨wr.heap.size, 0, none⟩) 1 1, .bool false, .slice none 0 0, .slice D6 1 1], .int .i64 0]) (by simp [results, r0', r1', r2', r3', r4', r5', go_sem]) rfl ?_
            exact ⟨A5, c5, some ⟨wr.heap.size, 0, none⟩, 1, none, 0, D6, 1, rfl, Oa.base_le (Nat.le_of_lt hb1), Ob.base_le (Nat.le_of_lt hbr), OW.nil _ _, Od.base_le (Nat.le_of_lt hbz), BZ⟩
      | true =>
        by_cases hng : 128 ≤ (bg C t).toNat
        · rw [show (true && decide (128 ≤ (bg C t).toNat)) = true by rw [decide_eq_true hng]; rfl, if_pos rfl, HPW.out, rwq_z]
          obtain ⟨X, HX⟩ : ∃ X : Rat, Hid (X = (((lv C : Int) - (PW : Int) : Int) : Rat)) := ⟨_, rfl⟩
          rw [← HX.out]
          have tz : ((blen (lv C) : Int) == 8 * (s : Int)) = true := by rw [beq_iff_eq]; have := (top_size HCl.out HT.out).2 hng; omega
          clear hng
          go_enter Try.func9, Try.ntmps9
          go_wp2_with fail
          refine hin.mono ?_; rintro e w' ⟨rfl, rfl⟩
          go_wp2_with fail
          go_loopg [12, 13] s (fun gg nv iv wr => ∃ (k : Nat) (A5 : Option Addr) (c5 : Nat), k ≤ s ∧ s - k = gg ∧ iv = .int .i64 (k : Int) ∧ nv = .slice A5 (digs (hi8 C k)).length c5 ∧ OW wr (w.alloc (.cells #[.bool false, .slice none 0 0, .slice none 0 0, .bool false, .slice none 0 0, .slice none 0 0] 27)).heap.size A5 c5 (digs (hi8 C k)) ∧ Below (w.alloc (.cells #[.bool false, .slice none 0 0, .slice none 0 0, .bool false, .slice none 0 0, .slice none 0 0] 27)).heap.size (w.alloc (.cells #[.bool false, .slice none 0 0, .slice none 0 0, .bool false, .slice none 0 0, .slice none 0 0] 27)) wr)
          case atStart => exact ⟨0, _, 0, Nat.zero_le _, rfl, rfl, by rw [hi8_zero, digs_zero]; rfl, by rw [hi8_zero, digs_zero]; have h5 := OW.empty (w.alloc (.cells #[.bool false, .slice none 0 0, .slice none 0 0, .bool false, .slice none 0 0, .slice none 0 0] 27)); rw [hz1] at h5 ⊢; exact h5, bal _ _⟩
          case round =>
            obtain ⟨k, A5, c5, hk, rfl, rfl, rfl, O5, B5⟩ := hrel
            by_cases h0 : k < s
            · obtain ⟨j, hj⟩ : ∃ j, j = s - 1 - k := ⟨_, rfl⟩
              have e1 : (a : Int) + (s : Int) - 1 - (k : Int) = (a : Int) + (j : Int) := by omega
              obtain ⟨b', off', he, _, hx⟩ := RM.at_ (RM.below h (bt B1 B5)) (by omega)
              simp only [Option.some.injEq, Addr.mk.injEq, and_true] at he
              obtain ⟨rfl, rfl⟩ := he
              have x1 := hx (a + j) _ (bg_get? (by omega))
              have x2 := hx (a + k) _ (bg_get? (by omega))
              simp only [f8] at x1 x2
              have hbk := hsc k h0
              rw [← hj] at hbk
              have lj := (bg l (a + j)).toNat_lt
              have lk := (bg l (a + k)).toNat_lt
              have ew : IntKind.u64.wrap ((bg l (a + j)).toNat : Int) = ((bg l (a + j)).toNat : Int) := IntWalk.u64_in _ (by omega)
              have hd5 : (digs (hi8 C k)).length ≤ 100 := by have := digs_len_le.2 (Nat.lt_trans (hi8_lt C k (by rw [HCl.out]; omega)) (pow_wm (s := k) (m := 17) (by omega))); omega
              have hT := rtimes_any A5 (some ⟨wr.heap.size, 0, none⟩) c5 1 _ 1 (digs (hi8 C k)) [256] (wr.alloc (.cells #[.int .u32 (256 : Nat)] 53)) rfl rfl (st O5.rw (bal _ _)) ((RW.one wr 53 (show 256 < 4294967296 by omega)).more (by simp)) (by omega) (by simp)
              rw [val_digs, val_one] at hT
              have hO := fun w' => rof_any ((bg l (a + j)).toNat : Int) w' (by omega) (by omega)
              simp only [Int.toNat_natCast] at hO
              have hd6 : (digs (hi8 C k * 256)).length ≤ 200 := by have := digs_mul (hi8 C k) 256; rw [digs_one (n := 256) (by omega) (by omega)] at this; simp only [List.length_singleton] at this; omega
              have hd7 : (digs (bg l (a + j)).toNat).length ≤ 2 := digs_u64 (by omega)
              have HJ := Lib.hid hj
              clear hj hd5
              go_wp2_with fail
              refine hT.mono ?_; rintro e w6 ⟨A6, c6, rfl, O6, B6⟩
              go_wp2_with fail
              refine (hO w6).mono ?_; rintro e w7 ⟨A7, c7, rfl, O7, B7⟩
              have hP := rplus_any A6 A7 c6 c7 _ _ (digs (hi8 C k * 256)) (digs (bg l (a + j)).toNat) w7 rfl rfl (st O6.rw B7) O7.rw (by omega) (by omega)
              rw [val_digs, val_digs, ← hbk.out] at hP
              go_wp2_with fail
              refine hP.mono ?_; rintro e w8 ⟨A8, c8, rfl, O8, B8⟩
              go_wp2_with fail
              go_roundg (s - (k + 1))
              case measure => omega
              case rel => exact ⟨k + 1, A8, c8, by omega, rfl, by go_num, rfl, O8.base_le (by have := B5.size; have := (bal wr (.cells #[.int .u32 (256 : Nat)] 53)).size; have := B6.size; have := B7.size; omega), B5.trans ((bt (bt (bt (bal _ _) B6) B7) B8).mono B5.size)⟩
            · obtain rfl : k = s := by omega
              have hv : hi8 C k = lv C := by have := hi8_all C; rw [HCl.out] at this; exact this
              rw [hv] at O5 ⊢
              clear hv h0
              go_wp2_with fail
              refine (zero_any _).mono ?_; rintro e w6 ⟨D6, rfl, O6, B6⟩
              have Bo := bal wr (.cells #[.int .u32 (1 : Int)] 53)
              have z5 : (wr.alloc (.cells #[.int .u32 (1 : Int)] 53)).heap.size = wr.heap.size + 1 := by simp
              have ON : OW (wr.alloc (.cells #[.int .u32 (1 : Int)] 53)) wr.heap.size (some ⟨wr.heap.size, 0, none⟩) 1 [1] := OW.lit wr [1] (by simp) (by rw [← digs_one1]; exact B32_digs 1)
              have B7 := bal w6 (.cells #[.bool false, .slice A5 (digs (lv C)).length c5, .slice (some ⟨wr.heap.size, 0, none⟩) 1 1, .bool false, .slice none 0 0, .slice D6 1 1] 27)
              have S7 := SB.new w6 [.bool false, .slice A5 (digs (lv C)).length c5, .slice (some ⟨wr.heap.size, 0, none⟩) 1 1, .bool false, .slice none 0 0, .slice D6 1 1] 27
              have hbr : w.heap.size < wr.heap.size := (S1.nx B5).2
              have hb1 : w.heap.size < (w.alloc (.cells #[.bool false, .slice none 0 0, .slice none 0 0, .bool false, .slice none 0 0, .slice none 0 0] 27)).heap.size := S1.2
              have hRC := (((((S1.nx B5).nx Bo).nx B6).nx B7)).rc (n := 6)
              have hb6 : wr.heap.size < w6.heap.size := by have := Bo.size; have := B6.size; omega
              have hsz := rsize_any A5 c5 _ (digs (lv C)) (w6.alloc (.cells #[.bool false, .slice A5 (digs (lv C)).length c5, .slice (some ⟨wr.heap.size, 0, none⟩) 1 1, .bool false, .slice none 0 0, .slice D6 1 1] 27)) rfl (st (st (st O5.rw Bo) B6) B7)
              rw [val_digs] at hsz
              have e8 : IntKind.i64.wrap (8 * (k : Int)) = 8 * (k : Int) := IntWalk.i64_in _ (by omega)
              go_wp2_with fail
              refine hsz.mono ?_; rintro e w' ⟨rfl, rfl⟩
              have hbz : w.heap.size < (wr.alloc (.cells #[.int .u32 (1 : Int)] 53)).heap.size + 1 := by rw [z5]; omega
              obtain ⟨W7, hW7⟩ : ∃ W7, W7 = w6.alloc (.cells #[.bool false, .slice A5 (digs (lv C)).length c5, .slice (some ⟨wr.heap.size, 0, none⟩) 1 1, .bool false, .slice none 0 0, .slice D6 1 1] 27) := ⟨_, rfl⟩
              rw [← hW7] at S7 hRC B7 ⊢
              clear hW7
              have hXe : (((lv C : Nat) : Int) : Rat) + ((-(PW : Int) : Int) : Rat) = X := by rw [HX.out, ← Rat.intCast_add]; rfl
              have hPW17 : PW < Wp 17 := by rw [← HPn.out]; exact pow_wm (by omega)
              have hPW0 : 0 < PW := by rw [← HPn.out]; exact Nat.pow_pos (by omega)
              have hq1 := qw_int ((lv C : Nat) : Int) 17 (by omega) (by rw [Int.natAbs_natCast]; exact Nat.lt_trans hlt.out hPW17)
              have hq2 := qw_int (-(PW : Int)) 17 (by omega) (by rw [Int.natAbs_neg, Int.natAbs_natCast]; exact hPW17)
              have hS := fun v u w' x y => rsum_any v u (((lv C : Nat) : Int) : Rat) ((-(PW : Int) : Int) : Rat) w' x y (by omega)
              simp only [hXe] at hS
              have hdP : decide (0 < (digs PW).length) = true := by rw [← digs_pos_iff]; exact decide_eq_true hPW0
              clear hXe hq1 hq2 hPW17
              have hU := rup_any (some ⟨W7.heap.size, 0, none⟩) 1 1 [1] (W7.alloc (.cells #[.int .u32 (1 : Int)] 53)) (8 * k) (by omega) rfl ((RW.one W7 53 (show 1 < 4294967296 by omega)).more (by simp)) (by simp)
              rw [val_one, Nat.one_mul, ← pow8, HPn.out, show ((8 * k : Nat) : Int) = 8 * (k : Int) by omega] at hU
              go_wp2_with fail
              refine hU.mono ?_; rintro e w8 ⟨A8, c8, rfl, O8, B8⟩
              have hM := fun w' => rminus_raw false A8 (some ⟨w8.heap.size, 0, none⟩) c8 1 (digs PW).length 1 w'
              simp only [Bool.not_false, Bool.true_and, hdP] at hM
              clear hdP
              have Bo7 := bal W7 (.cells #[.int .u32 (1 : Int)] 53)
              have Bo8 := bal w8 (.cells #[.int .u32 (1 : Int)] 53)
              have B16 := bal (w8.alloc (.cells #[.int .u32 (1 : Int)] 53)) (.cells #[.bool false, .slice A8 (digs PW).length c8, .slice (some ⟨w8.heap.size, 0, none⟩) 1 1] 25)
              have z8 : (w8.alloc (.cells #[.int .u32 (1 : Int)] 53)).heap.size = w8.heap.size + 1 := by simp
              have ON8 : OW (w8.alloc (.cells #[.int .u32 (1 : Int)] 53)) w8.heap.size (some ⟨w8.heap.size, 0, none⟩) 1 [1] := OW.lit w8 [1] (by simp) (by rw [← digs_one1]; exact B32_digs 1)
              have S16 := SB.new (w8.alloc (.cells #[.int .u32 (1 : Int)] 53)) [.bool false, .slice A8 (digs PW).length c8, .slice (some ⟨w8.heap.size, 0, none⟩) 1 1] 25
              rw [z8] at S16
              have BA := bt (bt Bo7 B8) (bt Bo8 B16)
              have S15 := S7.nx BA
              have hRC9 := hRC.nx BA
              have R5 := st (st (st (st O5.rw Bo) B6) B7) BA
              have RN1 := st (st (st ON.rw B6) B7) BA
              have R8 := st O8.rw (bt Bo8 B16)
              have RN8 := st ON8.rw B16
              obtain ⟨W9, hW9⟩ : ∃ W9, W9 = (w8.alloc (.cells #[.int .u32 (1 : Int)] 53)).alloc (.cells #[.bool false, .slice A8 (digs PW).length c8, .slice (some ⟨w8.heap.size, 0, none⟩) 1 1] 25) := ⟨_, rfl⟩
              go_wp2_with fail
              rw [← hW9] at S16 S15 hRC9 R5 RN1 R8 RN8 BA ⊢
              clear hW9 S7 hRC
              have m0 := S15.cell 0
              have m1 := S15.cell 1
              have m2 := S15.cell 2
              have n0 := S16.cell 0
              have n1 := S16.cell 1
              have n2 := S16.cell 2
              have Bd : Below W9.heap.size W9 W9.drew := Below.drew (Below.refl _ _)
              have S15d := S15.nx Bd
              have R5d := st R5 Bd
              have RN1d := st RN1 Bd
              have R8d := st R8 Bd
              have RN8d := st RN8 Bd
              have hRCd := hRC9.nx Bd
              go_region_with (first | (go_at_call 38; refine (hM _).mono ?_; rintro e w10 ⟨rfl, B10⟩; have Sa := S15d.nx B10; have x0 := Sa.cell 0; have x1 := Sa.cell 1; have x2 := Sa.cell 2) | (go_at_call 37; refine (hS _ _ w10 (rq_pos (st R5d B10) (st RN1d B10)) (rq_neg hPW0 (st R8d B10) (st RN8d B10))).mono ?_; rintro e w11 ⟨A11, c11, D11, d11, rfl, O11, P11, B11⟩; have Sb := Sa.nx B11; have y0 := Sb.cell 0; have y1 := Sb.cell 1; have y2 := Sb.cell 2; have f0 := Sb.frozen 0; have f1 := Sb.frozen 1; have f2 := Sb.frozen 2))
              all_goals
                have BF := (((bt (bt (bt (bt B7 BA) Bd) B10) B11).setCell (p := ⟨w6.heap.size, 0, none⟩) (Nat.le_refl _) (.bool (qn X))).setCell (p := ⟨w6.heap.size, 1, none⟩) (Nat.le_refl _) (.slice A11 (digs (qt X)).length c11)).setCell (p := ⟨w6.heap.size, 2, none⟩) (Nat.le_refl _) (.slice D11 (digs (qd X)).length d11)
                have h10 : w6.heap.size < w10.heap.size := (S15d.nx B10).2
                have hnA : ∀ g, A11 = some ⟨g, 0, none⟩ → g ≠ w6.heap.size := fun g hg => by subst hg; have := O11.lt.1; omega
                have hnD : ∀ g, D11 = some ⟨g, 0, none⟩ → g ≠ w6.heap.size := fun g hg => by subst hg; have := P11.lt.1; omega
                have OT := ((O11.far (p := ⟨w6.heap.size, 0, none⟩) hnA (.bool (qn X))).far (p := ⟨w6.heap.size, 1, none⟩) hnA (.slice A11 (digs (qt X)).length c11)).far (p := ⟨w6.heap.size, 2, none⟩) hnA (.slice D11 (digs (qd X)).length d11)
                have PT := ((P11.far (p := ⟨w6.heap.size, 0, none⟩) hnD (.bool (qn X))).far (p := ⟨w6.heap.size, 1, none⟩) hnD (.slice A11 (digs (qt X)).length c11)).far (p := ⟨w6.heap.size, 2, none⟩) hnD (.slice D11 (digs (qd X)).length d11)
                have O6f := O6.below BF (Nat.le_refl _)
                have S9' := ((Sb.set 0 (.bool (qn X))).set 1 (.slice A11 (digs (qt X)).length c11)).set 2 (.slice D11 (digs (qd X)).length d11)
                have q0 := S9'.cell 0
                have q1 := S9'.cell 1
                have q2 := S9'.cell 2
                have q3 := S9'.cell 3
                have q4 := S9'.cell 4
                have q5 := S9'.cell 5
                have hw6 : w.heap.size ≠ w6.heap.size := by omega
                have hRC := ((((hRCd.nx B10).nx B11).sb.far (p := ⟨w6.heap.size, 0, none⟩) hw6 (.bool (qn X))).far (p := ⟨w6.heap.size, 1, none⟩) hw6 (.slice A11 (digs (qt X)).length c11)).far (p := ⟨w6.heap.size, 2, none⟩) hw6 (.slice D11 (digs (qd X)).length d11)
                have hRC := hRC.rc (n := 6) (by simp)
                have hb10 : w.heap.size < w10.heap.size := by omega
                clear Sa Sb S9' y0 y1 y2 f0 f1 f2 S15d S15 S16
                go_wp2_with (refine wp_st6 rfl (.tmp 10) (.tmp 78) rfl _ rfl _ _ _ _ _ _ rfl hRC rfl rfl rfl rfl rfl rfl ?_)
                have s6 := hRC.put6 (.bool (qn X)) (.slice A11 (digs (qt X)).length c11) (.slice D11 (digs (qd X)).length d11) (.bool false) (.slice none 0 0) (.slice D6 1 1)
                have BZ := wr6_below (b := w.heap.size) (bt (bt (bt (bt B1 B5) Bo) B6) BF) (Nat.le_refl _) (.bool (qn X)) (.slice A11 (digs (qt X)).length c11) (.slice D11 (digs (qd X)).length d11) (.bool false) (.slice none 0 0) (.slice D6 1 1)
                have Oa := (OT).put6 (b := w.heap.size) hb10 (.bool (qn X)) (.slice A11 (digs (qt X)).length c11) (.slice D11 (digs (qd X)).length d11) (.bool false) (.slice none 0 0) (.slice D6 1 1)
                have Ob := (PT).put6 (b := w.heap.size) hb10 (.bool (qn X)) (.slice A11 (digs (qt X)).length c11) (.slice D11 (digs (qd X)).length d11) (.bool false) (.slice none 0 0) (.slice D6 1 1)
                have Od := (O6f).put6 (b := w.heap.size) hbz (.bool (qn X)) (.slice A11 (digs (qt X)).length c11) (.slice D11 (digs (qd X)).length d11) (.bool false) (.slice none 0 0) (.slice D6 1 1)
                have r0' := s6.cell 0
                have r1' := s6.cell 1
                have r2' := s6.cell 2
                have r3' := s6.cell 3
                have r4' := s6.cell 4
                have r5' := s6.cell 5
                refine bodyPost_ret (v := .tuple #[.agg #[.bool (qn X), .slice A11 (digs (qt X)).length c11, .slice D11 (digs (qd X)).length d11, .bool false, .slice none 0 0, .slice D6 1 1], .int .i64 0]) (by simp [results, r0', r1', r2', r3', r4', r5', go_sem]) rfl ?_
                exact ⟨A11, c11, D11, d11, none, 0, D6, 1, rfl, Oa.base_le (Nat.le_of_lt hb10), Ob.base_le (Nat.le_of_lt hb10), OW.nil _ _, Od.base_le (Nat.le_of_lt hbz), BZ⟩
        · rw [show (true && decide (128 ≤ (bg C t).toNat)) = false by rw [decide_eq_false hng]; rfl, if_neg (by simp), rwq_pos1, rwq_z]
          have tz : ((blen (lv C) : Int) == 8 * (s : Int)) = false := beq_eq_false_iff_ne.2 (fun h => hng ((top_size HCl.out HT.out).1 (by omega)))
          clear hng
          go_enter Try.func9, Try.ntmps9
          go_wp2_with fail
          refine hin.mono ?_; rintro e w' ⟨rfl, rfl⟩
          go_wp2_with fail
          go_loopg [12, 13] s (fun gg nv iv wr => ∃ (k : Nat) (A5 : Option Addr) (c5 : Nat), k ≤ s ∧ s - k = gg ∧ iv = .int .i64 (k : Int) ∧ nv = .slice A5 (digs (hi8 C k)).length c5 ∧ OW wr (w.alloc (.cells #[.bool false, .slice none 0 0, .slice none 0 0, .bool false, .slice none 0 0, .slice none 0 0] 27)).heap.size A5 c5 (digs (hi8 C k)) ∧ Below (w.alloc (.cells #[.bool false, .slice none 0 0, .slice none 0 0, .bool false, .slice none 0 0, .slice none 0 0] 27)).heap.size (w.alloc (.cells #[.bool false, .slice none 0 0, .slice none 0 0, .bool false, .slice none 0 0, .slice none 0 0] 27)) wr)
          case atStart => exact ⟨0, _, 0, Nat.zero_le _, rfl, rfl, by rw [hi8_zero, digs_zero]; rfl, by rw [hi8_zero, digs_zero]; have h5 := OW.empty (w.alloc (.cells #[.bool false, .slice none 0 0, .slice none 0 0, .bool false, .slice none 0 0, .slice none 0 0] 27)); rw [hz1] at h5 ⊢; exact h5, bal _ _⟩
          case round =>
            obtain ⟨k, A5, c5, hk, rfl, rfl, rfl, O5, B5⟩ := hrel
            by_cases h0 : k < s
            · obtain ⟨j, hj⟩ : ∃ j, j = s - 1 - k := ⟨_, rfl⟩
              have e1 : (a : Int) + (s : Int) - 1 - (k : Int) = (a : Int) + (j : Int) := by omega
              obtain ⟨b', off', he, _, hx⟩ := RM.at_ (RM.below h (bt B1 B5)) (by omega)
              simp only [Option.some.injEq, Addr.mk.injEq, and_true] at he
              obtain ⟨rfl, rfl⟩ := he
              have x1 := hx (a + j) _ (bg_get? (by omega))
              have x2 := hx (a + k) _ (bg_get? (by omega))
              simp only [f8] at x1 x2
              have hbk := hsc k h0
              rw [← hj] at hbk
              have lj := (bg l (a + j)).toNat_lt
              have lk := (bg l (a + k)).toNat_lt
              have ew : IntKind.u64.wrap ((bg l (a + j)).toNat : Int) = ((bg l (a + j)).toNat : Int) := IntWalk.u64_in _ (by omega)
              have hd5 : (digs (hi8 C k)).length ≤ 100 := by have := digs_len_le.2 (Nat.lt_trans (hi8_lt C k (by rw [HCl.out]; omega)) (pow_wm (s := k) (m := 17) (by omega))); omega
              have hT := rtimes_any A5 (some ⟨wr.heap.size, 0, none⟩) c5 1 _ 1 (digs (hi8 C k)) [256] (wr.alloc (.cells #[.int .u32 (256 : Nat)] 53)) rfl rfl (st O5.rw (bal _ _)) ((RW.one wr 53 (show 256 < 4294967296 by omega)).more (by simp)) (by omega) (by simp)
              rw [val_digs, val_one] at hT
              have hO := fun w' => rof_any ((bg l (a + j)).toNat : Int) w' (by omega) (by omega)
              simp only [Int.toNat_natCast] at hO
              have hd6 : (digs (hi8 C k * 256)).length ≤ 200 := by have := digs_mul (hi8 C k) 256; rw [digs_one (n := 256) (by omega) (by omega)] at this; simp only [List.length_singleton] at this; omega
              have hd7 : (digs (bg l (a + j)).toNat).length ≤ 2 := digs_u64 (by omega)
              have HJ := Lib.hid hj
              clear hj hd5
              go_wp2_with fail
              refine hT.mono ?_; rintro e w6 ⟨A6, c6, rfl, O6, B6⟩
              go_wp2_with fail
              refine (hO w6).mono ?_; rintro e w7 ⟨A7, c7, rfl, O7, B7⟩
              have hP := rplus_any A6 A7 c6 c7 _ _ (digs (hi8 C k * 256)) (digs (bg l (a + j)).toNat) w7 rfl rfl (st O6.rw B7) O7.rw (by omega) (by omega)
              rw [val_digs, val_digs, ← hbk.out] at hP
              go_wp2_with fail
              refine hP.mono ?_; rintro e w8 ⟨A8, c8, rfl, O8, B8⟩
              go_wp2_with fail
              go_roundg (s - (k + 1))
              case measure => omega
              case rel => exact ⟨k + 1, A8, c8, by omega, rfl, by go_num, rfl, O8.base_le (by have := B5.size; have := (bal wr (.cells #[.int .u32 (256 : Nat)] 53)).size; have := B6.size; have := B7.size; omega), B5.trans ((bt (bt (bt (bal _ _) B6) B7) B8).mono B5.size)⟩
            · obtain rfl : k = s := by omega
              have hv : hi8 C k = lv C := by have := hi8_all C; rw [HCl.out] at this; exact this
              rw [hv] at O5 ⊢
              clear hv h0
              go_wp2_with fail
              refine (zero_any _).mono ?_; rintro e w6 ⟨D6, rfl, O6, B6⟩
              have Bo := bal wr (.cells #[.int .u32 (1 : Int)] 53)
              have z5 : (wr.alloc (.cells #[.int .u32 (1 : Int)] 53)).heap.size = wr.heap.size + 1 := by simp
              have ON : OW (wr.alloc (.cells #[.int .u32 (1 : Int)] 53)) wr.heap.size (some ⟨wr.heap.size, 0, none⟩) 1 [1] := OW.lit wr [1] (by simp) (by rw [← digs_one1]; exact B32_digs 1)
              have B7 := bal w6 (.cells #[.bool false, .slice A5 (digs (lv C)).length c5, .slice (some ⟨wr.heap.size, 0, none⟩) 1 1, .bool false, .slice none 0 0, .slice D6 1 1] 27)
              have S7 := SB.new w6 [.bool false, .slice A5 (digs (lv C)).length c5, .slice (some ⟨wr.heap.size, 0, none⟩) 1 1, .bool false, .slice none 0 0, .slice D6 1 1] 27
              have hbr : w.heap.size < wr.heap.size := (S1.nx B5).2
              have hb1 : w.heap.size < (w.alloc (.cells #[.bool false, .slice none 0 0, .slice none 0 0, .bool false, .slice none 0 0, .slice none 0 0] 27)).heap.size := S1.2
              have hRC := (((((S1.nx B5).nx Bo).nx B6).nx B7)).rc (n := 6)
              have hb6 : wr.heap.size < w6.heap.size := by have := Bo.size; have := B6.size; omega
              have hsz := rsize_any A5 c5 _ (digs (lv C)) (w6.alloc (.cells #[.bool false, .slice A5 (digs (lv C)).length c5, .slice (some ⟨wr.heap.size, 0, none⟩) 1 1, .bool false, .slice none 0 0, .slice D6 1 1] 27)) rfl (st (st (st O5.rw Bo) B6) B7)
              rw [val_digs] at hsz
              have e8 : IntKind.i64.wrap (8 * (k : Int)) = 8 * (k : Int) := IntWalk.i64_in _ (by omega)
              go_wp2_with fail
              refine hsz.mono ?_; rintro e w' ⟨rfl, rfl⟩
              have hbz : w.heap.size < (wr.alloc (.cells #[.int .u32 (1 : Int)] 53)).heap.size + 1 := by rw [z5]; omega
              go_wp2_with (refine wp_st6 rfl (.tmp 10) (.tmp 78) rfl _ rfl _ _ _ _ _ _ rfl hRC rfl rfl rfl rfl rfl rfl ?_)
              have s6 := hRC.put6 (.bool false) (.slice A5 (digs (lv C)).length c5) (.slice (some ⟨wr.heap.size, 0, none⟩) 1 1) (.bool false) (.slice none 0 0) (.slice D6 1 1)
              have BZ := wr6_below (b := w.heap.size) (bt (bt (bt (bt B1 B5) Bo) B6) B7) (Nat.le_refl _) (.bool false) (.slice A5 (digs (lv C)).length c5) (.slice (some ⟨wr.heap.size, 0, none⟩) 1 1) (.bool false) (.slice none 0 0) (.slice D6 1 1)
              have Oa := (O5.below (bt (bt Bo B6) B7) (Nat.le_refl _)).put6 (b := w.heap.size) hb1 (.bool false) (.slice A5 (digs (lv C)).length c5) (.slice (some ⟨wr.heap.size, 0, none⟩) 1 1) (.bool false) (.slice none 0 0) (.slice D6 1 1)
              have Ob := (ON.below (bt B6 B7) (Nat.le_refl _)).put6 (b := w.heap.size) hbr (.bool false) (.slice A5 (digs (lv C)).length c5) (.slice (some ⟨wr.heap.size, 0, none⟩) 1 1) (.bool false) (.slice none 0 0) (.slice D6 1 1)
              have Od := (O6.below B7 (Nat.le_refl _)).put6 (b := w.heap.size) hbz (.bool false) (.slice A5 (digs (lv C)).length c5) (.slice (some ⟨wr.heap.size, 0, none⟩) 1 1) (.bool false) (.slice none 0 0) (.slice D6 1 1)
              have r0' := s6.cell 0
              have r1' := s6.cell 1
              have r2' := s6.cell 2
              have r3' := s6.cell 3
              have r4' := s6.cell 4
              have r5' := s6.cell 5
              refine bodyPost_ret (v := .tuple #[.agg #[.bool false, .slice A5 (digs (lv C)).length c5, .slice (some ⟨wr.heap.size, 0, none⟩) 1 1, .bool false, .slice none 0 0, .slice D6 1 1], .int .i64 0]) (by simp [results, r0', r1', r2', r3', r4', r5', go_sem]) rfl ?_
              exact ⟨A5, c5, some ⟨wr.heap.size, 0, none⟩, 1, none, 0, D6, 1, rfl, Oa.base_le (Nat.le_of_lt hb1), Ob.base_le (Nat.le_of_lt hbr), OW.nil _ _, Od.base_le (Nat.le_of_lt hbz), BZ⟩
    | true =>
      have hsc := fun k hk => (hsucc k hk).2 rfl
      clear hsucc
      cases signed with
      | false =>
        rw [show (false && decide (128 ≤ (bg C t).toNat)) = false from rfl, if_neg (by simp), rwq_pos1, rwq_z]
        go_enter Try.func9, Try.ntmps9
        go_wp2_with fail
        refine hin.mono ?_; rintro e w' ⟨rfl, rfl⟩
        go_wp2_with fail
        go_loopg [12, 13] s (fun gg nv iv wr => ∃ (k : Nat) (A5 : Option Addr) (c5 : Nat), k ≤ s ∧ s - k = gg ∧ iv = .int .i64 (k : Int) ∧ nv = .slice A5 (digs (hi8 C k)).length c5 ∧ OW wr (w.alloc (.cells #[.bool false, .slice none 0 0, .slice none 0 0, .bool false, .slice none 0 0, .slice none 0 0] 27)).heap.size A5 c5 (digs (hi8 C k)) ∧ Below (w.alloc (.cells #[.bool false, .slice none 0 0, .slice none 0 0, .bool false, .slice none 0 0, .slice none 0 0] 27)).heap.size (w.alloc (.cells #[.bool false, .slice none 0 0, .slice none 0 0, .bool false, .slice none 0 0, .slice none 0 0] 27)) wr)
        case atStart => exact ⟨0, _, 0, Nat.zero_le _, rfl, rfl, by rw [hi8_zero, digs_zero]; rfl, by rw [hi8_zero, digs_zero]; have h5 := OW.empty (w.alloc (.cells #[.bool false, .slice none 0 0, .slice none 0 0, .bool false, .slice none 0 0, .slice none 0 0] 27)); rw [hz1] at h5 ⊢; exact h5, bal _ _⟩
        case round =>
          obtain ⟨k, A5, c5, hk, rfl, rfl, rfl, O5, B5⟩ := hrel
          by_cases h0 : k < s
          · obtain ⟨j, hj⟩ : ∃ j, j = s - 1 - k := ⟨_, rfl⟩
            have e1 : (a : Int) + (s : Int) - 1 - (k : Int) = (a : Int) + (j : Int) := by omega
            obtain ⟨b', off', he, _, hx⟩ := RM.at_ (RM.below h (bt B1 B5)) (by omega)
            simp only [Option.some.injEq, Addr.mk.injEq, and_true] at he
            obtain ⟨rfl, rfl⟩ := he
            have x1 := hx (a + j) _ (bg_get? (by omega))
            have x2 := hx (a + k) _ (bg_get? (by omega))
            simp only [f8] at x1 x2
            have hbk := hsc k h0
            have lj := (bg l (a + j)).toNat_lt
            have lk := (bg l (a + k)).toNat_lt
            have ew : IntKind.u64.wrap ((bg l (a + k)).toNat : Int) = ((bg l (a + k)).toNat : Int) := IntWalk.u64_in _ (by omega)
            have hd5 : (digs (hi8 C k)).length ≤ 100 := by have := digs_len_le.2 (Nat.lt_trans (hi8_lt C k (by rw [HCl.out]; omega)) (pow_wm (s := k) (m := 17) (by omega))); omega
            have hT := rtimes_any A5 (some ⟨wr.heap.size, 0, none⟩) c5 1 _ 1 (digs (hi8 C k)) [256] (wr.alloc (.cells #[.int .u32 (256 : Nat)] 53)) rfl rfl (st O5.rw (bal _ _)) ((RW.one wr 53 (show 256 < 4294967296 by omega)).more (by simp)) (by omega) (by simp)
            rw [val_digs, val_one] at hT
            have hO := fun w' => rof_any ((bg l (a + k)).toNat : Int) w' (by omega) (by omega)
            simp only [Int.toNat_natCast] at hO
            have hd6 : (digs (hi8 C k * 256)).length ≤ 200 := by have := digs_mul (hi8 C k) 256; rw [digs_one (n := 256) (by omega) (by omega)] at this; simp only [List.length_singleton] at this; omega
            have hd7 : (digs (bg l (a + k)).toNat).length ≤ 2 := digs_u64 (by omega)
            have HJ := Lib.hid hj
            clear hj hd5
            go_wp2_with fail
            refine hT.mono ?_; rintro e w6 ⟨A6, c6, rfl, O6, B6⟩
            go_wp2_with fail
            refine (hO w6).mono ?_; rintro e w7 ⟨A7, c7, rfl, O7, B7⟩
            have hP := rplus_any A6 A7 c6 c7 _ _ (digs (hi8 C k * 256)) (digs (bg l (a + k)).toNat) w7 rfl rfl (st O6.rw B7) O7.rw (by omega) (by omega)
            rw [val_digs, val_digs, ← hbk.out] at hP
            go_wp2_with fail
            refine hP.mono ?_; rintro e w8 ⟨A8, c8, rfl, O8, B8⟩
            go_wp2_with fail
            go_roundg (s - (k + 1))
            case measure => omega
            case rel => exact ⟨k + 1, A8, c8, by omega, rfl, by go_num, rfl, O8.base_le (by have := B5.size; have := (bal wr (.cells #[.int .u32 (256 : Nat)] 53)).size; have := B6.size; have := B7.size; omega), B5.trans ((bt (bt (bt (bal _ _) B6) B7) B8).mono B5.size)⟩
          · obtain rfl : k = s := by omega
            have hv : hi8 C k = lv C := by have := hi8_all C; rw [HCl.out] at this; exact this
            rw [hv] at O5 ⊢
            clear hv h0
            go_wp2_with fail
            refine (zero_any _).mono ?_; rintro e w6 ⟨D6, rfl, O6, B6⟩
            have Bo := bal wr (.cells #[.int .u32 (1 : Int)] 53)
            have z5 : (wr.alloc (.cells #[.int .u32 (1 : Int)] 53)).heap.size = wr.heap.size + 1 := by simp
            have ON : OW (wr.alloc (.cells #[.int .u32 (1 : Int)] 53)) wr.heap.size (some ⟨wr.heap.size, 0, none⟩) 1 [1] := OW.lit wr [1] (by simp) (by rw [← digs_one1]; exact B32_digs 1)
            have B7 := bal w6 (.cells #[.bool false, .slice A5 (digs (lv C)).length c5, .slice (some ⟨wr.heap.size, 0, none⟩) 1 1, .bool false, .slice none 0 0, .slice D6 1 1] 27)
            have S7 := SB.new w6 [.bool false, .slice A5 (digs (lv C)).length c5, .slice (some ⟨wr.heap.size, 0, none⟩) 1 1, .bool false, .slice none 0 0, .slice D6 1 1] 27
            have hbr : w.heap.size < wr.heap.size := (S1.nx B5).2
            have hb1 : w.heap.size < (w.alloc (.cells #[.bool false, .slice none 0 0, .slice none 0 0, .bool false, .slice none 0 0, .slice none 0 0] 27)).heap.size := S1.2
            have hRC := (((((S1.nx B5).nx Bo).nx B6).nx B7)).rc (n := 6)
            have hb6 : wr.heap.size < w6.heap.size := by have := Bo.size; have := B6.size; omega
            have hbz : w.heap.size < (wr.alloc (.cells #[.int .u32 (1 : Int)] 53)).heap.size + 1 := by rw [z5]; omega
            go_wp2_with (refine wp_st6 rfl (.tmp 10) (.tmp 78) rfl _ rfl _ _ _ _ _ _ rfl hRC rfl rfl rfl rfl rfl rfl ?_)
            have s6 := hRC.put6 (.bool false) (.slice A5 (digs (lv C)).length c5) (.slice (some ⟨wr.heap.size, 0, none⟩) 1 1) (.bool false) (.slice none 0 0) (.slice D6 1 1)
            have BZ := wr6_below (b := w.heap.size) (bt (bt (bt (bt B1 B5) Bo) B6) B7) (Nat.le_refl _) (.bool false) (.slice A5 (digs (lv C)).length c5) (.slice (some ⟨wr.heap.size, 0, none⟩) 1 1) (.bool false) (.slice none 0 0) (.slice D6 1 1)
            have Oa := (O5.below (bt (bt Bo B6) B7) (Nat.le_refl _)).put6 (b := w.heap.size) hb1 (.bool false) (.slice A5 (digs (lv C)).length c5) (.slice (some ⟨wr.heap.size, 0, none⟩) 1 1) (.bool false) (.slice none 0 0) (.slice D6 1 1)
            have Ob := (ON.below (bt B6 B7) (Nat.le_refl _)).put6 (b := w.heap.size) hbr (.bool false) (.slice A5 (digs (lv C)).length c5) (.slice (some ⟨wr.heap.size, 0, none⟩) 1 1) (.bool false) (.slice none 0 0) (.slice D6 1 1)
            have Od := (O6.below B7 (Nat.le_refl _)).put6 (b := w.heap.size) hbz (.bool false) (.slice A5 (digs (lv C)).length c5) (.slice (some ⟨wr.heap.size, 0, none⟩) 1 1) (.bool false) (.slice none 0 0) (.slice D6 1 1)
            have r0' := s6.cell 0
            have r1' := s6.cell 1
            have r2' := s6.cell 2
            have r3' := s6.cell 3
            have r4' := s6.cell 4
            have r5' := s6.cell 5
            refine bodyPost_ret (v := .tuple #[.agg #[.bool false, .slice A5 (digs (lv C)).length c5, .slice (some ⟨wr.heap.size, 0, none⟩) 1 1, .bool false, .slice none 0 0, .slice D6 1 1], .int .i64 0]) (by simp [results, r0', r1', r2', r3', r4', r5', go_sem]) rfl ?_
            exact ⟨A5, c5, some ⟨wr.heap.size, 0, none⟩, 1, none, 0, D6, 1, rfl, Oa.base_le (Nat.le_of_lt hb1), Ob.base_le (Nat.le_of_lt hbr), OW.nil _ _, Od.base_le (Nat.le_of_lt hbz), BZ⟩
      | true =>
        by_cases hng : 128 ≤ (bg C t).toNat
        · rw [show (true && decide (128 ≤ (bg C t).toNat)) = true by rw [decide_eq_true hng]; rfl, if_pos rfl, HPW.out, rwq_z]
          obtain ⟨X, HX⟩ : ∃ X : Rat, Hid (X = (((lv C : Int) - (PW : Int) : Int) : Rat)) := ⟨_, rfl⟩
          rw [← HX.out]
          have tz : ((blen (lv C) : Int) == 8 * (s : Int)) = true := by rw [beq_iff_eq]; have := (top_size HCl.out HT.out).2 hng; omega
          clear hng
          go_enter Try.func9, Try.ntmps9
          go_wp2_with fail
          refine hin.mono ?_; rintro e w' ⟨rfl, rfl⟩
          go_wp2_with fail
          go_loopg [12, 13] s (fun gg nv iv wr => ∃ (k : Nat) (A5 : Option Addr) (c5 : Nat), k ≤ s ∧ s - k = gg ∧ iv = .int .i64 (k : Int) ∧ nv = .slice A5 (digs (hi8 C k)).length c5 ∧ OW wr (w.alloc (.cells #[.bool false, .slice none 0 0, .slice none 0 0, .bool false, .slice none 0 0, .slice none 0 0] 27)).heap.size A5 c5 (digs (hi8 C k)) ∧ Below (w.alloc (.cells #[.bool false, .slice none 0 0, .slice none 0 0, .bool false, .slice none 0 0, .slice none 0 0] 27)).heap.size (w.alloc (.cells #[.bool false, .slice none 0 0, .slice none 0 0, .bool false, .slice none 0 0, .slice none 0 0] 27)) wr)
          case atStart => exact ⟨0, _, 0, Nat.zero_le _, rfl, rfl, by rw [hi8_zero, digs_zero]; rfl, by rw [hi8_zero, digs_zero]; have h5 := OW.empty (w.alloc (.cells #[.bool false, .slice none 0 0, .slice none 0 0, .bool false, .slice none 0 0, .slice none 0 0] 27)); rw [hz1] at h5 ⊢; exact h5, bal _ _⟩
          case round =>
            obtain ⟨k, A5, c5, hk, rfl, rfl, rfl, O5, B5⟩ := hrel
            by_cases h0 : k < s
            · obtain ⟨j, hj⟩ : ∃ j, j = s - 1 - k := ⟨_, rfl⟩
              have e1 : (a : Int) + (s : Int) - 1 - (k : Int) = (a : Int) + (j : Int) := by omega
              obtain ⟨b', off', he, _, hx⟩ := RM.at_ (RM.below h (bt B1 B5)) (by omega)
              simp only [Option.some.injEq, Addr.mk.injEq, and_true] at he
              obtain ⟨rfl, rfl⟩ := he
              have x1 := hx (a + j) _ (bg_get? (by omega))
              have x2 := hx (a + k) _ (bg_get? (by omega))
              simp only [f8] at x1 x2
              have hbk := hsc k h0
              have lj := (bg l (a + j)).toNat_lt
              have lk := (bg l (a + k)).toNat_lt
              have ew : IntKind.u64.wrap ((bg l (a + k)).toNat : Int) = ((bg l (a + k)).toNat : Int) := IntWalk.u64_in _ (by omega)
              have hd5 : (digs (hi8 C k)).length ≤ 100 := by have := digs_len_le.2 (Nat.lt_trans (hi8_lt C k (by rw [HCl.out]; omega)) (pow_wm (s := k) (m := 17) (by omega))); omega
              have hT := rtimes_any A5 (some ⟨wr.heap.size, 0, none⟩) c5 1 _ 1 (digs (hi8 C k)) [256] (wr.alloc (.cells #[.int .u32 (256 : Nat)] 53)) rfl rfl (st O5.rw (bal _ _)) ((RW.one wr 53 (show 256 < 4294967296 by omega)).more (by simp)) (by omega) (by simp)
              rw [val_digs, val_one] at hT
              have hO := fun w' => rof_any ((bg l (a + k)).toNat : Int) w' (by omega) (by omega)
              simp only [Int.toNat_natCast] at hO
              have hd6 : (digs (hi8 C k * 256)).length ≤ 200 := by have := digs_mul (hi8 C k) 256; rw [digs_one (n := 256) (by omega) (by omega)] at this; simp only [List.length_singleton] at this; omega
              have hd7 : (digs (bg l (a + k)).toNat).length ≤ 2 := digs_u64 (by omega)
              have HJ := Lib.hid hj
              clear hj hd5
              go_wp2_with fail
              refine hT.mono ?_; rintro e w6 ⟨A6, c6, rfl, O6, B6⟩
              go_wp2_with fail
              refine (hO w6).mono ?_; rintro e w7 ⟨A7, c7, rfl, O7, B7⟩
              have hP := rplus_any A6 A7 c6 c7 _ _ (digs (hi8 C k * 256)) (digs (bg l (a + k)).toNat) w7 rfl rfl (st O6.rw B7) O7.rw (by omega) (by omega)
              rw [val_digs, val_digs, ← hbk.out] at hP
              go_wp2_with fail
              refine hP.mono ?_; rintro e w8 ⟨A8, c8, rfl, O8, B8⟩
              go_wp2_with fail
              go_roundg (s - (k + 1))
              case measure => omega
              case rel => exact ⟨k + 1, A8, c8, by omega, rfl, by go_num, rfl, O8.base_le (by have := B5.size; have := (bal wr (.cells #[.int .u32 (256 : Nat)] 53)).size; have := B6.size; have := B7.size; omega), B5.trans ((bt (bt (bt (bal _ _) B6) B7) B8).mono B5.size)⟩
            · obtain rfl : k = s := by omega
              have hv : hi8 C k = lv C := by have := hi8_all C; rw [HCl.out] at this; exact this
              rw [hv] at O5 ⊢
              clear hv h0
              go_wp2_with fail
              refine (zero_any _).mono ?_; rintro e w6 ⟨D6, rfl, O6, B6⟩
              have Bo := bal wr (.cells #[.int .u32 (1 : Int)] 53)
              have z5 : (wr.alloc (.cells #[.int .u32 (1 : Int)] 53)).heap.size = wr.heap.size + 1 := by simp
              have ON : OW (wr.alloc (.cells #[.int .u32 (1 : Int)] 53)) wr.heap.size (some ⟨wr.heap.size, 0, none⟩) 1 [1] := OW.lit wr [1] (by simp) (by rw [← digs_one1]; exact B32_digs 1)
              have B7 := bal w6 (.cells #[.bool false, .slice A5 (digs (lv C)).length c5, .slice (some ⟨wr.heap.size, 0, none⟩) 1 1, .bool false, .slice none 0 0, .slice D6 1 1] 27)
              have S7 := SB.new w6 [.bool false, .slice A5 (digs (lv C)).length c5, .slice (some ⟨wr.heap.size, 0, none⟩) 1 1, .bool false, .slice none 0 0, .slice D6 1 1] 27
              have hbr : w.heap.size < wr.heap.size := (S1.nx B5).2
              have hb1 : w.heap.size < (w.alloc (.cells #[.bool false, .slice none 0 0, .slice none 0 0, .bool false, .slice none 0 0, .slice none 0 0] 27)).heap.size := S1.2
              have hRC := (((((S1.nx B5).nx Bo).nx B6).nx B7)).rc (n := 6)
              have hb6 : wr.heap.size < w6.heap.size := by have := Bo.size; have := B6.size; omega
              have hsz := rsize_any A5 c5 _ (digs (lv C)) (w6.alloc (.cells #[.bool false, .slice A5 (digs (lv C)).length c5, .slice (some ⟨wr.heap.size, 0, none⟩) 1 1, .bool false, .slice none 0 0, .slice D6 1 1] 27)) rfl (st (st (st O5.rw Bo) B6) B7)
              rw [val_digs] at hsz
              have e8 : IntKind.i64.wrap (8 * (k : Int)) = 8 * (k : Int) := IntWalk.i64_in _ (by omega)
              go_wp2_with fail
              refine hsz.mono ?_; rintro e w' ⟨rfl, rfl⟩
              have hbz : w.heap.size < (wr.alloc (.cells #[.int .u32 (1 : Int)] 53)).heap.size + 1 := by rw [z5]; omega
              obtain ⟨W7, hW7⟩ : ∃ W7, W7 = w6.alloc (.cells #[.bool false, .slice A5 (digs (lv C)).length c5, .slice (some ⟨wr.heap.size, 0, none⟩) 1 1, .bool false, .slice none 0 0, .slice D6 1 1] 27) := ⟨_, rfl⟩
              rw [← hW7] at S7 hRC B7 ⊢
              clear hW7
              have hXe : (((lv C : Nat) : Int) : Rat) + ((-(PW : Int) : Int) : Rat) = X := by rw [HX.out, ← Rat.intCast_add]; rfl
              have hPW17 : PW < Wp 17 := by rw [← HPn.out]; exact pow_wm (by omega)
              have hPW0 : 0 < PW := by rw [← HPn.out]; exact Nat.pow_pos (by omega)
              have hq1 := qw_int ((lv C : Nat) : Int) 17 (by omega) (by rw [Int.natAbs_natCast]; exact Nat.lt_trans hlt.out hPW17)
              have hq2 := qw_int (-(PW : Int)) 17 (by omega) (by rw [Int.natAbs_neg, Int.natAbs_natCast]; exact hPW17)
              have hS := fun v u w' x y => rsum_any v u (((lv C : Nat) : Int) : Rat) ((-(PW : Int) : Int) : Rat) w' x y (by omega)
              simp only [hXe] at hS
              have hdP : decide (0 < (digs PW).length) = true := by rw [← digs_pos_iff]; exact decide_eq_true hPW0
              clear hXe hq1 hq2 hPW17
              have hU := rup_any (some ⟨W7.heap.size, 0, none⟩) 1 1 [1] (W7.alloc (.cells #[.int .u32 (1 : Int)] 53)) (8 * k) (by omega) rfl ((RW.one W7 53 (show 1 < 4294967296 by omega)).more (by simp)) (by simp)
              rw [val_one, Nat.one_mul, ← pow8, HPn.out, show ((8 * k : Nat) : Int) = 8 * (k : Int) by omega] at hU
              go_wp2_with fail
              refine hU.mono ?_; rintro e w8 ⟨A8, c8, rfl, O8, B8⟩
              have hM := fun w' => rminus_raw false A8 (some ⟨w8.heap.size, 0, none⟩) c8 1 (digs PW).length 1 w'
              simp only [Bool.not_false, Bool.true_and, hdP] at hM
              clear hdP
              have Bo7 := bal W7 (.cells #[.int .u32 (1 : Int)] 53)
              have Bo8 := bal w8 (.cells #[.int .u32 (1 : Int)] 53)
              have B16 := bal (w8.alloc (.cells #[.int .u32 (1 : Int)] 53)) (.cells #[.bool false, .slice A8 (digs PW).length c8, .slice (some ⟨w8.heap.size, 0, none⟩) 1 1] 25)
              have z8 : (w8.alloc (.cells #[.int .u32 (1 : Int)] 53)).heap.size = w8.heap.size + 1 := by simp
              have ON8 : OW (w8.alloc (.cells #[.int .u32 (1 : Int)] 53)) w8.heap.size (some ⟨w8.heap.size, 0, none⟩) 1 [1] := OW.lit w8 [1] (by simp) (by rw [← digs_one1]; exact B32_digs 1)
              have S16 := SB.new (w8.alloc (.cells #[.int .u32 (1 : Int)] 53)) [.bool false, .slice A8 (digs PW).length c8, .slice (some ⟨w8.heap.size, 0, none⟩) 1 1] 25
              rw [z8] at S16
              have BA := bt (bt Bo7 B8) (bt Bo8 B16)
              have S15 := S7.nx BA
              have hRC9 := hRC.nx BA
              have R5 := st (st (st (st O5.rw Bo) B6) B7) BA
              have RN1 := st (st (st ON.rw B6) B7) BA
              have R8 := st O8.rw (bt Bo8 B16)
              have RN8 := st ON8.rw B16
              obtain ⟨W9, hW9⟩ : ∃ W9, W9 = (w8.alloc (.cells #[.int .u32 (1 : Int)] 53)).alloc (.cells #[.bool false, .slice A8 (digs PW).length c8, .slice (some ⟨w8.heap.size, 0, none⟩) 1 1] 25) := ⟨_, rfl⟩
              go_wp2_with fail
              rw [← hW9] at S16 S15 hRC9 R5 RN1 R8 RN8 BA ⊢
              clear hW9 S7 hRC
              have m0 := S15.cell 0
              have m1 := S15.cell 1
              have m2 := S15.cell 2
              have n0 := S16.cell 0
              have n1 := S16.cell 1
              have n2 := S16.cell 2
              have Bd : Below W9.heap.size W9 W9.drew := Below.drew (Below.refl _ _)
              have S15d := S15.nx Bd
              have R5d := st R5 Bd
              have RN1d := st RN1 Bd
              have R8d := st R8 Bd
              have RN8d := st RN8 Bd
              have hRCd := hRC9.nx Bd
              go_region_with (first | (go_at_call 38; refine (hM _).mono ?_; rintro e w10 ⟨rfl, B10⟩; have Sa := S15d.nx B10; have x0 := Sa.cell 0; have x1 := Sa.cell 1; have x2 := Sa.cell 2) | (go_at_call 37; refine (hS _ _ w10 (rq_pos (st R5d B10) (st RN1d B10)) (rq_neg hPW0 (st R8d B10) (st RN8d B10))).mono ?_; rintro e w11 ⟨A11, c11, D11, d11, rfl, O11, P11, B11⟩; have Sb := Sa.nx B11; have y0 := Sb.cell 0; have y1 := Sb.cell 1; have y2 := Sb.cell 2; have f0 := Sb.frozen 0; have f1 := Sb.frozen 1; have f2 := Sb.frozen 2))
              all_goals
                have BF := (((bt (bt (bt (bt B7 BA) Bd) B10) B11).setCell (p := ⟨w6.heap.size, 0, none⟩) (Nat.le_refl _) (.bool (qn X))).setCell (p := ⟨w6.heap.size, 1, none⟩) (Nat.le_refl _) (.slice A11 (digs (qt X)).length c11)).setCell (p := ⟨w6.heap.size, 2, none⟩) (Nat.le_refl _) (.slice D11 (digs (qd X)).length d11)
                have h10 : w6.heap.size < w10.heap.size := (S15d.nx B10).2
                have hnA : ∀ g, A11 = some ⟨g, 0, none⟩ → g ≠ w6.heap.size := fun g hg => by subst hg; have := O11.lt.1; omega
                have hnD : ∀ g, D11 = some ⟨g, 0, none⟩ → g ≠ w6.heap.size := fun g hg => by subst hg; have := P11.lt.1; omega
                have OT := ((O11.far (p := ⟨w6.heap.size, 0, none⟩) hnA (.bool (qn X))).far (p := ⟨w6.heap.size, 1, none⟩) hnA (.slice A11 (digs (qt X)).length c11)).far (p := ⟨w6.heap.size, 2, none⟩) hnA (.slice D11 (digs (qd X)).length d11)
                have PT := ((P11.far (p := ⟨w6.heap.size, 0, none⟩) hnD (.bool (qn X))).far (p := ⟨w6.heap.size, 1, none⟩) hnD (.slice A11 (digs (qt X)).length c11)).far (p := ⟨w6.heap.size, 2, none⟩) hnD (.slice D11 (digs (qd X)).length d11)
                have O6f := O6.below BF (Nat.le_refl _)
                have S9' := ((Sb.set 0 (.bool (qn X))).set 1 (.slice A11 (digs (qt X)).length c11)).set 2 (.slice D11 (digs (qd X)).length d11)
                have q0 := S9'.cell 0
                have q1 := S9'.cell 1
                have q2 := S9'.cell 2
                have q3 := S9'.cell 3
                have q4 := S9'.cell 4
                have q5 := S9'.cell 5
                have hw6 : w.heap.size ≠ w6.heap.size := by omega
                have hRC := ((((hRCd.nx B10).nx B11).sb.far (p := ⟨w6.heap.size, 0, none⟩) hw6 (.bool (qn X))).far (p := ⟨w6.heap.size, 1, none⟩) hw6 (.slice A11 (digs (qt X)).length c11)).far (p := ⟨w6.heap.size, 2, none⟩) hw6 (.slice D11 (digs (qd X)).length d11)
                have hRC := hRC.rc (n := 6) (by simp)
                have hb10 : w.heap.size < w10.heap.size := by omega
                clear Sa Sb S9' y0 y1 y2 f0 f1 f2 S15d S15 S16
                go_wp2_with (refine wp_st6 rfl (.tmp 10) (.tmp 78) rfl _ rfl _ _ _ _ _ _ rfl hRC rfl rfl rfl rfl rfl rfl ?_)
                have s6 := hRC.put6 (.bool (qn X)) (.slice A11 (digs (qt X)).length c11) (.slice D11 (digs (qd X)).length d11) (.bool false) (.slice none 0 0) (.slice D6 1 1)
                have BZ := wr6_below (b := w.heap.size) (bt (bt (bt (bt B1 B5) Bo) B6) BF) (Nat.le_refl _) (.bool (qn X)) (.slice A11 (digs (qt X)).length c11) (.slice D11 (digs (qd X)).length d11) (.bool false) (.slice none 0 0) (.slice D6 1 1)
                have Oa := (OT).put6 (b := w.heap.size) hb10 (.bool (qn X)) (.slice A11 (digs (qt X)).length c11) (.slice D11 (digs (qd X)).length d11) (.bool false) (.slice none 0 0) (.slice D6 1 1)
                have Ob := (PT).put6 (b := w.heap.size) hb10 (.bool (qn X)) (.slice A11 (digs (qt X)).length c11) (.slice D11 (digs (qd X)).length d11) (.bool false) (.slice none 0 0) (.slice D6 1 1)
                have Od := (O6f).put6 (b := w.heap.size) hbz (.bool (qn X)) (.slice A11 (digs (qt X)).length c11) (.slice D11 (digs (qd X)).length d11) (.bool false) (.slice none 0 0) (.slice D6 1 1)
                have r0' := s6.cell 0
                have r1' := s6.cell 1
                have r2' := s6.cell 2
                have r3' := s6.cell 3
                have r4' := s6.cell 4
                have r5' := s6.cell 5
                refine bodyPost_ret (v := .tuple #[.agg #[.bool (qn X), .slice A11 (digs (qt X)).length c11, .slice D11 (digs (qd X)).length d11, .bool false, .slice none 0 0, .slice D6 1 1], .int .i64 0]) (by simp [results, r0', r1', r2', r3', r4', r5', go_sem]) rfl ?_
                exact ⟨A11, c11, D11, d11, none, 0, D6, 1, rfl, Oa.base_le (Nat.le_of_lt hb10), Ob.base_le (Nat.le_of_lt hb10), OW.nil _ _, Od.base_le (Nat.le_of_lt hbz), BZ⟩
        · rw [show (true && decide (128 ≤ (bg C t).toNat)) = false by rw [decide_eq_false hng]; rfl, if_neg (by simp), rwq_pos1, rwq_z]
          have tz : ((blen (lv C) : Int) == 8 * (s : Int)) = false := beq_eq_false_iff_ne.2 (fun h => hng ((top_size HCl.out HT.out).1 (by omega)))
          clear hng
          go_enter Try.func9, Try.ntmps9
          go_wp2_with fail
          refine hin.mono ?_; rintro e w' ⟨rfl, rfl⟩
          go_wp2_with fail
          go_loopg [12, 13] s (fun gg nv iv wr => ∃ (k : Nat) (A5 : Option Addr) (c5 : Nat), k ≤ s ∧ s - k = gg ∧ iv = .int .i64 (k : Int) ∧ nv = .slice A5 (digs (hi8 C k)).length c5 ∧ OW wr (w.alloc (.cells #[.bool false, .slice none 0 0, .slice none 0 0, .bool false, .slice none 0 0, .slice none 0 0] 27)).heap.size A5 c5 (digs (hi8 C k)) ∧ Below (w.alloc (.cells #[.bool false, .slice none 0 0, .slice none 0 0, .bool false, .slice none 0 0, .slice none 0 0] 27)).heap.size (w.alloc (.cells #[.bool false, .slice none 0 0, .slice none 0 0, .bool false, .slice none 0 0, .slice none 0 0] 27)) wr)
          case atStart => exact ⟨0, _, 0, Nat.zero_le _, rfl, rfl, by rw [hi8_zero, digs_zero]; rfl, by rw [hi8_zero, digs_zero]; have h5 := OW.empty (w.alloc (.cells #[.bool false, .slice none 0 0, .slice none 0 0, .bool false, .slice none 0 0, .slice none 0 0] 27)); rw [hz1] at h5 ⊢; exact h5, bal _ _⟩
          case round =>
            obtain ⟨k, A5, c5, hk, rfl, rfl, rfl, O5, B5⟩ := hrel
            by_cases h0 : k < s
            · obtain ⟨j, hj⟩ : ∃ j, j = s - 1 - k := ⟨_, rfl⟩
              have e1 : (a : Int) + (s : Int) - 1 - (k : Int) = (a : Int) + (j : Int) := by omega
              obtain ⟨b', off', he, _, hx⟩ := RM.at_ (RM.below h (bt B1 B5)) (by omega)
              simp only [Option.some.injEq, Addr.mk.injEq, and_true] at he
              obtain ⟨rfl, rfl⟩ := he
              have x1 := hx (a + j) _ (bg_get? (by omega))
              have x2 := hx (a + k) _ (bg_get? (by omega))
              simp only [f8] at x1 x2
              have hbk := hsc k h0
              have lj := (bg l (a + j)).toNat_lt
              have lk := (bg l (a + k)).toNat_lt
              have ew : IntKind.u64.wrap ((bg l (a + k)).toNat : Int) = ((bg l (a + k)).toNat : Int) := IntWalk.u64_in _ (by omega)
              have hd5 : (digs (hi8 C k)).length ≤ 100 := by have := digs_len_le.2 (Nat.lt_trans (hi8_lt C k (by rw [HCl.out]; omega)) (pow_wm (s := k) (m := 17) (by omega))); omega
              have hT := rtimes_any A5 (some ⟨wr.heap.size, 0, none⟩) c5 1 _ 1 (digs (hi8 C k)) [256] (wr.alloc (.cells #[.int .u32 (256 : Nat)] 53)) rfl rfl (st O5.rw (bal _ _)) ((RW.one wr 53 (show 256 < 4294967296 by omega)).more (by simp)) (by omega) (by simp)
              rw [val_digs, val_one] at hT
              have hO := fun w' => rof_any ((bg l (a + k)).toNat : Int) w' (by omega) (by omega)
              simp only [Int.toNat_natCast] at hO
              have hd6 : (digs (hi8 C k * 256)).length ≤ 200 := by have := digs_mul (hi8 C k) 256; rw [digs_one (n := 256) (by omega) (by omega)] at this; simp only [List.length_singleton] at this; omega
              have hd7 : (digs (bg l (a + k)).toNat).length ≤ 2 := digs_u64 (by omega)
              have HJ := Lib.hid hj
              clear hj hd5
              go_wp2_with fail
              refine hT.mono ?_; rintro e w6 ⟨A6, c6, rfl, O6, B6⟩
              go_wp2_with fail
              refine (hO w6).mono ?_; rintro e w7 ⟨A7, c7, rfl, O7, B7⟩
              have hP := rplus_any A6 A7 c6 c7 _ _ (digs (hi8 C k * 256)) (digs (bg l (a + k)).toNat) w7 rfl rfl (st O6.rw B7) O7.rw (by omega) (by omega)
              rw [val_digs, val_digs, ← hbk.out] at hP
              go_wp2_with fail
              refine hP.mono ?_; rintro e w8 ⟨A8, c8, rfl, O8, B8⟩
              go_wp2_with fail
              go_roundg (s - (k + 1))
              case measure => omega
              case rel => exact ⟨k + 1, A8, c8, by omega, rfl, by go_num, rfl, O8.base_le (by have := B5.size; have := (bal wr (.cells #[.int .u32 (256 : Nat)] 53)).size; have := B6.size; have := B7.size; omega), B5.trans ((bt (bt (bt (bal _ _) B6) B7) B8).mono B5.size)⟩
            · obtain rfl : k = s := by omega
              have hv : hi8 C k = lv C := by have := hi8_all C; rw [HCl.out] at this; exact this
              rw [hv] at O5 ⊢
              clear hv h0
              go_wp2_with fail
              refine (zero_any _).mono ?_; rintro e w6 ⟨D6, rfl, O6, B6⟩
              have Bo := bal wr (.cells #[.int .u32 (1 : Int)] 53)
              have z5 : (wr.alloc (.cells #[.int .u32 (1 : Int)] 53)).heap.size = wr.heap.size + 1 := by simp
              have ON : OW (wr.alloc (.cells #[.int .u32 (1 : Int)] 53)) wr.heap.size (some ⟨wr.heap.size, 0, none⟩) 1 [1] := OW.lit wr [1] (by simp) (by rw [← digs_one1]; exact B32_digs 1)
              have B7 := bal w6 (.cells #[.bool false, .slice A5 (digs (lv C)).length c5, .slice (some ⟨wr.heap.size, 0, none⟩) 1 1, .bool false, .slice none 0 0, .slice D6 1 1] 27)
              have S7 := SB.new w6 [.bool false, .slice A5 (digs (lv C)).length c5, .slice (some ⟨wr.heap.size, 0, none⟩) 1 1, .bool false, .slice none 0 0, .slice D6 1 1] 27
              have hbr : w.heap.size < wr.heap.size := (S1.nx B5).2
              have hb1 : w.heap.size < (w.alloc (.cells #[.bool false, .slice none 0 0, .slice none 0 0, .bool false, .slice none 0 0, .slice none 0 0] 27)).heap.size := S1.2
              have hRC := (((((S1.nx B5).nx Bo).nx B6).nx B7)).rc (n := 6)
              have hb6 : wr.heap.size < w6.heap.size := by have := Bo.size; have := B6.size; omega
              have hsz := rsize_any A5 c5 _ (digs (lv C)) (w6.alloc (.cells #[.bool false, .slice A5 (digs (lv C)).length c5, .slice (some ⟨wr.heap.size, 0, none⟩) 1 1, .bool false, .slice none 0 0, .slice D6 1 1] 27)) rfl (st (st (st O5.rw Bo) B6) B7)
              rw [val_digs] at hsz
              have e8 : IntKind.i64.wrap (8 * (k : Int)) = 8 * (k : Int) := IntWalk.i64_in _ (by omega)
              go_wp2_with fail
              refine hsz.mono ?_; rintro e w' ⟨rfl, rfl⟩
              have hbz : w.heap.size < (wr.alloc (.cells #[.int .u32 (1 : Int)] 53)).heap.size + 1 := by rw [z5]; omega
              go_wp2_with (refine wp_st6 rfl (.tmp 10) (.tmp 78) rfl _ rfl _ _ _ _ _ _ rfl hRC rfl rfl rfl rfl rfl rfl ?_)
              have s6 := hRC.put6 (.bool false) (.slice A5 (digs (lv C)).length c5) (.slice (some ⟨wr.heap.size, 0, none⟩) 1 1) (.bool false) (.slice none 0 0) (.slice D6 1 1)
              have BZ := wr6_below (b := w.heap.size) (bt (bt (bt (bt B1 B5) Bo) B6) B7) (Nat.le_refl _) (.bool false) (.slice A5 (digs (lv C)).length c5) (.slice (some ⟨wr.heap.size, 0, none⟩) 1 1) (.bool false) (.slice none 0 0) (.slice D6 1 1)
              have Oa := (O5.below (bt (bt Bo B6) B7) (Nat.le_refl _)).put6 (b := w.heap.size) hb1 (.bool false) (.slice A5 (digs (lv C)).length c5) (.slice (some ⟨wr.heap.size, 0, none⟩) 1 1) (.bool false) (.slice none 0 0) (.slice D6 1 1)
              have Ob := (ON.below (bt B6 B7) (Nat.le_refl _)).put6 (b := w.heap.size) hbr (.bool false) (.slice A5 (digs (lv C)).length c5) (.slice (some ⟨wr.heap.size, 0, none⟩) 1 1) (.bool false) (.slice none 0 0) (.slice D6 1 1)
              have Od := (O6.below B7 (Nat.le_refl _)).put6 (b := w.heap.size) hbz (.bool false) (.slice A5 (digs (lv C)).length c5) (.slice (some ⟨wr.heap.size, 0, none⟩) 1 1) (.bool false) (.slice none 0 0) (.slice D6 1 1)
              have r0' := s6.cell 0
              have r1' := s6.cell 1
              have r2' := s6.cell 2
              have r3' := s6.cell 3
              have r4' := s6.cell 4
              have r5' := s6.cell 5
              refine bodyPost_ret (v := .tuple #[.agg #[.bool false, .slice A5 (digs (lv C)).length c5, .slice (some ⟨wr.heap.size, 0, none⟩) 1 1, .bool false, .slice none 0 0, .slice D6 1 1], .int .i64 0]) (by simp [results, r0', r1', r2', r3', r4', r5', go_sem]) rfl ?_
              exact ⟨A5, c5, some ⟨wr.heap.size, 0, none⟩, 1, none, 0, D6, 1, rfl, Oa.base_le (Nat.le_of_lt hb1), Ob.base_le (Nat.le_of_lt hbr), OW.nil _ _, Od.base_le (Nat.le_of_lt hbz), BZ⟩

end Go.Proofs.Ytabcnpcfknlmlaa
