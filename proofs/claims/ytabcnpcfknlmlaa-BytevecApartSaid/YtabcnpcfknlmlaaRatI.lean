/- Walks: Int of exact. -/
import Derived.Test.YtabcnpcfknlmlaaRatF
import Derived.Test.YtabcnpcfknlmlaaNatI
import Derived.Laws.Bits64
namespace Go.Proofs.Ytabcnpcfknlmlaa
open Go.RowKit


theorem digs_u64 {k : Nat} (h : k < 18446744073709551616) : (digs k).length ≤ 2 := by
  rw [digs_len_le]
  exact Nat.lt_of_lt_of_le h (by rw [Wp_succ, Wp_succ, Wp_zero]; omega)
set_option maxHeartbeats 4000000 in
theorem int_any (n : Int) (w : World) (h0 : -9223372036854775808 ≤ n) (h1 : n ≤ 9223372036854775807) :
    Calls Try.prog 21 #[.int .i64 n] w (RetN w (rwq (n : Rat)) (rwq 0)) := by
  have B1 := bal w (.cells #[.bool false, .slice none 0 0, .slice none 0 0, .bool false, .slice none 0 0, .slice none 0 0] 27)
  have s1 := SB.new w [.bool false, .slice none 0 0, .slice none 0 0, .bool false, .slice none 0 0, .slice none 0 0] 27
  obtain ⟨q, hq⟩ : ∃ q : Rat, Hid (((sgn false (val []) : Int) : Rat) = q) ∧ Hid (q = 0) := ⟨_, rfl, by show _ = _; rw [sgn_false]; rfl⟩
  obtain ⟨hq, hq0⟩ := hq
  by_cases hn : n < 0
  · obtain ⟨k, hk⟩ : ∃ k : Nat, -n = (k : Int) := Int.eq_ofNat_of_zero_le (by omega)
    have hk64 : k < 18446744073709551616 := by omega
    have hlk := digs_u64 hk64
    obtain ⟨p, hp, hp0⟩ : ∃ p : Rat, Hid (((sgn true k : Int) : Rat) = p) ∧ Hid (p = (n : Rat)) := ⟨_, rfl, by show _ = _; rw [sgn_true, ← hk, Int.neg_neg]⟩
    have hof := of_any (k : Int) (w.alloc (.cells #[.bool false, .slice none 0 0, .slice none 0 0, .bool false, .slice none 0 0, .slice none 0 0] 27)) (by omega) (by omega)
    rw [Int.toNat_natCast] at hof
    have e2 : IntKind.u64.wrap (-IntKind.u64.wrap n) = (k : Int) := by rw [IntKind.wrap_u64, IntKind.wrap_u64]; omega
    have HK := Lib.hid hk
    rw [← hp0.out, ← hq0.out]
    clear hk
    go_enter Try.func21, Try.ntmps21
    go_wp2_with fail
    refine hof.mono ?_; rintro e w3 ⟨A3, c3, rfl, O3, B3⟩
    have hw1 := whole_any true A3 c3 _ (digs k) w3 rfl O3.rw (Nrm_digs _) (by omega)
    rw [val_digs, hp.out] at hw1
    go_wp2_with fail
    refine hw1.mono ?_; rintro e w4 ⟨A4, c4, D4, d4, rfl, O4, P4, B4⟩
    have hw2 := whole_any false none 0 0 [] w4 rfl (RW.nil _ _ _ _) Nrm_nil (by simp)
    rw [hq.out] at hw2
    go_wp2_with fail
    refine hw2.mono ?_; rintro e w5 ⟨A5, c5, D5, d5, rfl, O5, P5, B5⟩
    have s5 := ((s1.nx B3).nx B4).nx B5
    have hRC := s5.rc (n := 6)
    have hb3 : w.heap.size < w3.heap.size := (s1.nx B3).2
    have hb4 : w.heap.size < w4.heap.size := ((s1.nx B3).nx B4).2
    go_wp2_with (refine wp_st6 rfl (.tmp 2) (.tmp 16) rfl _ rfl _ _ _ _ _ _ rfl hRC rfl rfl rfl rfl rfl rfl ?_)
    have s6 := hRC.put6 (.bool (qn p)) (.slice A4 (digs (qt p)).length c4) (.slice D4 (digs (qd p)).length d4) (.bool (qn q)) (.slice A5 (digs (qt q)).length c5) (.slice D5 (digs (qd q)).length d5)
    have B6 := wr6_below (b := w.heap.size) (bt (bt (bt B1 B3) B4) B5) (Nat.le_refl _) (.bool (qn p)) (.slice A4 (digs (qt p)).length c4) (.slice D4 (digs (qd p)).length d4) (.bool (qn q)) (.slice A5 (digs (qt q)).length c5) (.slice D5 (digs (qd q)).length d5)
    have Oa := (O4.below B5 (Nat.le_refl _)).put6 (b := w.heap.size) hb3 (.bool (qn p)) (.slice A4 (digs (qt p)).length c4) (.slice D4 (digs (qd p)).length d4) (.bool (qn q)) (.slice A5 (digs (qt q)).length c5) (.slice D5 (digs (qd q)).length d5)
    have Ob := (P4.below B5 (Nat.le_refl _)).put6 (b := w.heap.size) hb3 (.bool (qn p)) (.slice A4 (digs (qt p)).length c4) (.slice D4 (digs (qd p)).length d4) (.bool (qn q)) (.slice A5 (digs (qt q)).length c5) (.slice D5 (digs (qd q)).length d5)
    have Oc := O5.put6 (b := w.heap.size) hb4 (.bool (qn p)) (.slice A4 (digs (qt p)).length c4) (.slice D4 (digs (qd p)).length d4) (.bool (qn q)) (.slice A5 (digs (qt q)).length c5) (.slice D5 (digs (qd q)).length d5)
    have Od := P5.put6 (b := w.heap.size) hb4 (.bool (qn p)) (.slice A4 (digs (qt p)).length c4) (.slice D4 (digs (qd p)).length d4) (.bool (qn q)) (.slice A5 (digs (qt q)).length c5) (.slice D5 (digs (qd q)).length d5)
    have r0' := s6.cell 0
    have r1' := s6.cell 1
    have r2' := s6.cell 2
    have r3' := s6.cell 3
    have r4' := s6.cell 4
    have r5' := s6.cell 5
    refine bodyPost_ret (v := .agg #[.bool (qn p), .slice A4 (digs (qt p)).length c4, .slice D4 (digs (qd p)).length d4, .bool (qn q), .slice A5 (digs (qt q)).length c5, .slice D5 (digs (qd q)).length d5]) (by simp [results, r0', r1', r2', r3', r4', r5', go_sem]) rfl ?_
    exact ⟨A4, c4, D4, d4, A5, c5, D5, d5, rfl, Oa.base_le (Nat.le_of_lt hb3), Ob.base_le (Nat.le_of_lt hb3), Oc.base_le (Nat.le_of_lt hb4), Od.base_le (Nat.le_of_lt hb4), B6⟩

  · obtain ⟨k, rfl⟩ : ∃ k : Nat, n = (k : Int) := Int.eq_ofNat_of_zero_le (by omega)
    have hk64 : k < 18446744073709551616 := by omega
    have hlk := digs_u64 hk64
    obtain ⟨p, hp, hp0⟩ : ∃ p : Rat, Hid (((sgn false k : Int) : Rat) = p) ∧ Hid (p = ((k : Int) : Rat)) := ⟨_, rfl, by show _ = _; rw [sgn_false]⟩
    have hof := of_any (k : Int) (w.alloc (.cells #[.bool false, .slice none 0 0, .slice none 0 0, .bool false, .slice none 0 0, .slice none 0 0] 27)) (by omega) (by omega)
    rw [Int.toNat_natCast] at hof
    have e2 : IntKind.u64.wrap (k : Int) = (k : Int) := by rw [IntKind.wrap_u64]; omega
    rw [← hp0.out, ← hq0.out]
    go_enter Try.func21, Try.ntmps21
    go_wp2_with fail
    refine hof.mono ?_; rintro e w3 ⟨A3, c3, rfl, O3, B3⟩
    have hw1 := whole_any false A3 c3 _ (digs k) w3 rfl O3.rw (Nrm_digs _) (by omega)
    rw [val_digs, hp.out] at hw1
    go_wp2_with fail
    refine hw1.mono ?_; rintro e w4 ⟨A4, c4, D4, d4, rfl, O4, P4, B4⟩
    have hw2 := whole_any false none 0 0 [] w4 rfl (RW.nil _ _ _ _) Nrm_nil (by simp)
    rw [hq.out] at hw2
    go_wp2_with fail
    refine hw2.mono ?_; rintro e w5 ⟨A5, c5, D5, d5, rfl, O5, P5, B5⟩
    have s5 := ((s1.nx B3).nx B4).nx B5
    have hRC := s5.rc (n := 6)
    have hb3 : w.heap.size < w3.heap.size := (s1.nx B3).2
    have hb4 : w.heap.size < w4.heap.size := ((s1.nx B3).nx B4).2
    go_wp2_with (refine wp_st6 rfl (.tmp 2) (.tmp 16) rfl _ rfl _ _ _ _ _ _ rfl hRC rfl rfl rfl rfl rfl rfl ?_)
    have s6 := hRC.put6 (.bool (qn p)) (.slice A4 (digs (qt p)).length c4) (.slice D4 (digs (qd p)).length d4) (.bool (qn q)) (.slice A5 (digs (qt q)).length c5) (.slice D5 (digs (qd q)).length d5)
    have B6 := wr6_below (b := w.heap.size) (bt (bt (bt B1 B3) B4) B5) (Nat.le_refl _) (.bool (qn p)) (.slice A4 (digs (qt p)).length c4) (.slice D4 (digs (qd p)).length d4) (.bool (qn q)) (.slice A5 (digs (qt q)).length c5) (.slice D5 (digs (qd q)).length d5)
    have Oa := (O4.below B5 (Nat.le_refl _)).put6 (b := w.heap.size) hb3 (.bool (qn p)) (.slice A4 (digs (qt p)).length c4) (.slice D4 (digs (qd p)).length d4) (.bool (qn q)) (.slice A5 (digs (qt q)).length c5) (.slice D5 (digs (qd q)).length d5)
    have Ob := (P4.below B5 (Nat.le_refl _)).put6 (b := w.heap.size) hb3 (.bool (qn p)) (.slice A4 (digs (qt p)).length c4) (.slice D4 (digs (qd p)).length d4) (.bool (qn q)) (.slice A5 (digs (qt q)).length c5) (.slice D5 (digs (qd q)).length d5)
    have Oc := O5.put6 (b := w.heap.size) hb4 (.bool (qn p)) (.slice A4 (digs (qt p)).length c4) (.slice D4 (digs (qd p)).length d4) (.bool (qn q)) (.slice A5 (digs (qt q)).length c5) (.slice D5 (digs (qd q)).length d5)
    have Od := P5.put6 (b := w.heap.size) hb4 (.bool (qn p)) (.slice A4 (digs (qt p)).length c4) (.slice D4 (digs (qd p)).length d4) (.bool (qn q)) (.slice A5 (digs (qt q)).length c5) (.slice D5 (digs (qd q)).length d5)
    have r0' := s6.cell 0
    have r1' := s6.cell 1
    have r2' := s6.cell 2
    have r3' := s6.cell 3
    have r4' := s6.cell 4
    have r5' := s6.cell 5
    refine bodyPost_ret (v := .agg #[.bool (qn p), .slice A4 (digs (qt p)).length c4, .slice D4 (digs (qd p)).length d4, .bool (qn q), .slice A5 (digs (qt q)).length c5, .slice D5 (digs (qd q)).length d5]) (by simp [results, r0', r1', r2', r3', r4', r5', go_sem]) rfl ?_
    exact ⟨A4, c4, D4, d4, A5, c5, D5, d5, rfl, Oa.base_le (Nat.le_of_lt hb3), Ob.base_le (Nat.le_of_lt hb3), Oc.base_le (Nat.le_of_lt hb4), Od.base_le (Nat.le_of_lt hb4), B6⟩


end Go.Proofs.Ytabcnpcfknlmlaa
