/- Walks: Zero, signed, ends, worse of the reference. -/
import Derived.Test.YtkjfpaommbjgbaaRdE
import Derived.Test.YtkjfpaommbjgbaaGC
import Derived.Test.YtkjfpaommbjgbaaGE
namespace Go.Proofs.Ytkjfpaommbjgbaa
open Go.RowKit

theorem rzero_rw (w : World) : Calls Try.prog 38 #[] w (RetRw w (rwq 0)) := by
  have z1 : (w.alloc (.cells #[.bool false, .slice none 0 0, .slice (some ⟨w.heap.size + 1, 0, none⟩) 1 1] 24)).heap.size = w.heap.size + 1 := by simp
  have s1 := (SB.new w [.bool false, .slice none 0 0, .slice (some ⟨w.heap.size + 1, 0, none⟩) 1 1] 24).nx (bal _ (.cells #[.int .u32 (1 : Int)] 52))
  have O1 := OW.lit (w.alloc (.cells #[.bool false, .slice none 0 0, .slice (some ⟨w.heap.size + 1, 0, none⟩) 1 1] 24)) [1] (by simp) (by rw [← digs_one1]; exact B32_digs 1)
  rw [z1] at O1
  have O2 : OW ((w.alloc (.cells #[.bool false, .slice none 0 0, .slice (some ⟨w.heap.size + 1, 0, none⟩) 1 1] 24)).alloc (.cells #[.int .u32 (1 : Int)] 52)) (w.heap.size + 1) (some ⟨w.heap.size + 1, 0, none⟩) 1 [1] := O1
  have r0 := s1.cell 0
  have r1 := s1.cell 1
  have r2 := s1.cell 2
  have ez : rwq 0 = ⟨false, [], [1]⟩ := by unfold rwq; rw [show qn 0 = false from rfl, show qt 0 = 0 from rfl, show qd 0 = 1 from rfl, digs_zero, digs_one1]
  rw [ez]
  clear ez
  go_enter Try.func38, Try.ntmps38
  go_wp2_with fail
  refine bodyPost_ret (v := .agg #[.bool false, .slice none 0 0, .slice (some ⟨w.heap.size + 1, 0, none⟩) 1 1]) (by simp [results, r0, r1, r2, go_sem]) rfl ?_
  exact ⟨none, 0, _, 1, rfl, OW.nil _ _, O2.base_le (Nat.le_succ _), bt (bal _ _) (bal _ _)⟩
theorem drop_at {l : List UInt8} {k : Nat} (h : k < l.length) : ∃ c, l.drop k = c :: l.drop (k + 1) ∧ byt l k = c.toNat := by
  refine ⟨l[k], List.drop_eq_getElem_cons h, ?_⟩
  unfold byt
  rw [List.getD_eq_getElem?_getD, List.getElem?_eq_getElem h]
  rfl
theorem sgn_at {l : List UInt8} {k : Nat} (h : k < l.length) : sgnP (l.drop k) = if byt l k = 43 ∨ byt l k = 45 then (decide (byt l k = 45), true, l.drop (k + 1)) else (false, false, l.drop k) := by
  obtain ⟨c, h1, h2⟩ := drop_at h
  rw [h1, h2]
  show (if c = 43 ∨ c = 45 then (c == 45, true, l.drop (k + 1)) else (false, false, c :: l.drop (k + 1))) = _
  have e43 : (c.toNat = 43) = (c = 43) := propext ⟨fun h => UInt8.toNat.inj h, fun h => by rw [h]; rfl⟩
  have e45 : (c.toNat = 45) = (c = 45) := propext ⟨fun h => UInt8.toNat.inj h, fun h => by rw [h]; rfl⟩
  simp only [e43, e45]
  rfl
theorem sgn_end {l : List UInt8} {k : Nat} (h : ¬ k < l.length) : sgnP (l.drop k) = (false, false, []) := by
  rw [List.drop_eq_nil_of_le (by omega)]
  rfl
theorem unit_at {l : List UInt8} {k : Nat} (h : k + 1 = l.length) : unitB (l.drop k) = (decide (byt l k = 105) || decide (byt l k = 73)) := by
  obtain ⟨c, h1, h2⟩ := drop_at (show k < l.length by omega)
  rw [h1, h2, List.drop_eq_nil_of_le (by omega)]
  unfold unitB
  have e1 : (c.toNat = 105) = (c = 105) := propext ⟨fun h => UInt8.toNat.inj h, fun h => by rw [h]; rfl⟩
  have e2 : (c.toNat = 73) = (c = 73) := propext ⟨fun h => UInt8.toNat.inj h, fun h => by rw [h]; rfl⟩
  simp only [e1, e2, List.cons.injEq, and_true]
theorem unit_no {l : List UInt8} {k : Nat} (h : ¬ k + 1 = l.length) : unitB (l.drop k) = false := by
  have hl : (l.drop k).length ≠ 1 := by rw [List.length_drop]; omega
  unfold unitB
  rw [decide_eq_false (fun e => hl (by rw [e]; rfl)), decide_eq_false (fun e => hl (by rw [e]; rfl))]
  rfl
set_option maxRecDepth 100000 in
theorem rsigned_any (s : ByteArray) (k : Nat) (w : World) : Calls Try.prog 36 #[.string s, .int .i64 (k : Int)] w fun e w' => e = .returned (.bool (sgnP (s.data.toList.drop k)).2.1) ∧ w = w' := by
  have hl := s_len s
  by_cases h : k < s.size
  · rw [sgn_at (by rw [hl]; exact h)]
    clear hl
    have e1 := s_at h
    have d1 : (k : Int) < (s.size : Int) := by omega
    by_cases c1 : byt s.data.toList k = 43
    · rw [if_pos (.inl c1)]
      have t1 : ((byt s.data.toList k : Int) == 43) = true := by rw [c1]; rfl
      clear c1
      go_enter Try.func36, Try.ntmps36
      go_wp2_with fail
      go_ret
      exact ⟨rfl, rfl⟩
    · have t1 : ((byt s.data.toList k : Int) == 43) = false := beq_eq_false_iff_ne.2 (by omega)
      by_cases c2 : byt s.data.toList k = 45
      · rw [if_pos (.inr c2)]
        have t2 : ((byt s.data.toList k : Int) == 45) = true := by rw [c2]; rfl
        clear c1 c2
        go_enter Try.func36, Try.ntmps36
        go_wp2_with fail
        go_ret
        exact ⟨rfl, rfl⟩
      · rw [if_neg (by omega)]
        have t2 : ((byt s.data.toList k : Int) == 45) = false := beq_eq_false_iff_ne.2 (by omega)
        clear c1 c2
        go_enter Try.func36, Try.ntmps36
        go_wp2_with fail
        go_ret
        exact ⟨rfl, rfl⟩
  · rw [sgn_end (by rw [hl]; exact h)]
    have d1 : decide ((k : Int) < (s.size : Int)) = false := decide_eq_false (by omega)
    clear hl
    go_enter Try.func36, Try.ntmps36
    go_wp2_with fail
    go_ret
    exact ⟨rfl, rfl⟩
set_option maxRecDepth 100000 in
theorem rends_any (s : ByteArray) (k : Nat) (w : World) (hs : s.size ≤ 140737488351232) : Calls Try.prog 37 #[.string s, .int .i64 (k : Int)] w fun e w' => e = .returned (.bool (unitB (s.data.toList.drop k))) ∧ w = w' := by
  have hl := s_len s
  have hw : IntKind.i64.wrap ((s.size : Int) - 1) = (s.size : Int) - 1 := IntWalk.i64_in _ (by omega)
  by_cases h : k + 1 = s.size
  · rw [unit_at (by rw [hl]; exact h)]
    clear hl
    have hk : k < s.size := by omega
    have e1 := s_at hk
    have d0 : (k : Int) < (s.size : Int) := by omega
    have d1 : ((k : Int) == (s.size : Int) - 1) = true := beq_iff_eq.2 (by omega)
    by_cases c1 : byt s.data.toList k = 105
    · rw [decide_eq_true c1, Bool.true_or]
      have t1 : ((byt s.data.toList k : Int) == 105) = true := by rw [c1]; rfl
      clear c1 h
      go_enter Try.func37, Try.ntmps37
      go_wp2_with fail
      go_ret
      exact ⟨rfl, rfl⟩
    · have t1 : ((byt s.data.toList k : Int) == 105) = false := beq_eq_false_iff_ne.2 (by omega)
      rw [decide_eq_false c1, Bool.false_or]
      obtain ⟨b, hb⟩ : ∃ b, decide (byt s.data.toList k = 73) = b := ⟨_, rfl⟩
      have t2 : ((byt s.data.toList k : Int) == 73) = b := by
        rw [← hb, Bool.beq_eq_decide_eq]
        exact decide_eq_decide.2 (by omega)
      rw [hb]
      clear c1 h hb
      go_enter Try.func37, Try.ntmps37
      go_wp2_with fail
      go_ret
      exact ⟨rfl, rfl⟩
  · rw [unit_no (by rw [hl]; exact h)]
    have d1 : ((k : Int) == (s.size : Int) - 1) = false := beq_eq_false_iff_ne.2 (by omega)
    clear hl h
    go_enter Try.func37, Try.ntmps37
    go_wp2_with fail
    go_ret
    exact ⟨rfl, rfl⟩
theorem rworse_any (e f : Int) (w : World) : Calls Try.prog 40 #[.int .i64 e, .int .i64 f] w fun x w' => x = .returned (.int .i64 (worseE e f)) ∧ w = w' := by
  unfold worseE
  by_cases h1 : e = 4
  · rw [if_pos (.inl h1)]
    have t1 : (e == 4) = true := beq_iff_eq.2 h1
    clear h1
    go_enter Try.func40, Try.ntmps40
    go_wp2_with fail
    go_ret
    exact ⟨rfl, rfl⟩
  · have t1 : (e == 4) = false := beq_eq_false_iff_ne.2 h1
    by_cases h2 : f = 4
    · rw [if_pos (.inr h2)]
      have t2 : (f == 4) = true := beq_iff_eq.2 h2
      clear h1 h2
      go_enter Try.func40, Try.ntmps40
      go_wp2_with fail
      go_ret
      exact ⟨rfl, rfl⟩
    · rw [if_neg (by simp [h1, h2])]
      have t2 : (f == 4) = false := beq_eq_false_iff_ne.2 h2
      by_cases h3 : e = 0
      · subst h3
        rw [if_neg (by simp)]
        clear h1 h2
        go_enter Try.func40, Try.ntmps40
        go_wp2_with fail
        go_ret
        exact ⟨rfl, rfl⟩
      · rw [if_pos h3]
        have t3 : (e != 0) = true := bne_iff_ne.2 h3
        clear h1 h2 h3
        go_enter Try.func40, Try.ntmps40
        go_wp2_with fail
        go_ret
        exact ⟨rfl, rfl⟩
end Go.Proofs.Ytkjfpaommbjgbaa
