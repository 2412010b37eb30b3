/- One of bytevec's reference, joined. -/
import Derived.Test.YtabcnpcfknlmlaaBvS
import Derived.Test.YtabcnpcfknlmlaaBvQ
namespace Go.Proofs.Ytabcnpcfknlmlaa
open Go.RowKit

theorem cmpQ_int (a b : Int) : cmpQ (a : Rat) (b : Rat) < 0 ↔ a < b := by
  unfold cmpQ
  rw [show (a : Rat) + -(b : Rat) = ((a - b : Int) : Rat) by rw [Rat.intCast_sub, Rat.sub_eq_add_neg], qn_int]
  by_cases h : a < b
  · rw [decide_eq_true (show a - b < 0 by omega), if_pos rfl]
    exact ⟨fun _ => h, fun _ => by decide⟩
  · rw [decide_eq_false (show ¬ a - b < 0 by omega), if_neg (by simp)]
    refine ⟨fun h2 => ?_, fun h2 => absurd h2 h⟩
    split at h2 <;> omega
theorem cmpQ_zero (a : Int) : cmpQ (a : Rat) 0 < 0 ↔ a < 0 := cmpQ_int a 0
theorem rat_int {q : Rat} (h : qd q = 1) : q = ((q.num : Int) : Rat) := Rat.ext rfl h
theorem okS_iff {s PW HW : Nat} {signed : Bool} {X : Int} (hP : 256 ^ s = PW) (hH : PW = 2 * HW) : okS s signed (decide (X < 0)) X.natAbs = true ↔ (if signed = true then -(HW : Int) ≤ X ∧ X < (HW : Int) else 0 ≤ X ∧ X < (PW : Int)) := by
  unfold okS
  rw [hP]
  by_cases h0 : X < 0
  · rw [decide_eq_true h0, if_pos rfl]
    cases signed
    · simp; omega
    · simp; omega
  · rw [decide_eq_false h0, if_neg (by simp)]
    cases signed
    · simp; omega
    · simp; omega

theorem rone_any (s : Nat) (big signed : Bool) (V : Value) (r i : Rw) (w : World) (h1 : 1 ≤ s) (h64 : s ≤ 64) (hV : VN w w.heap.size V r i) :
    Calls Try.prog 41 #[.int .i64 (s : Int), .bool big, .bool signed, V] w (RetBE w (oneA s big signed r i)) := by
  unfold oneA
  by_cases h : nB r i = true
  · rw [if_pos h]
    by_cases hw : wB r i = true
    · rw [if_pos hw]
      obtain ⟨x, y, rfl, rfl, bx, _⟩ := nB_rat h
      obtain ⟨g1, g2, g3, _, _⟩ := wB_int hw
      have hy : y = 0 := by
        have hh : digs (qt y) = [] := by
          have : (rwq y).a = [] := by rw [g3]
          exact this
        exact qt_zero.1 (by rw [← val_digs (qt y), hh]; rfl)
      subst hy
      have hd : qd x = 1 := by
        have : digs (qd x) = [1] := g2
        rw [← val_digs (qd x), this, val_one]
      have hX := rat_int hd
      generalize x.num = X at hX
      subst hX
      clear g1 g2 g3 hd
      rw [show (rwq ((X : Int) : Rat)).s = decide (X < 0) from rfl, show val (rwq ((X : Int) : Rat)).a = X.natAbs from val_digs _]
      obtain ⟨PW, hP⟩ : ∃ PW, 256 ^ s = PW := ⟨_, rfl⟩
      obtain ⟨HW, hH⟩ : ∃ HW, 2 ^ (8 * s - 1) = HW := ⟨_, rfl⟩
      have hPH : PW = 2 * HW := by
        rw [← hP, ← hH, pow8, ← Nat.pow_succ']
        congr 1
        omega
      have hP17 : PW < Wp 17 := by rw [← hP]; exact pow_wm (by omega)
      have hok := fun sg => okS_iff (s := s) (signed := sg) (X := X) hP hPH
      have q1 := qw_int (PW : Int) 17 (by omega) (by rw [Int.natAbs_natCast]; exact hP17)
      have q2 := qw_int (HW : Int) 17 (by omega) (by rw [Int.natAbs_natCast]; omega)
      have q3 := qw_int (-(HW : Int)) 17 (by omega) (by rw [Int.natAbs_neg, Int.natAbs_natCast]; omega)
      have q0 : qw (0 : Rat) ≤ 512 := qw_small 0 (by decide)
      refine rone_main s big signed V ((X : Int) : Rat) w h1 h64 hV bx h hw PW HW (Lib.hid (by rw [← pow8]; exact hP)) (Lib.hid hH) _ _ rfl rfl (uS s (decide (X < 0)) X.natAbs) ?_ ?_ ?_ (by omega) ?_ _ ?_ ?_
      · unfold uS
        split
        · have := digs_mono (a := 256 ^ s - X.natAbs) (b := PW) (by omega)
          have := digs_len_le.2 hP17
          omega
        · have := qw_t ((X : Int) : Rat)
          rw [qt_int] at this
          omega
      · cases signed
        · show qw _ + qw (0 : Rat) ≤ 14000
          omega
        · show qw _ + qw ((-(HW : Int) : Int) : Rat) ≤ 14000
          omega
      · cases signed
        · show qw _ + qw ((PW : Int) : Rat) ≤ 14000
          omega
        · show qw _ + qw ((HW : Int) : Rat) ≤ 14000
          omega
      · intro z1 z2
        have hin : -(PW : Int) ≤ X := by
          cases signed with
          | false =>
            have := (not_congr (cmpQ_zero X)).1 z1
            omega
          | true =>
            have := (not_congr (cmpQ_int X (-(HW : Int)))).1 z1
            omega
        unfold uS
        rw [hP, qn_int]
        by_cases h0 : X < 0
        · rw [decide_eq_true h0, if_pos rfl, if_pos rfl, ← Rat.intCast_add, qt_int]
          omega
        · rw [decide_eq_false h0, if_neg (by simp), if_neg (by simp), qt_int]
      · intro hz
        rw [if_neg]
        intro hk
        rw [hok] at hk
        cases signed with
        | false =>
          rw [if_neg (by simp)] at hk
          rcases hz with hz | hz
          · have := (cmpQ_zero X).1 hz
            omega
          · have := (not_congr (cmpQ_int X (PW : Int))).1 (by have hz' : 0 ≤ cmpQ (X : Rat) ((PW : Int) : Rat) := hz; omega)
            omega
        | true =>
          rw [if_pos rfl] at hk
          rcases hz with hz | hz
          · have := (cmpQ_int X (-(HW : Int))).1 hz
            omega
          · have := (not_congr (cmpQ_int X (HW : Int))).1 (by have hz' : 0 ≤ cmpQ (X : Rat) ((HW : Int) : Rat) := hz; omega)
            omega
      · intro z1 z2
        rw [if_pos]
        rw [hok]
        cases signed with
        | false =>
          rw [if_neg (by simp)]
          have e1 := (not_congr (cmpQ_zero X)).1 z1
          have e2 := (cmpQ_int X (PW : Int)).1 (by have hz' : ¬ 0 ≤ cmpQ (X : Rat) ((PW : Int) : Rat) := z2; omega)
          omega
        | true =>
          rw [if_pos rfl]
          have e1 := (not_congr (cmpQ_int X (-(HW : Int)))).1 z1
          have e2 := (cmpQ_int X (HW : Int)).1 (by have hz' : ¬ 0 ≤ cmpQ (X : Rat) ((HW : Int) : Rat) := z2; omega)
          omega
    · rw [if_neg hw]
      exact rone_type s big signed V r i w hV h hw
  · rw [if_neg h]
    exact rone_bad s big signed V r i w hV h
end Go.Proofs.Ytabcnpcfknlmlaa
