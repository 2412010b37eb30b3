/- Plain: what was put is got again (BvQ, without the texts that clash with bits). -/
import Derived.Test.YtbgggepdlkbpoaaGreatDoorGV

namespace Go.Proofs.YtbgggepdlkbpoaaGreatDoor

theorem rwq_pos1W {v : Nat} : rwq (((v : Int)) : Rat) = ⟨false, digs v, [1]⟩ := by rw [rwq_pos, ← digs_one1]; rfl
theorem rwq_zW : rwq 0 = ⟨false, [], [1]⟩ := by rw [← digs_one1, ← digs_zero]; rfl

theorem putL_lenW {l c : List UInt8} {a : Nat} (h : a + c.length ≤ l.length) : (putL l c a).length = l.length := by
  unfold putL; simp; omega
theorem putL_same {l c : List UInt8} {a : Nat} (h : a + c.length ≤ l.length) : ((putL l c a).drop a).take c.length = c := by
  unfold putL
  rw [List.drop_append_of_le_length (by simp; omega), List.drop_take, Nat.sub_self, List.take_zero, List.nil_append, List.take_left]
theorem putL_ahead {p c : List UInt8} {a s : Nat} (h : a + s ≤ p.length) : ((putL p c (a + s)).drop a).take s = (p.drop a).take s := by
  unfold putL
  rw [List.drop_append_of_le_length (by simp; omega), List.take_append_of_le_length (by simp; omega), List.drop_take, List.take_take]
  congr 1; omega
theorem putL_out {l c : List UInt8} {a i : Nat} (h : a + c.length ≤ l.length) (hi : i < l.length) (ho : i < a ∨ a + c.length ≤ i) : bgT (putL l c a) i = bgT l i := by
  unfold bgT putL
  rw [List.getD_eq_getElem?_getD, List.getD_eq_getElem?_getD]
  congr 1
  rcases ho with ho | ho
  · rw [List.getElem?_append_left (by simp; omega), List.getElem?_take, if_pos ho]
  · rw [List.getElem?_append_right (by simp; omega), List.getElem?_append_right (by simp; omega), List.getElem?_drop]
    congr 1
    simp; omega
theorem leB_out {q : List UInt8} {a s u : Nat} {big : Bool} (h : (q.drop a).take s = outB s big u) : leB q a s big = bytesU u s := by
  unfold leB
  rw [h]
  unfold outB
  cases big
  · simp
  · simp
theorem get_put {s : Nat} {big : Bool} {r i : Rw} {q cb : List UInt8} {a : Nat} (h1 : 1 ≤ s) (h64 : s ≤ 64) (ho : oneA s big true r i = (cb, 0)) (hq : (q.drop a).take s = cb) (hl : a + s ≤ q.length) (ha : a < 9223372036854775807) :
    getQ q (a : Int) (s : Int) big true = (r, i, 0) ∧ nB r i = true := by
  unfold oneA at ho
  split at ho
  · rename_i hn
    split at ho
    · rename_i hw
      split at ho
      · rename_i hk
        injection ho with hcb _
        obtain ⟨g1, g2, g3, g4, g5⟩ := wB_int hw
        have hb : leB q a s big = bytesU (uS s r.s (val r.a)) s := leB_out (hq.trans hcb.symm)
        refine ⟨?_, hn⟩
        unfold getQ
        rw [show inB q.length (a : Int) (s : Int) = true by unfold inB; rw [decide_eq_true_eq]; omega, if_pos rfl, Int.toNat_natCast, Int.toNat_natCast]
        have hi : rwq 0 = i := by rw [g3]; exact rwq_zW
        rw [hi]
        have hx : rwq ((getI q a s big true : Int) : Rat) = r := by
          unfold getI negB
          rw [hb]
          have hP : 256 ^ s = 256 ^ (s - 1) * 256 := by rw [← Nat.pow_succ]; congr 1; omega
          have hhi := lv_high (l := bytesU (uS s r.s (val r.a)) s) (n := s - 1) (by rw [bytesU_len]; omega)
          rw [lv_bytesU] at hhi ⊢
          have hpos : 0 < 256 ^ (s - 1) := Nat.pow_pos (by omega)
          obtain ⟨rs, ra, rb⟩ := r
          dsimp only at *
          subst g2
          generalize hv : val ra = v at *
          subst g1
          clear hv hcb hb hq hw hn hi
          unfold okS at hk
          unfold uS at hhi ⊢
          cases rs with
          | true =>
            rw [if_pos rfl] at hk hhi ⊢
            rw [Bool.true_and, decide_eq_true_eq] at hk
            have hv0 : v ≠ 0 := fun h => by have := g4 h; cases this
            have hlt : 256 ^ s - v < 256 ^ s := by have : 0 < 256 ^ s := Nat.pow_pos (by omega); omega
            rw [Nat.mod_eq_of_lt hlt] at hhi ⊢
            rw [Bool.true_and, decide_eq_true (hhi.2 (by omega)), if_pos rfl]
            have e : ((256 ^ s - v : Nat) : Int) - (256 : Int) ^ s = -(v : Int) := by
              have hc : ((256 ^ s : Nat) : Int) = (256 : Int) ^ s := by simp
              have hle : v ≤ 256 ^ s := by omega
              rw [Int.ofNat_sub hle, hc]
              omega
            rw [e]
            unfold rwq
            rw [qn_int, qt_int, qd_int, decide_eq_true (by omega), Int.natAbs_neg, Int.natAbs_natCast, digs_one1]
          | false =>
            rw [if_neg (show ¬ false = true by simp)] at hk hhi ⊢
            simp only [Bool.and_eq_true, Bool.not_eq_true', Bool.true_and, decide_eq_true_eq, decide_eq_false_iff_not] at hk
            rw [Nat.mod_eq_of_lt hk.2] at hhi ⊢
            rw [Bool.true_and, decide_eq_false (fun h => by have := hhi.1 h; omega), if_neg (by simp)]
            exact rwq_pos1W
        rw [hx]
      · simp at ho
    · simp at ho
  · simp at ho
theorem put_ok {l p : List UInt8} {F S : Nat} {big : Bool} {r i : Rw} (h : putA l (F : Int) (S : Int) big true r i = (p, 0)) :
    F + S ≤ l.length ∧ ∃ cb, oneA S big true r i = (cb, 0) ∧ p = putL l cb F ∧ cb.length = S := by
  unfold putA at h
  split at h
  · rename_i hi
    unfold inB at hi
    rw [decide_eq_true_eq] at hi
    rw [Int.toNat_natCast, Int.toNat_natCast] at h
    split at h
    · rename_i h0
      injection h with hp _
      exact ⟨by omega, (oneA S big true r i).1, by rw [← h0], hp.symm, oneA_len h0⟩
    · rename_i h0
      injection h with _ h2
      exact absurd h2 h0
  · simp at h
end Go.Proofs.YtbgggepdlkbpoaaGreatDoor
