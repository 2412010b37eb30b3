/- Plain: the two ends of bytes; what a sign makes of them. -/
import Derived.Test.YtabcnpcfknlmlaaGQ
import Derived.Test.YtabcnpcfknlmlaaGG
import Derived.Test.YtabcnpcfknlmlaaGI
import Derived.Test.YtabcnpcfknlmlaaGP
namespace Go.Proofs.Ytabcnpcfknlmlaa
open Go.RowKit

theorem leB_all (l : List UInt8) (big : Bool) : leB l 0 l.length big = if big = true then l.reverse else l := by
  unfold leB
  simp
theorem getQ_all {l : List UInt8} (h1 : 1 ≤ l.length) (h2 : l.length ≤ 64) (big signed : Bool) : getQ l 0 (l.length : Int) big signed = (rwq ((getI l 0 l.length big signed : Int) : Rat), rwq 0, 0) := by
  unfold getQ
  rw [show inB l.length 0 (l.length : Int) = true from decide_eq_true ⟨by omega, by omega, by omega, by omega⟩, if_pos rfl]
  rfl
theorem ends_big {l : List UInt8} (h1 : 1 ≤ l.length) (h2 : l.length ≤ 64) : getQ l 0 (l.length : Int) true false = (rwq (((lv l.reverse : Nat) : Int) : Rat), rwq 0, 0) := by
  rw [getQ_all h1 h2]
  unfold getI negB
  rw [leB_all]
  rfl
theorem ends_little {l : List UInt8} (h1 : 1 ≤ l.length) (h2 : l.length ≤ 64) : getQ l.reverse 0 (l.length : Int) false false = (rwq (((lv l.reverse : Nat) : Int) : Rat), rwq 0, 0) := by
  have h := getQ_all (l := l.reverse) (by simpa using h1) (by simpa using h2) false false
  unfold getI negB at h
  rw [leB_all] at h
  rw [List.length_reverse] at h
  exact h
theorem ends_signed {l : List UInt8} (h1 : 1 ≤ l.length) (h2 : l.length ≤ 64) : getQ l 0 (l.length : Int) true true =
    (rwq ((if 128 ≤ (bg l 0).toNat then ((lv l.reverse : Nat) : Int) - 256 ^ l.length else ((lv l.reverse : Nat) : Int) : Int) : Rat), rwq 0, 0) := by
  rw [getQ_all h1 h2]
  unfold getI negB
  rw [leB_all, if_pos rfl, bg_rev (by omega), show l.length - 1 - (l.length - 1) = 0 by omega]
  simp only [Bool.true_and, decide_eq_true_eq]
theorem lv_rev_lt (l : List UInt8) : lv l.reverse < 256 ^ l.length := by
  have := lv_lt l.reverse
  rwa [List.length_reverse] at this
theorem qw_256 (i : Int) {n : Nat} (hn : n ≤ 64) (h : i.natAbs ≤ 256 ^ n) : qw ((i : Int) : Rat) ≤ 512 := by
  have h2 : (256 : Nat) ^ n < Wp 17 := pow_wx (by omega)
  exact Nat.le_trans (qw_int i 17 (by omega) (by omega)) (by omega)
theorem natAbs_256 (n : Nat) : ((256 : Int) ^ n).natAbs = 256 ^ n := by rw [Int.natAbs_pow]; rfl
theorem rp_256 (n : Nat) : rp ((256 : Int) : Rat) n = (((256 : Int) ^ n : Int) : Rat) := by
  induction n with
  | zero => rfl
  | succ k ih =>
    show rp ((256 : Int) : Rat) k * ((256 : Int) : Rat) = _
    rw [ih, Int.pow_succ, Rat.intCast_mul]
theorem stop_256 {n : Nat} (hn : n ≤ 64) : stopB ((256 : Int) : Rat) 0 n = false := by
  induction n with
  | zero => rfl
  | succ k ih =>
    show (stopB ((256 : Int) : Rat) 0 k || bigB (cpow ((256 : Int) : Rat) 0 (k + 1))) = false
    rw [ih (by omega), Bool.false_or, cpow_real, rp_256]
    unfold bigB
    rw [decide_eq_true (show qw ((((256 : Int) ^ (k + 1) : Int) : Rat)) ≤ 512 ∧ qw (0 : Rat) ≤ 512 from ⟨qw_256 _ hn (by rw [natAbs_256]; exact Nat.le_refl _), qw_small 0 (by decide)⟩)]
    rfl
theorem expt_256 {n : Nat} (h1 : 1 ≤ n) (h2 : n ≤ 64) : qexptA (rwq ((256 : Int) : Rat)) (rwq 0) (n : Int) = (rwq (((256 : Int) ^ n : Int) : Rat), rwq 0, 0) := by
  have q0 : qw (0 : Rat) ≤ 512 := qw_small 0 (by decide)
  unfold qexptA
  rw [if_pos (nB_q (qw_small 256 (by decide)) q0), qv_rwq, qv_rwq]
  unfold exptQ
  rw [if_neg (by omega), if_neg (by omega), if_neg (by omega), Int.natAbs_natCast, stop_256 h2, if_neg (by simp), if_neg (by omega), cpow_real, rp_256]
  exact fitQ_ok (qw_256 _ h2 (by rw [natAbs_256]; exact Nat.le_refl _)) q0
theorem sub_256 {X n : Nat} (hn : n ≤ 64) (hX : X < 256 ^ n) : qsubA (rwq (((X : Nat) : Int) : Rat)) (rwq 0) (rwq (((256 : Int) ^ n : Int) : Rat)) (rwq 0) = (rwq (((X : Int) - 256 ^ n : Int) : Rat), rwq 0, 0) := by
  have q0 : qw (0 : Rat) ≤ 512 := qw_small 0 (by decide)
  have qX : qw ((((X : Nat) : Int) : Rat)) ≤ 512 := qw_256 _ hn (by omega)
  have qF : qw ((((256 : Int) ^ n : Int) : Rat)) ≤ 512 := qw_256 _ hn (by rw [natAbs_256]; exact Nat.le_refl _)
  have hF : (256 : Int) ^ n = ((256 ^ n : Nat) : Int) := by rw [Int.natCast_pow]; rfl
  unfold qsubA
  rw [if_pos ⟨nB_q qX q0, nB_q qF q0⟩, qv_rwq, qv_rwq, qv_rwq]
  rw [show ((((X : Nat) : Int) : Rat)) + -((((256 : Int) ^ n : Int) : Rat)) = ((((X : Int) - 256 ^ n : Int)) : Rat) by rw [Rat.intCast_sub, Rat.sub_eq_add_neg], show (0 : Rat) + -0 = 0 by grind]
  refine fitQ_ok (qw_256 _ hn ?_) q0
  rw [hF]
  omega
theorem cmp_256 {X n : Nat} (hn : n ≤ 64) (hX : X < 256 ^ n) : qcmpA (rwq (((X : Nat) : Int) : Rat)) (rwq 0) (rwq (((256 : Int) ^ n : Int) : Rat)) (rwq 0) = (-1, 0) := by
  have q0 : qw (0 : Rat) ≤ 512 := qw_small 0 (by decide)
  have qX : qw ((((X : Nat) : Int) : Rat)) ≤ 512 := qw_256 _ hn (by omega)
  have qF : qw ((((256 : Int) ^ n : Int) : Rat)) ≤ 512 := qw_256 _ hn (by rw [natAbs_256]; exact Nat.le_refl _)
  have hF : (256 : Int) ^ n = ((256 ^ n : Nat) : Int) := by rw [Int.natCast_pow]; rfl
  have hz : (rwq 0).a = [] := digs_zero
  unfold qcmpA
  have hc : chkN2 true (rwq (((X : Nat) : Int) : Rat)) (rwq 0) (rwq (((256 : Int) ^ n : Int) : Rat)) (rwq 0) = 0 := by
    unfold chkN2
    rw [if_pos ⟨nB_q qX q0, nB_q qF q0⟩, hz]
    rfl
  rw [hc, if_pos rfl, qv_rwq, qv_rwq]
  refine Prod.ext ?_ rfl
  show cmpQ _ _ = -1
  unfold cmpQ
  rw [show ((((X : Nat) : Int) : Rat)) + -((((256 : Int) ^ n : Int) : Rat)) = ((((X : Int) - 256 ^ n : Int)) : Rat) by rw [Rat.intCast_sub, Rat.sub_eq_add_neg]]
  rw [if_pos]
  rw [hF]
  have h3 : (X : Int) - ((256 ^ n : Nat) : Int) < 0 := by omega
  generalize (X : Int) - ((256 ^ n : Nat) : Int) = z at *
  exact decide_eq_true h3
end Go.Proofs.Ytabcnpcfknlmlaa
