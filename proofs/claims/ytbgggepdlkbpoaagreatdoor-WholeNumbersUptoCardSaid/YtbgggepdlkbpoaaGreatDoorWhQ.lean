/- Plain law of WholeNumbers: what each of the calls answers of a whole number of up to 500 bits. -/
import Derived.Test.YtbgggepdlkbpoaaGreatDoorGS
import Derived.Test.YtbgggepdlkbpoaaGreatDoorWhN
import Derived.Test.YtbgggepdlkbpoaaGreatDoorWhD
import Derived.Test.YtbgggepdlkbpoaaGreatDoorTxA
namespace Go.Proofs.YtbgggepdlkbpoaaGreatDoor
open Go.RowKit

/-- a power of 2, hidden -/
@[irreducible] def p9 (k : Nat) : Nat := 2 ^ k
theorem p9_pos (k : Nat) : 0 < p9 k := by unfold p9; exact Nat.pow_pos (by omega)
theorem p9_add (a b : Nat) : p9 (a + b) = p9 a * p9 b := by unfold p9; exact Nat.pow_add ..
theorem p9_1 : p9 1 = 2 := by unfold p9; rfl
theorem p9_11 : p9 11 = 2048 := by unfold p9; rfl
theorem p9_100 : p9 100 = 2 ^ 100 := by unfold p9; rfl
theorem p9_wp {x k n : Nat} (h : x < p9 k) (hk : k ≤ 32 * n) : x < Wp n := by
  unfold p9 at h
  rw [Wp_eq]
  exact Nat.lt_of_lt_of_le h (Nat.pow_le_pow_right (by omega) hk)
theorem p9_blen {x k : Nat} (h : blen x ≤ k) : x < p9 k := by unfold p9; exact blen_le.1 h
theorem p9_256 (s : Nat) : 256 ^ s = p9 (8 * s) := by
  unfold p9
  rw [Nat.pow_mul]
theorem p9_txt {x k : Nat} (hk : 0 < k) (h : x < p9 k) : (txt 16 x).length ≤ k := by
  unfold p9 at h
  exact txt_lenK (r := 16) (by omega) hk h
theorem z5_few {X : Int} (h : X.natAbs < p9 600) : Z5 X := by
  unfold Z5 qw
  rw [qd_int, digs_one1, qt_int]
  refine Nat.max_le.2 ⟨digs_len_le.2 ?_, by simp⟩
  exact p9_wp h (by omega)
theorem z5_rw {X : Int} (h : Z5 X) : wB (rwq ((X : Int) : Rat)) (rwq 0) = true ∧ iv (rwq ((X : Int) : Rat)) = X := z5_w h
theorem len_whole {r i : Rw} (hc : (qlenA r i).2 = 0) (hn : (qlenA r i).1 ≤ 500) : wB r i = true ∧ (iv r).natAbs < p9 501 := by
  unfold qlenA at hc hn
  by_cases hk : bchkN1 r i = 0
  · rw [if_pos hk] at hn
    have hw := bchk1_zero hk
    refine ⟨hw, ?_⟩
    have h500 : p9 501 = p9 500 * 2 := by have := p9_add 500 1; rwa [p9_1] at this
    have hp := p9_pos 500
    dsimp only at hn
    cases hs : r.s with
    | true =>
      rw [hs, if_pos rfl] at hn
      have h1 : blen (-(iv r) - 1).toNat ≤ 500 := by omega
      have h2 := p9_blen h1
      have h3 : iv r = -(val r.a : Int) := by unfold iv; rw [hs, sgn_true]
      omega
    | false =>
      rw [hs, if_neg (by simp)] at hn
      have h1 : blen (val r.a) ≤ 500 := by omega
      have h2 := p9_blen h1
      have h3 : iv r = (val r.a : Int) := by unfold iv; rw [hs, sgn_false]
      omega
  · rw [if_neg hk] at hc
    exact absurd hc hk
theorem up_bounds (X : Int) (h : X.natAbs < p9 501) : (X / ((2 ^ 100 : Nat) : Int)).natAbs < p9 600 ∧ (X / ((2 ^ 100 : Nat) : Int) * ((2 ^ 100 : Nat) : Int)).natAbs < p9 600 ∧ ((fieldN X 0 100 : Nat) : Int).natAbs < p9 600 ∧ X.natAbs < p9 600 := by
  have e1 : p9 600 = p9 501 * p9 99 := p9_add 501 99
  have hp : 2 ≤ p9 99 := by
    have : p9 99 = p9 98 * 2 := by have := p9_add 98 1; rwa [p9_1] at this
    have h1 := p9_pos 98
    omega
  have h5 : p9 501 = 2 ^ 100 * p9 401 := by have := p9_add 100 401; rwa [p9_100] at this
  have h4 : 1 ≤ p9 401 := p9_pos 401
  have hf := fieldN_lt X 0 100
  have hu := up_low X 100
  have hd := Int.natAbs_ediv_le_natAbs X ((2 ^ 100 : Nat) : Int)
  have h6 : 2 ^ 100 ≤ p9 501 := by rw [h5]; exact Nat.le_mul_of_pos_right _ h4
  have h7 : p9 501 * 2 ≤ p9 600 := by rw [e1]; exact Nat.mul_le_mul_left _ hp
  generalize p9 600 = A at *
  generalize p9 501 = B at *
  clear e1 h5 h4 hp
  generalize X / ((2 ^ 100 : Nat) : Int) * ((2 ^ 100 : Nat) : Int) = U at *
  generalize X / ((2 ^ 100 : Nat) : Int) = D at *
  generalize fieldN X 0 100 = L at *
  generalize (2 : Nat) ^ 100 = C at *
  omega
theorem text_len {X : Int} (h : X.natAbs < p9 501) : (numT (txt 16) ((X : Int) : Rat) 0).length ≤ 16384 := by
  unfold numT
  rw [if_pos (show qt 0 = 0 from rfl)]
  unfold ratT fracT
  rw [qt_int, qd_int, if_pos rfl, List.append_nil, List.length_append]
  have h1 := p9_txt (by omega) h
  have h2 : (if qn ((X : Int) : Rat) = true then [(45 : UInt8)] else []).length ≤ 1 := by split <;> simp
  omega
/-- a whole number of few bits: what each call answers -/
theorem whole_facts {r i : Rw} (hc : (qlenA r i).2 = 0) (hn : (qlenA r i).1 ≤ 500) (big : Bool) : ∃ (p T : List UInt8) (lo hi up : Rw),
    putA (List.replicate 64 0) 0 64 big true r i = (p, 0) ∧ getQ p 0 64 big true = (r, i, 0) ∧ p.length = 64 ∧ qfieldA r i 0 100 = (lo, rwq 0, 0) ∧ qshiftA r i (-100) = (hi, rwq 0, 0) ∧ qshiftA hi (rwq 0) 100 = (up, rwq 0, 0) ∧
    qbothA (· ||| ·) up (rwq 0) lo (rwq 0) = (r, i, 0) ∧ qaddA up (rwq 0) lo (rwq 0) = (r, i, 0) ∧ textZ r i 16 = (T, 0) ∧ readZ T 16 = (r, i, 0) ∧ sameB r i r i = true ∧ T.length ≤ 16384 := by
  obtain ⟨hw, hX⟩ := len_whole hc hn
  obtain ⟨e1, e2, z, _⟩ := z5_of hw
  obtain ⟨b1, b2, b3, b4⟩ := up_bounds _ hX
  generalize hXX : iv r = X at *
  have q0 : qw 0 ≤ 512 := by rw [qw_zero]; omega
  have zH := z5_few b1
  have zU := z5_few b2
  have zL := z5_few b3
  have hb1 : bchkN1 r i = 0 := bchk1_of hw
  have hnb : nB r i = true := by rw [e1, e2]; exact nB_rwq z q0
  have hone : ∃ cb, oneA 64 big true r i = (cb, 0) := by
    unfold oneA
    rw [if_pos hnb, if_pos hw]
    have hv : val r.a < p9 501 := by
      have : (iv r).natAbs = val r.a := by
        unfold iv
        cases r.s
        · rw [sgn_false]; simp
        · rw [sgn_true]; simp
      rw [← this, hXX]; exact hX
    have h256 : (256 : Nat) ^ 64 = p9 501 * 2048 := by have := (p9_256 64).trans (p9_add 501 11); rwa [p9_11] at this
    have hok : okS 64 true r.s (val r.a) = true := by
      unfold okS
      rw [h256]
      generalize p9 501 = B at *
      cases r.s
      · rw [if_neg (by simp)]
        simp only [Bool.true_and, Bool.and_eq_true, Bool.not_eq_true', decide_eq_false_iff_not, decide_eq_true_eq]
        omega
      · rw [if_pos rfl]
        simp only [Bool.true_and, decide_eq_true_eq]
        omega
    rw [if_pos hok]
    exact ⟨_, rfl⟩
  obtain ⟨cb, hcb⟩ := hone
  have hcl : cb.length = 64 := by have := oneA_len (s := 64) (big := big) (signed := true) (r := r) (i := i) (by rw [hcb]); rw [hcb] at this; exact this
  have hput : putA (List.replicate 64 0) 0 64 big true r i = (putL (List.replicate 64 0) cb 0, 0) := by
    unfold putA
    rw [if_pos (by unfold inB; simp), show (64 : Int).toNat = 64 from rfl, hcb, if_pos rfl]
    rfl
  have hpl : putL (List.replicate 64 0) cb 0 = cb := by
    unfold putL
    rw [List.take_zero, List.nil_append, hcl, Nat.zero_add, List.drop_eq_nil_of_le (by simp), List.append_nil]
  rw [hpl] at hput
  have hget := (get_put (s := 64) (big := big) (r := r) (i := i) (q := cb) (a := 0) (by omega) (by omega) hcb (by rw [List.drop_zero, List.take_of_length_le (by omega)]) (by omega) (by omega)).1
  have hsh1 : qshiftA r i (-100) = (rwq ((X / ((2 ^ 100 : Nat) : Int) : Int) : Rat), rwq 0, 0) := by
    unfold qshiftA
    rw [if_pos hb1, if_neg (by omega), if_neg (by omega), hXX]
    exact fitQ_ok zH q0
  have hsh2 : qshiftA (rwq ((X / ((2 ^ 100 : Nat) : Int) : Int) : Rat)) (rwq 0) 100 = (rwq ((X / ((2 ^ 100 : Nat) : Int) * ((2 ^ 100 : Nat) : Int) : Int) : Rat), rwq 0, 0) := by
    obtain ⟨w1, w2⟩ := z5_rw zH
    unfold qshiftA
    rw [if_pos (bchk1_of w1), if_neg (by omega), if_pos (by omega), w2]
    exact fitQ_ok zU q0
  have hfd : qfieldA r i 0 100 = (rwq (((fieldN X 0 100 : Nat) : Int) : Rat), rwq 0, 0) := by
    unfold qfieldA
    rw [if_pos hb1, if_neg (by omega), hXX]
    exact fitQ_ok zL q0
  obtain ⟨u1, u2⟩ := z5_rw zU
  obtain ⟨l1, l2⟩ := z5_rw zL
  have hor : qbothA (· ||| ·) (rwq ((X / ((2 ^ 100 : Nat) : Int) * ((2 ^ 100 : Nat) : Int) : Int) : Rat)) (rwq 0) (rwq (((fieldN X 0 100 : Nat) : Int) : Rat)) (rwq 0) = (r, i, 0) := by
    obtain ⟨Z, hz, hq⟩ := op_eq bitOp_or u1 l1
    rw [u2, l2] at hz
    have := or_up_low hz
    subst this
    rw [hq, e1, e2]
    exact fitQ_ok z q0
  have hadd : qaddA (rwq ((X / ((2 ^ 100 : Nat) : Int) * ((2 ^ 100 : Nat) : Int) : Int) : Rat)) (rwq 0) (rwq (((fieldN X 0 100 : Nat) : Int) : Rat)) (rwq 0) = (r, i, 0) := by
    rw [qaddA_q zU q0 zL q0, ← Rat.intCast_add, up_low, show (0 : Rat) + 0 = 0 from Rat.add_zero 0, e1, e2]
    exact fitQ_ok z q0
  have htx : textZ r i 16 = (numT (txt 16) ((X : Int) : Rat) 0, 0) := by
    have := textZ_ok (k := 16) hnb (by unfold rdOk; omega)
    rw [show ((16 : Nat) : Int) = 16 from rfl] at this
    rw [this, e1, e2, qv_rwq, qv_rwq]
  have hrd : readZ (numT (txt 16) ((X : Int) : Rat) 0) 16 = (r, i, 0) := by
    unfold readZ
    rw [if_pos (by omega), show (16 : Int).toNat = 16 from rfl, read_text (by unfold rdOk; omega) z q0 (text_len hX), e1, e2]
  exact ⟨cb, _, _, _, _, hput, hget, hcl, hfd, hsh1, hsh2, hor, hadd, htx, hrd, sameB_self hnb, text_len hX⟩
end Go.Proofs.YtbgggepdlkbpoaaGreatDoor
