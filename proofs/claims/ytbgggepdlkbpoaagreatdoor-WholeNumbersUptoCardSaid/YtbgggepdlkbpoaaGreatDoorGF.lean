/- Merged texts: PlainI, QRefD, RatR, RatS, RdP, RdQ, Bytes, PlainD, NatR. -/
import Derived.Test.YtbgggepdlkbpoaaGreatDoorGE
import Derived.Test.YtbgggepdlkbpoaaGreatDoorProg
import Derived.Test.YtbgggepdlkbpoaaGreatDoorGA
import Derived.Test.YtbgggepdlkbpoaaGreatDoorGC
namespace Go.Proofs.YtbgggepdlkbpoaaGreatDoor

theorem bit_zero_dvd {n k : Nat} (h : 2 ^ k ∣ n) (h0 : bitN n k = 0) : 2 ^ (k + 1) ∣ n := by
  obtain ⟨m, rfl⟩ := h
  unfold bitN at h0
  rw [Nat.mul_div_cancel_left _ (Nat.pow_pos (by omega))] at h0
  obtain ⟨q, rfl⟩ := Nat.dvd_of_mod_eq_zero h0
  exact ⟨q, by rw [Nat.pow_succ, Nat.mul_assoc]⟩
theorem bit_one_odd {n k : Nat} (h0 : bitN n k ≠ 0) : n / 2 ^ k % 2 = 1 := by unfold bitN at h0; omega
theorem bit_some {n k : Nat} (hn : n ≠ 0) (h : 2 ^ k ∣ n) : k < blen n := by
  have h1 := Nat.le_of_dvd (by omega) h
  rcases Nat.lt_or_ge k (blen n) with h2 | h2
  · exact h2
  · have := blen_le.1 h2; omega
theorem cop_two {n : Nat} (h : n % 2 = 1) (k : Nat) : Nat.Coprime (2 ^ k) n := by
  apply Nat.Coprime.pow_left
  unfold Nat.Coprime
  rw [Nat.gcd_rec, h]
  rfl
/-- what is left of n without its factors of 2 -/
def oddp (n k : Nat) : Prop := 2 ^ k ∣ n ∧ n / 2 ^ k % 2 = 1
theorem gcd_odd_left {n m k : Nat} (h : oddp n k) (hm : m % 2 = 1) : Nat.gcd (n / 2 ^ k) m = Nat.gcd n m := by
  obtain ⟨h1, _⟩ := h
  obtain ⟨q, rfl⟩ := h1
  rw [Nat.mul_div_cancel_left _ (Nat.pow_pos (by omega)), Nat.Coprime.gcd_mul_left_cancel _ (cop_two hm k)]
theorem oddp_bit {n k : Nat} (h : 2 ^ k ∣ n) (h0 : bitN n k ≠ 0) : oddp n k := ⟨h, bit_one_odd h0⟩
/-- the start: the common twos -/
theorem gcd_twos {a b t i j : Nat} (ha : 2 ^ t ∣ a) (hb : 2 ^ t ∣ b) (hor : bitN a t ≠ 0 ∨ bitN b t ≠ 0) (hi : oddp a i) (hj : oddp b j) : Nat.gcd (a / 2 ^ i) (b / 2 ^ j) * 2 ^ t = Nat.gcd a b := by
  obtain ⟨a', rfl⟩ := ha
  obtain ⟨b', rfl⟩ := hb
  have hp : 0 < 2 ^ t := Nat.pow_pos (by omega)
  have uniq : ∀ {n i : Nat}, n % 2 = 1 → oddp (2 ^ t * n) i → 2 ^ t * n / 2 ^ i = n := by
    intro n i hn ⟨h1, h2⟩
    have hle : i ≤ t := by
      rcases Nat.lt_or_ge t i with h | h
      · exfalso
        obtain ⟨d, rfl⟩ := Nat.exists_eq_add_of_lt h
        rw [show t + d + 1 = t + (d + 1) by omega, Nat.pow_add] at h1
        obtain ⟨q, hq⟩ := Nat.dvd_of_mul_dvd_mul_left hp h1
        rw [Nat.pow_succ, Nat.mul_comm (2 ^ d) 2, Nat.mul_assoc] at hq
        omega
      · exact h
    rcases Nat.lt_or_ge i t with h | h
    · exfalso
      obtain ⟨d, rfl⟩ := Nat.exists_eq_add_of_lt h
      rw [show i + d + 1 = i + (d + 1) by omega, Nat.pow_add, Nat.mul_assoc, Nat.mul_div_cancel_left _ (Nat.pow_pos (by omega)), Nat.pow_succ, Nat.mul_comm (2 ^ d) 2, Nat.mul_assoc] at h2
      omega
    · obtain rfl : i = t := by omega
      rw [Nat.mul_div_cancel_left _ hp]
  have half : ∀ {n i : Nat}, oddp (2 ^ t * n) i → Nat.gcd (2 ^ t * n / 2 ^ i) 1 = 1 ∧ ∃ d, n = 2 ^ d * (2 ^ t * n / 2 ^ i) := by
    intro n i ⟨h1, h2⟩
    refine ⟨Nat.gcd_one_right _, ?_⟩
    obtain ⟨q, hq⟩ := h1
    rw [hq, Nat.mul_div_cancel_left _ (Nat.pow_pos (by omega))] at h2 ⊢
    rcases Nat.lt_or_ge i t with h | h
    · exfalso
      obtain ⟨d, rfl⟩ := Nat.exists_eq_add_of_lt h
      rw [show i + d + 1 = i + (d + 1) by omega, Nat.pow_add, Nat.mul_assoc] at hq
      have := Nat.eq_of_mul_eq_mul_left (Nat.pow_pos (by omega)) hq
      rw [← this, Nat.pow_succ, Nat.mul_comm (2 ^ d) 2, Nat.mul_assoc] at h2
      omega
    · obtain ⟨d, rfl⟩ := Nat.exists_eq_add_of_le h
      rw [Nat.pow_add, Nat.mul_assoc] at hq
      exact ⟨d, Nat.eq_of_mul_eq_mul_left hp hq⟩
  rw [Nat.gcd_mul_left, Nat.mul_comm]
  congr 1
  unfold bitN at hor
  rw [Nat.mul_div_cancel_left _ hp, Nat.mul_div_cancel_left _ hp] at hor
  obtain ⟨_, da, ea⟩ := half hi
  obtain ⟨_, db, eb⟩ := half hj
  rcases hor with h | h
  · have e1 := uniq (show a' % 2 = 1 by omega) hi
    rw [e1]
    have hb1 := hj.2
    generalize 2 ^ t * b' / 2 ^ j = v at *
    rw [eb, Nat.gcd_comm a' v, Nat.gcd_comm a' (2 ^ db * v), Nat.Coprime.gcd_mul_left_cancel _ (cop_two (by omega) db)]
  · have e1 := uniq (show b' % 2 = 1 by omega) hj
    rw [e1]
    generalize 2 ^ t * a' / 2 ^ i = v at *
    rw [ea, Nat.Coprime.gcd_mul_left_cancel _ (cop_two (by omega) da)]
theorem gcd_sub {a b k : Nat} (hb : b % 2 = 1) (h : b ≤ a) (ho : oddp (a - b) k) : Nat.gcd ((a - b) / 2 ^ k) b = Nat.gcd a b := by
  rw [gcd_odd_left ho hb]
  exact Nat.gcd_sub_self_left h
theorem odd_lt {a b k : Nat} (hb : 0 < b) (h : b < a) : (a - b) / 2 ^ k < a := Nat.lt_of_le_of_lt (Nat.div_le_self _ _) (by omega)
end Go.Proofs.YtbgggepdlkbpoaaGreatDoor
namespace Go.Proofs.YtbgggepdlkbpoaaGreatDoor
open Go.RowKit


def RetO (w : World) (N : Nat) (e : Ending) (w' : World) : Prop := ∃ k, oddp N k ∧ RetW w (N / 2 ^ k) e w'
theorem bit_eq0 {n k : Nat} (h : bitN n k = 0) : ((bitN n k : Int) == 0) = true := by rw [h]; rfl
theorem bit_ne0 {n k : Nat} (h : bitN n k ≠ 0) : ((bitN n k : Int) == 0) = false := beq_eq_false_iff_ne.2 (by omega)

theorem blen_one_iff {x : Nat} (h : 0 < x) : blen x = 1 ↔ x = 1 := by
  have h1 := blen_le (n := x) (k := 1)
  have h2 := blen_pos (show x ≠ 0 by omega)
  constructor
  · intro h3; have := h1.1 (by omega); omega
  · intro h3; have := h1.2 (by omega); omega
theorem gcd_swap {a b k : Nat} (hb : b % 2 = 1) (h : b ≤ a) (ho : oddp (a - b) k) : Nat.gcd ((a - b) / 2 ^ k) b = Nat.gcd b a := by rw [gcd_sub hb h ho, Nat.gcd_comm]

end Go.Proofs.YtbgggepdlkbpoaaGreatDoor
namespace Go.Proofs.YtbgggepdlkbpoaaGreatDoor
open Go.RowKit

end Go.Proofs.YtbgggepdlkbpoaaGreatDoor
namespace Go.Proofs.YtbgggepdlkbpoaaGreatDoor
open Go.RowKit

/-- a fraction is sound -/
def rsB (s : Bool) (a b : List Nat) : Bool := soundB a && (soundB b && (decide (b.length ≠ 0) && (!(decide (a.length = 0) && s) && (Nat.gcd (val a) (val b) == 1))))
theorem rsB_parts {s : Bool} {a b : List Nat} (h : rsB s a b = true) : soundB a = true ∧ soundB b = true ∧ b.length ≠ 0 ∧ (a.length = 0 → s = false) ∧ Nat.gcd (val a) (val b) = 1 := by
  unfold rsB at h
  simp only [Bool.and_eq_true, decide_eq_true_eq, Bool.not_eq_true', Bool.and_eq_false_iff, decide_eq_false_iff_not, beq_iff_eq] at h
  obtain ⟨h1, h2, h3, h4, h5⟩ := h
  exact ⟨h1, h2, h3, fun h0 => h4.resolve_left (fun h => h h0), h5⟩
theorem soundB_parts {a : List Nat} (h : soundB a = true) : a.length ≤ 512 ∧ digs (val a) = a := by
  unfold soundB at h
  rw [decide_eq_true_eq] at h
  exact ⟨h.1, h.2.symm⟩
/-- a fraction that is sound is a rational number -/
theorem rsB_rat {s : Bool} {a b : List Nat} (h : rsB s a b = true) : ∃ q, qn q = s ∧ digs (qt q) = a ∧ digs (qd q) = b ∧ qw q ≤ 512 := by
  obtain ⟨h1, h2, h3, h4, h5⟩ := rsB_parts h
  obtain ⟨l1, e1⟩ := soundB_parts h1
  obtain ⟨l2, e2⟩ := soundB_parts h2
  have hd : val b ≠ 0 := fun h0 => h3 (by rw [← e2, h0, digs_zero]; rfl)
  obtain ⟨q, q1, q2, q3⟩ := q_of (neg := s) hd h5 (fun h0 => h4 (by rw [← e1, h0, digs_zero]; rfl))
  refine ⟨q, q1, by rw [q2, e1], by rw [q3, e2], ?_⟩
  unfold qw
  rw [q2, q3, e1, e2]
  omega
theorem rsB_of (q : Rat) (h : qw q ≤ 512) : rsB (qn q) (digs (qt q)) (digs (qd q)) = true := by
  have h1 := qw_t q
  have h2 := qw_d q
  unfold rsB soundB
  rw [val_digs, val_digs, q_cop]
  have h3 := qd_pos q
  have h4 : (decide (qt q = 0) && qn q) = false := by
    by_cases h0 : qt q = 0
    · rw [qn_zero h0]; simp
    · rw [decide_eq_false h0]; rfl
  have h5 : decide ((digs (qt q)).length = 0) = decide (qt q = 0) := by rw [decide_eq_decide]; exact digs_len0
  have h6 : (digs (qd q)).length ≠ 0 := fun h => h3 (digs_len0.1 h)
  rw [h5, h4]
  simp only [Bool.and_eq_true, decide_eq_true_eq, Bool.not_false, beq_self_eq_true]
  exact ⟨⟨by omega, trivial⟩, ⟨by omega, trivial⟩, h6, trivial, trivial⟩
theorem rsB_big {q : Rat} (h : 512 < qw q) : rsB (qn q) (digs (qt q)) (digs (qd q)) = false := by
  cases hc : rsB (qn q) (digs (qt q)) (digs (qd q)) with
  | false => rfl
  | true =>
    obtain ⟨h1, h2, _⟩ := rsB_parts hc
    have := (soundB_parts h1).1
    have := (soundB_parts h2).1
    unfold qw at h
    omega
/-- a fraction's value as it came -/
def VR (w : World) (B : Nat) (v : Value) (s : Bool) (a b : List Nat) : Prop := ∃ A c D d, v = .agg #[.bool s, .slice A a.length c, .slice D b.length d] ∧ RW w B A c a ∧ RW w B D d b
theorem VR.step {w w' : World} {B B' : Nat} {v : Value} {s : Bool} {a b : List Nat} (h : VR w B v s a b) (hb : Below B w w') (hB : B ≤ B') : VR w' B' v s a b := by
  obtain ⟨A, c, D, d, e, h1, h2⟩ := h
  exact ⟨A, c, D, d, e, h1.step hb hB, h2.step hb hB⟩
theorem VR.st {w w' : World} {v : Value} {s : Bool} {a b : List Nat} (h : VR w w.heap.size v s a b) (hb : Below w.heap.size w w') : VR w' w'.heap.size v s a b := h.step hb hb.size
theorem RQ.vr {w : World} {B : Nat} {v : Value} {q : Rat} (h : RQ w B v q) : VR w B v (qn q) (digs (qt q)) (digs (qd q)) := h
theorem VR.rq {w : World} {B : Nat} {v : Value} {s : Bool} {a b : List Nat} {q : Rat} (h : VR w B v s a b) (h1 : qn q = s) (h2 : digs (qt q) = a) (h3 : digs (qd q) = b) : RQ w B v q := by
  subst h1 h2 h3; exact h
theorem nrm_of_sound {a : List Nat} (h : soundB a = true) : Nrm a := Nrm_of_digs (soundB_parts h).2.symm
theorem digs_one1 : digs 1 = [1] := digs_one (by omega) (by omega)


set_option maxHeartbeats 2000000 in
theorem ratSound_any (v : Value) (s : Bool) (a b : List Nat) (w : World) (h : VR w w.heap.size v s a b) :
    Calls Tryz.prog 61 #[v] w fun e w' => e = .returned (.bool (rsB s a b)) ∧ Below w.heap.size w w' := by
  obtain ⟨A, c, D, d, rfl, ra, rb⟩ := h
  have B1 := bal w (.cells #[.bool s, .slice A a.length c, .slice D b.length d] 24)
  have s1 := SB.new w [.bool s, .slice A a.length c, .slice D b.length d] 24
  have m0 := s1.cell 0
  have m1 := s1.cell 1
  have m2 := s1.cell 2
  have hs1 := sound_any A c _ a _ rfl (st ra B1)
  have hs2 := sound_any D d _ b _ rfl (st rb B1)
  unfold rsB
  cases h1 : soundB a with
  | false =>
    rw [h1] at hs1
    clear h1
    go_enter Tryz.func61, Tryz.ntmps61
    go_wp2_with fail
    refine hs1.mono ?_; rintro e w' ⟨rfl, rfl⟩
    go_wp2_with fail
    go_ret
    exact ⟨rfl, B1⟩
  | true =>
    rw [h1] at hs1
    cases h2 : soundB b with
    | false =>
      rw [h2] at hs2
      clear h1 h2
      go_enter Tryz.func61, Tryz.ntmps61
      go_wp2_with fail
      refine hs1.mono ?_; rintro e w' ⟨rfl, rfl⟩
      go_wp2_with fail
      refine hs2.mono ?_; rintro e w' ⟨rfl, rfl⟩
      go_wp2_with fail
      go_ret
      exact ⟨rfl, B1⟩
    | true =>
      rw [h2] at hs2
      have na := nrm_of_sound h1
      have nb := nrm_of_sound h2
      have la := (soundB_parts h1).1
      have lb := (soundB_parts h2).1
      clear h1 h2
      by_cases hb0 : b.length = 0
      · have t1 : ((b.length : Int) == 0) = true := by rw [hb0]; rfl
        rw [decide_eq_false (p := b.length ≠ 0) (fun h => h hb0)]
        clear hb0
        go_enter Tryz.func61, Tryz.ntmps61
        go_wp2_with fail
        refine hs1.mono ?_; rintro e w' ⟨rfl, rfl⟩
        go_wp2_with fail
        refine hs2.mono ?_; rintro e w' ⟨rfl, rfl⟩
        go_wp2_with fail
        go_ret
        exact ⟨rfl, B1⟩
      · have t1 : ((b.length : Int) == 0) = false := beq_eq_false_iff_ne.2 (by omega)
        rw [decide_eq_true (p := b.length ≠ 0) hb0]
        have vb : val b ≠ 0 := nrm_pos nb rb.b32 (by omega)
        have hdv := divisor_any A D c d _ _ a b _ rfl rfl (st ra B1) (st rb B1) na nb (by omega) (by omega)
        have hgp : Nat.gcd (val a) (val b) ≠ 0 := Nat.gcd_ne_zero_right vb
        generalize Nat.gcd (val a) (val b) = g at *
        by_cases ha0 : a.length = 0
        · have t2 : ((a.length : Int) == 0) = true := by rw [ha0]; rfl
          rw [decide_eq_true (p := a.length = 0) ha0]
          clear ha0
          cases s with
          | true =>
            go_enter Tryz.func61, Tryz.ntmps61
            go_wp2_with fail
            refine hs1.mono ?_; rintro e w' ⟨rfl, rfl⟩
            go_wp2_with fail
            refine hs2.mono ?_; rintro e w' ⟨rfl, rfl⟩
            go_wp2_with fail
            go_ret
            exact ⟨rfl, B1⟩
          | false =>
            go_enter Tryz.func61, Tryz.ntmps61
            go_wp2_with fail
            refine hs1.mono ?_; rintro e w' ⟨rfl, rfl⟩
            go_wp2_with fail
            refine hs2.mono ?_; rintro e w' ⟨rfl, rfl⟩
            go_wp2_with fail
            refine hdv.mono ?_; rintro e w3 ⟨A3, c3, rfl, O3, B3⟩
            by_cases hg1 : g = 1
            · subst hg1
              rw [digs_one1] at O3 ⊢
              obtain ⟨g3, o3, rfl, _, hx⟩ := O3.rw.at_ (by simp)
              have x0 := hx 0 (by simp)
              rw [show wd [1] 0 = 1 from rfl, Nat.add_zero] at x0
              go_wp2_with fail
              go_ret
              exact ⟨rfl, bt B1 B3⟩
            · by_cases hl1 : (digs g).length = 1
              · have e1 : digs g = [g] := digs_one hgp (by have := digs_len_le.1 (Nat.le_of_eq hl1); rw [Wp_succ, Wp_zero] at this; omega)
                rw [e1] at O3 ⊢
                obtain ⟨g3, o3, rfl, _, hx⟩ := O3.rw.at_ (by simp)
                have x0 := hx 0 (by simp)
                rw [show wd [g] 0 = g from rfl, Nat.add_zero] at x0
                have t3 : ((g : Int) == 1) = false := beq_eq_false_iff_ne.2 (by omega)
                clear e1 hl1
                go_wp2_with fail
                go_ret
                exact ⟨by rw [beq_eq_false_iff_ne.2 hg1]; rfl, bt B1 B3⟩
              · have t3 : (((digs g).length : Int) == 1) = false := beq_eq_false_iff_ne.2 (by omega)
                clear hl1
                go_wp2_with fail
                go_ret
                exact ⟨by rw [beq_eq_false_iff_ne.2 hg1]; rfl, bt B1 B3⟩

        · have t2 : ((a.length : Int) == 0) = false := beq_eq_false_iff_ne.2 (by omega)
          rw [decide_eq_false (p := a.length = 0) ha0]
          go_enter Tryz.func61, Tryz.ntmps61
          go_wp2_with fail
          refine hs1.mono ?_; rintro e w' ⟨rfl, rfl⟩
          go_wp2_with fail
          refine hs2.mono ?_; rintro e w' ⟨rfl, rfl⟩
          go_wp2_with fail
          refine hdv.mono ?_; rintro e w3 ⟨A3, c3, rfl, O3, B3⟩
          by_cases hg1 : g = 1
          · subst hg1
            rw [digs_one1] at O3 ⊢
            obtain ⟨g3, o3, rfl, _, hx⟩ := O3.rw.at_ (by simp)
            have x0 := hx 0 (by simp)
            rw [show wd [1] 0 = 1 from rfl, Nat.add_zero] at x0
            go_wp2_with fail
            go_ret
            exact ⟨rfl, bt B1 B3⟩
          · by_cases hl1 : (digs g).length = 1
            · have e1 : digs g = [g] := digs_one hgp (by have := digs_len_le.1 (Nat.le_of_eq hl1); rw [Wp_succ, Wp_zero] at this; omega)
              rw [e1] at O3 ⊢
              obtain ⟨g3, o3, rfl, _, hx⟩ := O3.rw.at_ (by simp)
              have x0 := hx 0 (by simp)
              rw [show wd [g] 0 = g from rfl, Nat.add_zero] at x0
              have t3 : ((g : Int) == 1) = false := beq_eq_false_iff_ne.2 (by omega)
              clear e1 hl1
              go_wp2_with fail
              go_ret
              exact ⟨by rw [beq_eq_false_iff_ne.2 hg1]; rfl, bt B1 B3⟩
            · have t3 : (((digs g).length : Int) == 1) = false := beq_eq_false_iff_ne.2 (by omega)
              clear hl1
              go_wp2_with fail
              go_ret
              exact ⟨by rw [beq_eq_false_iff_ne.2 hg1]; rfl, bt B1 B3⟩



/-- a fraction as it came -/
structure Rw where
  s : Bool
  a : List Nat
  b : List Nat
/-- a rational number, so taken -/
def rwq (q : Rat) : Rw := ⟨qn q, digs (qt q), digs (qd q)⟩
/-- a number's value as it came -/
def VN (w : World) (B : Nat) (v : Value) (r i : Rw) : Prop := ∃ A1 c1 D1 d1 A2 c2 D2 d2, v = .agg #[.bool r.s, .slice A1 r.a.length c1, .slice D1 r.b.length d1, .bool i.s, .slice A2 i.a.length c2, .slice D2 i.b.length d2] ∧
  RW w B A1 c1 r.a ∧ RW w B D1 d1 r.b ∧ RW w B A2 c2 i.a ∧ RW w B D2 d2 i.b
theorem VN.step {w w' : World} {B B' : Nat} {v : Value} {r i : Rw} (h : VN w B v r i) (hb : Below B w w') (hB : B ≤ B') : VN w' B' v r i := by
  obtain ⟨A1, c1, D1, d1, A2, c2, D2, d2, e, h1, h2, h3, h4⟩ := h
  exact ⟨A1, c1, D1, d1, A2, c2, D2, d2, e, h1.step hb hB, h2.step hb hB, h3.step hb hB, h4.step hb hB⟩
theorem VN.st {w w' : World} {v : Value} {r i : Rw} (h : VN w w.heap.size v r i) (hb : Below w.heap.size w w') : VN w' w'.heap.size v r i := h.step hb hb.size
def nB (r i : Rw) : Bool := rsB r.s r.a r.b && rsB i.s i.a i.b


set_option maxHeartbeats 2000000 in
theorem esound_any (v : Value) (r i : Rw) (w : World) (h : VN w w.heap.size v r i) :
    Calls Tryz.prog 40 #[v] w fun e w' => e = .returned (.bool (nB r i)) ∧ Below w.heap.size w w' := by
  obtain ⟨s1, a1, b1⟩ := r
  obtain ⟨s2, a2, b2⟩ := i
  obtain ⟨A1, c1, D1, d1, A2, c2, D2, d2, rfl, r1, r2, r3, r4⟩ := h
  dsimp only at r1 r2 r3 r4 ⊢
  have B1 := bal w (.cells #[.bool s1, .slice A1 a1.length c1, .slice D1 b1.length d1, .bool s2, .slice A2 a2.length c2, .slice D2 b2.length d2] 26)
  have S1 := SB.new w [.bool s1, .slice A1 a1.length c1, .slice D1 b1.length d1, .bool s2, .slice A2 a2.length c2, .slice D2 b2.length d2] 26
  have m0 := S1.cell 0
  have m1 := S1.cell 1
  have m2 := S1.cell 2
  have h1 := ratSound_any (.agg #[.bool s1, .slice A1 a1.length c1, .slice D1 b1.length d1]) s1 a1 b1 _ ⟨A1, c1, D1, d1, rfl, st r1 B1, st r2 B1⟩
  have h2 := fun w' B => ratSound_any (.agg #[.bool s2, .slice A2 a2.length c2, .slice D2 b2.length d2]) s2 a2 b2 w' ⟨A2, c2, D2, d2, rfl, st (st r3 B1) B, st (st r4 B1) B⟩
  show Calls _ _ _ _ fun e w' => e = .returned (.bool (rsB s1 a1 b1 && rsB s2 a2 b2)) ∧ _
  cases hx : rsB s1 a1 b1 with
  | false =>
    rw [hx] at h1
    clear hx
    go_enter Tryz.func40, Tryz.ntmps40
    go_wp2_with fail
    refine h1.mono ?_; rintro e w3 ⟨rfl, B3⟩
    go_wp2_with fail
    go_ret
    exact ⟨rfl, bt B1 B3⟩
  | true =>
    rw [hx] at h1
    clear hx
    go_enter Tryz.func40, Tryz.ntmps40
    go_wp2_with fail
    refine h1.mono ?_; rintro e w3 ⟨rfl, B3⟩
    have S3 := S1.nx B3
    have n3 := S3.cell 3
    have n4 := S3.cell 4
    have n5 := S3.cell 5
    go_wp2_with fail
    refine (h2 _ B3).mono ?_; rintro e w4 ⟨rfl, B4⟩
    go_wp2_with fail
    go_ret
    exact ⟨by rw [Bool.true_and]; rfl, bt (bt B1 B3) B4⟩


end Go.Proofs.YtbgggepdlkbpoaaGreatDoor
namespace Go.Proofs.YtbgggepdlkbpoaaGreatDoor

section
variable (isD : UInt8 → Bool) (rd : List UInt8 → List Nat × Int) (mk : Bool → List Nat → List Nat → Rw) (zz : Rw)
/-- the digits that a text begins with -/
def digP (s : List UInt8) (w : Int) : List Nat × Bool × List UInt8 × Int :=
  if s.takeWhile isD = [] then ([], false, s, w) else ((rd (s.takeWhile isD)).1, true, s.dropWhile isD, if (rd (s.takeWhile isD)).2 ≠ 0 then 4 else w)
/-- digits, perhaps / and digits -/
def fracP (neg : Bool) (s : List UInt8) (w : Int) : Rw × Bool × List UInt8 × Int :=
  if (digP isD rd s w).2.1 = true ∧ (digP isD rd s w).2.2.1.head? = some 47 then
    (if (digP isD rd (digP isD rd s w).2.2.1.tail (digP isD rd s w).2.2.2).1 = [] then
      (mk neg (digP isD rd s w).1 [1], (digP isD rd (digP isD rd s w).2.2.1.tail (digP isD rd s w).2.2.2).2.1, (digP isD rd (digP isD rd s w).2.2.1.tail (digP isD rd s w).2.2.2).2.2.1,
        if (digP isD rd (digP isD rd s w).2.2.1.tail (digP isD rd s w).2.2.2).2.1 = true ∧ (digP isD rd (digP isD rd s w).2.2.1.tail (digP isD rd s w).2.2.2).2.2.2 = 0 then 3 else (digP isD rd (digP isD rd s w).2.2.1.tail (digP isD rd s w).2.2.2).2.2.2)
    else (mk neg (digP isD rd s w).1 (digP isD rd (digP isD rd s w).2.2.1.tail (digP isD rd s w).2.2.2).1, (digP isD rd (digP isD rd s w).2.2.1.tail (digP isD rd s w).2.2.2).2.1, (digP isD rd (digP isD rd s w).2.2.1.tail (digP isD rd s w).2.2.2).2.2.1, (digP isD rd (digP isD rd s w).2.2.1.tail (digP isD rd s w).2.2.2).2.2.2))
  else (mk neg (digP isD rd s w).1 [1], (digP isD rd s w).2.1, (digP isD rd s w).2.2.1, (digP isD rd s w).2.2.2)
/-- a sign, if there is one: is it -, is there one, what is left -/
def sgnP (s : List UInt8) : Bool × Bool × List UInt8 := match s with
  | [] => (false, false, [])
  | c :: r => if c = 43 ∨ c = 45 then (c == 45, true, r) else (false, false, c :: r)
/-- is an i all that is left? -/
def unitB (s : List UInt8) : Bool := decide (s = [105]) || decide (s = [73])
/-- the program's number: the two parts, is it one, the worst error -/
def numP (s : List UInt8) (w : Int) : Rw × Rw × Bool × Int :=
  if (sgnP s).2.1 = true ∧ unitB (sgnP s).2.2 = true then (zz, mk (sgnP s).1 [1] [1], true, w)
  else match fracP isD rd mk (sgnP s).1 (sgnP s).2.2 w with
    | (re, ok, s2, w2) => if ok = false ∨ s2 = [] then (re, zz, ok, w2)
      else if (sgnP s).2.1 = true ∧ unitB s2 = true then (zz, re, true, w2)
      else if (sgnP s2).2.1 = false then (zz, zz, false, w2)
      else if unitB (sgnP s2).2.2 = true then (re, mk (sgnP s2).1 [1] [1], true, w2)
      else match fracP isD rd mk (sgnP s2).1 (sgnP s2).2.2 w2 with
        | (im, ok3, s4, w4) => (re, im, ok3 && unitB s4, w4)
/-- the reference's piece: what is left, what it is, its error -/
def pieceR (s : List UInt8) (neg : Bool) : Option (List UInt8 × Rw × Int) :=
  if s.takeWhile isD = [] then none
  else if (s.dropWhile isD).head? = some 47 then
    (if (s.dropWhile isD).tail.takeWhile isD = [] then none
    else if (rd (s.takeWhile isD)).2 ≠ 0 ∨ (rd ((s.dropWhile isD).tail.takeWhile isD)).2 ≠ 0 then some ((s.dropWhile isD).tail.dropWhile isD, zz, 4)
    else if (rd ((s.dropWhile isD).tail.takeWhile isD)).1 = [] then some ((s.dropWhile isD).tail.dropWhile isD, zz, 3)
    else some ((s.dropWhile isD).tail.dropWhile isD, mk neg (rd (s.takeWhile isD)).1 (rd ((s.dropWhile isD).tail.takeWhile isD)).1, 0))
  else some (s.dropWhile isD, mk neg (rd (s.takeWhile isD)).1 [1], (rd (s.takeWhile isD)).2)
def worseE (e f : Int) : Int := if e = 4 ∨ f = 4 then 4 else if e ≠ 0 then e else f
/-- the reference's number -/
def bodyR (s : List UInt8) : Option (Rw × Rw × Int) :=
  if (sgnP s).2.1 = true ∧ unitB (sgnP s).2.2 = true then some (zz, mk (sgnP s).1 [1] [1], 0)
  else match pieceR isD rd mk zz (sgnP s).2.2 (sgnP s).1 with
    | none => none
    | some (s2, re, e) => if s2 = [] then some (re, zz, e)
      else if (sgnP s).2.1 = true ∧ unitB s2 = true then some (zz, re, e)
      else if (sgnP s2).2.1 = false then none
      else if unitB (sgnP s2).2.2 = true then some (re, mk (sgnP s2).1 [1] [1], e)
      else match pieceR isD rd mk zz (sgnP s2).2.2 (sgnP s2).1 with
        | none => none
        | some (s4, im, f) => if unitB s4 = true then some (re, im, worseE e f) else none
/-- an error on top of another -/
def overE (w e : Int) : Int := if e = 4 then 4 else if e = 3 then (if w = 0 then 3 else w) else w
variable {isD rd mk zz}
theorem frac_piece (hrd : ∀ ds : List UInt8, ds ≠ [] → ds.all isD = true → (rd ds).2 = 0 ∨ (rd ds).2 = 4) (neg : Bool) (s : List UInt8) (w : Int) :
    (pieceR isD rd mk zz s neg = none → (fracP isD rd mk neg s w).2.1 = false) ∧
    (∀ r q e, pieceR isD rd mk zz s neg = some (r, q, e) → ∃ q', fracP isD rd mk neg s w = (q', true, r, overE w e) ∧ (e = 0 → q' = q) ∧ (e = 0 ∨ e = 3 ∨ e = 4)) := by
  unfold pieceR fracP
  by_cases h1 : s.takeWhile isD = []
  · have hd : digP isD rd s w = ([], false, s, w) := by unfold digP; rw [if_pos h1]
    rw [if_pos h1, hd]
    simp
  · have hd : digP isD rd s w = ((rd (s.takeWhile isD)).1, true, s.dropWhile isD, if (rd (s.takeWhile isD)).2 ≠ 0 then 4 else w) := by unfold digP; rw [if_neg h1]
    rw [if_neg h1, hd]
    have e1 := hrd _ h1 List.all_takeWhile
    generalize s.takeWhile isD = a at *
    generalize s.dropWhile isD = b at *
    rcases hav : rd a with ⟨av, ae⟩
    rw [hav] at e1
    dsimp only at e1 ⊢
    by_cases h2 : b.head? = some 47
    · rw [if_pos h2, if_pos (show true = true ∧ b.head? = some 47 from ⟨rfl, h2⟩)]
      by_cases h3 : b.tail.takeWhile isD = []
      · have hd2 : ∀ w, digP isD rd b.tail w = ([], false, b.tail, w) := fun w => by unfold digP; rw [if_pos h3]
        rw [if_pos h3]
        simp only [hd2]
        simp
      · have hd2 : ∀ w, digP isD rd b.tail w = ((rd (b.tail.takeWhile isD)).1, true, b.tail.dropWhile isD, if (rd (b.tail.takeWhile isD)).2 ≠ 0 then 4 else w) := fun w => by unfold digP; rw [if_neg h3]
        rw [if_neg h3]
        simp only [hd2]
        have e2 := hrd _ h3 List.all_takeWhile
        generalize b.tail.takeWhile isD = c at *
        generalize b.tail.dropWhile isD = d at *
        rcases hcv : rd c with ⟨cv, ce⟩
        rw [hcv] at e2
        dsimp only at e2 ⊢
        clear hd hd2
        unfold overE
        rcases e1 with rfl | rfl
        · rcases e2 with rfl | rfl
          · by_cases h4 : cv = []
            · subst h4
              by_cases hw : w = 0
              · subst hw; simp
              · simp [hw]
            · simp [h4]
          · by_cases h4 : cv = []
            · simp [h4]
            · simp [h4]
        · rcases e2 with rfl | rfl
          · by_cases h4 : cv = []
            · simp [h4]
            · simp [h4]
          · by_cases h4 : cv = []
            · simp [h4]
            · simp [h4]
    · rw [if_neg h2, if_neg (fun h => h2 h.2)]
      unfold overE
      rcases e1 with rfl | rfl
      · simp
      · simp
theorem over_worse {e f : Int} (he : e = 0 ∨ e = 3 ∨ e = 4) (hf : f = 0 ∨ f = 3 ∨ f = 4) : overE (overE 0 e) f = worseE e f := by
  unfold overE worseE
  rcases he with rfl | rfl | rfl <;> rcases hf with rfl | rfl | rfl <;> rfl
/-- the program's number is the reference's -/
theorem num_body (hrd : ∀ ds : List UInt8, ds ≠ [] → ds.all isD = true → (rd ds).2 = 0 ∨ (rd ds).2 = 4) (s : List UInt8) :
    (bodyR isD rd mk zz s = none → (numP isD rd mk zz s 0).2.2.1 = false) ∧
    (∀ re im e, bodyR isD rd mk zz s = some (re, im, e) → ∃ re' im', numP isD rd mk zz s 0 = (re', im', true, e) ∧ (e = 0 → re' = re ∧ im' = im)) := by
  unfold bodyR numP
  by_cases h1 : (sgnP s).2.1 = true ∧ unitB (sgnP s).2.2 = true
  · rw [if_pos h1, if_pos h1]
    simp
  rw [if_neg h1, if_neg h1]
  have k1 := frac_piece (mk := mk) (zz := zz) (isD := isD) hrd (sgnP s).1 (sgnP s).2.2 0
  cases hp : pieceR isD rd mk zz (sgnP s).2.2 (sgnP s).1 with
  | none =>
    have k2 := k1.1 hp
    rcases hf : fracP isD rd mk (sgnP s).1 (sgnP s).2.2 0 with ⟨re, ok, s2, w2⟩
    rw [hf] at k2
    dsimp only at k2 ⊢
    subst k2
    simp
  | some t =>
    obtain ⟨s2, re, e⟩ := t
    obtain ⟨q, hf, hq, he⟩ := k1.2 _ _ _ hp
    rw [hf]
    dsimp only
    have h00 : overE 0 e = e := by unfold overE; rcases he with rfl | rfl | rfl <;> rfl
    by_cases h2 : s2 = []
    · rw [if_pos h2, if_pos (.inr h2), h00]
      simp only [reduceCtorEq, false_imp_iff, Option.some.injEq, Prod.mk.injEq, true_and]
      rintro re1 im1 e1 ⟨rfl, rfl, rfl⟩
      exact ⟨q, zz, ⟨rfl, rfl, rfl⟩, fun h => ⟨hq h, rfl⟩⟩
    rw [if_neg h2, if_neg (show ¬ (true = false ∨ s2 = []) by simp [h2])]
    by_cases h3 : (sgnP s).2.1 = true ∧ unitB s2 = true
    · rw [if_pos h3, if_pos h3, h00]
      simp only [reduceCtorEq, false_imp_iff, Option.some.injEq, Prod.mk.injEq, true_and]
      rintro re1 im1 e1 ⟨rfl, rfl, rfl⟩
      exact ⟨zz, q, ⟨rfl, rfl, rfl⟩, fun h => ⟨rfl, hq h⟩⟩
    rw [if_neg h3, if_neg h3]
    by_cases h4 : (sgnP s2).2.1 = false
    · rw [if_pos h4, if_pos h4]
      simp
    rw [if_neg h4, if_neg h4]
    by_cases h5 : unitB (sgnP s2).2.2 = true
    · rw [if_pos h5, if_pos h5, h00]
      simp only [reduceCtorEq, false_imp_iff, Option.some.injEq, Prod.mk.injEq, true_and]
      rintro re1 im1 e1 ⟨rfl, rfl, rfl⟩
      exact ⟨q, _, ⟨rfl, rfl, rfl⟩, fun h => ⟨hq h, rfl⟩⟩
    rw [if_neg h5, if_neg h5]
    have k3 := frac_piece (mk := mk) (zz := zz) (isD := isD) hrd (sgnP s2).1 (sgnP s2).2.2 (overE 0 e)
    cases hp2 : pieceR isD rd mk zz (sgnP s2).2.2 (sgnP s2).1 with
    | none =>
      have k4 := k3.1 hp2
      rcases hf2 : fracP isD rd mk (sgnP s2).1 (sgnP s2).2.2 (overE 0 e) with ⟨im, ok3, s4, w4⟩
      rw [hf2] at k4
      dsimp only at k4 ⊢
      subst k4
      simp
    | some t =>
      obtain ⟨s4, im, f⟩ := t
      obtain ⟨q2, hf2, hq2, hfe⟩ := k3.2 _ _ _ hp2
      rw [hf2]
      dsimp only
      by_cases h6 : unitB s4 = true
      · rw [if_pos h6, h6, over_worse he hfe]
        simp only [reduceCtorEq, false_imp_iff, Option.some.injEq, Prod.mk.injEq, true_and, Bool.and_self]
        rintro re1 im1 e1 ⟨rfl, rfl, rfl⟩
        refine ⟨q, q2, ⟨rfl, rfl, rfl⟩, fun h => ?_⟩
        have : e = 0 ∧ f = 0 := by
          unfold worseE at h
          rcases he with rfl | rfl | rfl <;> rcases hfe with rfl | rfl | rfl <;> simp_all
        exact ⟨hq this.1, hq2 this.2⟩
      · have h6' : unitB s4 = false := by simpa using h6
        rw [if_neg h6, h6']
        simp
end
end Go.Proofs.YtbgggepdlkbpoaaGreatDoor
namespace Go.Proofs.YtbgggepdlkbpoaaGreatDoor

section
variable {isD : UInt8 → Bool} {rd : List UInt8 → List Nat × Int} {mk : Bool → List Nat → List Nat → Rw} {zz : Rw} {dt : Nat → List UInt8}
theorem take_dt {a r : List UInt8} (h : ∀ c ∈ a, isD c = true) (hr : ∀ c, r.head? = some c → isD c = false) : (a ++ r).takeWhile isD = a ∧ (a ++ r).dropWhile isD = r := by
  induction a with
  | nil =>
    cases r with
    | nil => exact ⟨rfl, rfl⟩
    | cons c r =>
      have := hr c rfl
      simp [this]
  | cons x a ih =>
    have h1 := h x (by simp)
    have h2 := ih fun c hc => h c (by simp [hc])
    simp [h1, h2.1, h2.2]
/-- a fraction's text without a sign -/
def fracT (dt : Nat → List UInt8) (t d : Nat) : List UInt8 := dt t ++ if d = 1 then [] else 47 :: dt d
def ratT (dt : Nat → List UInt8) (q : Rat) : List UInt8 := (if qn q = true then [45] else []) ++ fracT dt (qt q) (qd q)
/-- what is asked of digits -/
structure DigT (isD : UInt8 → Bool) (rd : List UInt8 → List Nat × Int) (dt : Nat → List UInt8) : Prop where
  dig : ∀ n, ∀ c ∈ dt n, isD c = true
  some_ : ∀ n, dt n ≠ []
  no : isD 43 = false ∧ isD 45 = false ∧ isD 47 = false ∧ isD 105 = false ∧ isD 73 = false
theorem DigT.take (h : DigT isD rd dt) (n : Nat) {r : List UInt8} (hr : ∀ c, r.head? = some c → isD c = false) : (dt n ++ r).takeWhile isD = dt n ∧ (dt n ++ r).dropWhile isD = r := take_dt (h.dig n) hr
theorem frac_text (h : DigT isD rd dt) (neg : Bool) {t d : Nat} (ht : rd (dt t) = (digs t, 0)) (hd : rd (dt d) = (digs d, 0)) (hd0 : d ≠ 0) {r : List UInt8} (hr : ∀ c, r.head? = some c → isD c = false ∧ c ≠ 47) :
    fracP isD rd mk neg (fracT dt t d ++ r) 0 = (mk neg (digs t) (digs d), true, r, 0) := by
  have hr1 : ∀ c, r.head? = some c → isD c = false := fun c hc => (hr c hc).1
  unfold fracT fracP
  by_cases h1 : d = 1
  · subst h1
    rw [if_pos rfl, List.append_nil]
    obtain ⟨e1, e2⟩ := h.take t hr1
    have hdg : digP isD rd (dt t ++ r) 0 = (digs t, true, r, 0) := by
      unfold digP
      rw [e1, e2, if_neg (h.some_ t), ht]; rfl
    rw [hdg]
    have hn : ¬ (true = true ∧ r.head? = some 47) := fun hh => (hr 47 hh.2).2 rfl
    dsimp only
    rw [if_neg hn, digs_one1]
  · rw [if_neg h1, List.append_assoc, List.cons_append]
    obtain ⟨e1, e2⟩ := h.take t (r := 47 :: (dt d ++ r)) (fun c hc => by simp at hc; subst hc; exact h.no.2.2.1)
    obtain ⟨e3, e4⟩ := h.take d hr1
    have hdg : digP isD rd (dt t ++ 47 :: (dt d ++ r)) 0 = (digs t, true, 47 :: (dt d ++ r), 0) := by
      unfold digP
      rw [e1, e2, if_neg (h.some_ t), ht]; rfl
    have hdg2 : digP isD rd (dt d ++ r) 0 = (digs d, true, r, 0) := by
      unfold digP
      rw [e3, e4, if_neg (h.some_ d), hd]; rfl
    have hne : digs d ≠ [] := fun e => hd0 (by have := val_digs d; rw [e] at this; exact this.symm)
    rw [hdg]
    dsimp only
    rw [if_pos ⟨rfl, rfl⟩, List.tail_cons, hdg2]
    dsimp only
    rw [if_neg hne]
/-- a text that begins with a digit -/
theorem fracT_head (h : DigT isD rd dt) (t d : Nat) (r : List UInt8) : ∃ c s, fracT dt t d ++ r = c :: s ∧ isD c = true := by
  unfold fracT
  cases e : dt t with
  | nil => exact absurd e (h.some_ t)
  | cons c s => exact ⟨c, (s ++ if d = 1 then [] else 47 :: dt d) ++ r, rfl, h.dig t c (by rw [e]; simp)⟩
theorem dig_unit (h : DigT isD rd dt) {c : UInt8} {s : List UInt8} (hc : isD c = true) : unitB (c :: s) = false ∧ sgnP (c :: s) = (false, false, c :: s) := by
  have h1 : c ≠ 105 := fun e => by subst e; rw [h.no.2.2.2.1] at hc; cases hc
  have h2 : c ≠ 73 := fun e => by subst e; rw [h.no.2.2.2.2] at hc; cases hc
  have h3 : c ≠ 43 := fun e => by subst e; rw [h.no.1] at hc; cases hc
  have h4 : c ≠ 45 := fun e => by subst e; rw [h.no.2.1] at hc; cases hc
  constructor
  · unfold unitB; simp [h1, h2]
  · unfold sgnP; simp [h3, h4]
/-- the text of a number -/
def imT (dt : Nat → List UInt8) (q : Rat) : List UInt8 := (if qn q = true then 45 else 43) :: (if qt q = 1 ∧ qd q = 1 then [] else fracT dt (qt q) (qd q))
def numT (dt : Nat → List UInt8) (p q : Rat) : List UInt8 :=
  if qt q = 0 then ratT dt p else (if qt p = 0 then [] else ratT dt p) ++ (imT dt q ++ [105])
theorem sgn_im (q : Rat) (s : List UInt8) : sgnP ((if qn q = true then 45 else 43) :: s) = (qn q, true, s) := by
  unfold sgnP
  cases qn q <;> rfl
theorem num_text (h : DigT isD rd dt) {p q : Rat} (hp : rd (dt (qt p)) = (digs (qt p), 0) ∧ rd (dt (qd p)) = (digs (qd p), 0)) (hq : rd (dt (qt q)) = (digs (qt q), 0) ∧ rd (dt (qd q)) = (digs (qd q), 0))
    (hmk : ∀ x : Rat, mk (qn x) (digs (qt x)) (digs (qd x)) = rwq x) (hz : zz = rwq 0) (hz0 : ∀ x : Rat, qt x = 0 → x = 0) : numP isD rd mk zz (numT dt p q) 0 = (rwq p, rwq q, true, 0) := by
  have hone : ∀ x : Rat, qt x = 1 → qd x = 1 → mk (qn x) [1] [1] = rwq x := fun x h1 h2 => by
    have := hmk x
    rwa [h1, h2, digs_one1] at this
  have r105 : ∀ c, ([105] : List UInt8).head? = some c → isD c = false ∧ c ≠ 47 := fun c hc => by
    simp at hc; subst hc; exact ⟨h.no.2.2.2.1, by decide⟩
  have rim : ∀ (s : List UInt8) c, ((if qn q = true then 45 else 43) :: s : List UInt8).head? = some c → isD c = false ∧ c ≠ 47 := fun s c hc => by
    simp only [List.head?_cons, Option.some.injEq] at hc
    subst hc
    cases qn q
    · exact ⟨h.no.1, by decide⟩
    · exact ⟨h.no.2.1, by decide⟩
  -- the imaginary part, its sign gone
  have him : ∀ (w : Int), w = 0 → ∀ s, s = (if qt q = 1 ∧ qd q = 1 then [] else fracT dt (qt q) (qd q)) ++ [105] →
      (unitB s = true ∧ mk (qn q) [1] [1] = rwq q) ∨ (unitB s = false ∧ fracP isD rd mk (qn q) s w = (rwq q, true, [105], 0)) := fun w hw s hs => by
    subst hw
    by_cases h1 : qt q = 1 ∧ qd q = 1
    · rw [if_pos h1, List.nil_append] at hs
      subst hs
      exact .inl ⟨rfl, hone q h1.1 h1.2⟩
    · rw [if_neg h1] at hs
      subst hs
      obtain ⟨c, s, e, hc⟩ := fracT_head (rd := rd) h (qt q) (qd q) [105]
      refine .inr ⟨by rw [e]; exact (dig_unit h hc).1, ?_⟩
      rw [frac_text h _ hq.1 hq.2 (qd_pos q) r105, hmk]
  have u105 : unitB [105] = true := rfl
  -- the real part, with its sign, and what is behind it
  have hre : ∀ (r : List UInt8), (∀ c, r.head? = some c → isD c = false ∧ c ≠ 47) → ∃ s, (sgnP (ratT dt p ++ r)).2.2 = s ∧ (sgnP (ratT dt p ++ r)).1 = qn p ∧ unitB s = false ∧ fracP isD rd mk (qn p) s 0 = (rwq p, true, r, 0) := fun r hr => by
    unfold ratT
    obtain ⟨c, s, e, hc⟩ := fracT_head (rd := rd) h (qt p) (qd p) r
    have hf : fracP isD rd mk (qn p) (fracT dt (qt p) (qd p) ++ r) 0 = (rwq p, true, r, 0) := by rw [frac_text h _ hp.1 hp.2 (qd_pos p) hr, hmk]
    cases hn : qn p with
    | true =>
      rw [if_pos rfl]
      refine ⟨fracT dt (qt p) (qd p) ++ r, ?_, ?_, by rw [e]; exact (dig_unit h hc).1, by rw [hn] at hf; exact hf⟩
      · simp [sgnP]
      · simp [sgnP]
    | false =>
      rw [if_neg (by decide), List.nil_append, e, (dig_unit h hc).2]
      rw [e, hn] at hf
      exact ⟨c :: s, rfl, rfl, (dig_unit h hc).1, hf⟩
  unfold numT
  by_cases h0 : qt q = 0
  · rw [if_pos h0]
    obtain ⟨s, e1, e2, e3, e4⟩ := hre [] (fun c hc => by cases hc)
    rw [List.append_nil] at e1 e2
    unfold numP
    rw [e1, e2, e3, e4, hz0 q h0, hz]
    simp
  rw [if_neg h0]
  by_cases h1 : qt p = 0
  · rw [if_pos h1, List.nil_append]
    unfold imT numP
    rw [List.cons_append, sgn_im, hz0 p h1, hz]
    dsimp only
    rcases him 0 rfl _ rfl with ⟨k1, k2⟩ | ⟨k1, k2⟩
    · rw [k1, k2]; simp
    · rw [k1, k2]; simp [u105]
  · rw [if_neg h1]
    unfold imT
    rw [List.cons_append]
    obtain ⟨s, e1, e2, e3, e4⟩ := hre _ (rim ((if qt q = 1 ∧ qd q = 1 then [] else fracT dt (qt q) (qd q)) ++ [105]))
    have hun : unitB ((if qn q = true then 45 else 43) :: ((if qt q = 1 ∧ qd q = 1 then [] else fracT dt (qt q) (qd q)) ++ [105])) = false := by
      unfold unitB
      cases qn q <;> simp
    unfold numP
    rw [e1, e2, e3, e4]
    dsimp only
    rw [hun, sgn_im]
    dsimp only
    rcases him 0 rfl _ rfl with ⟨k1, k2⟩ | ⟨k1, k2⟩
    · rw [k1, k2]; simp
    · rw [k1, k2]; simp [u105]
end
end Go.Proofs.YtbgggepdlkbpoaaGreatDoor
namespace Go.Proofs.YtbgggepdlkbpoaaGreatDoor
open Go.RowKit

/-- a byte's cell -/
def f8 (x : UInt8) : Value := .int .u8 (x.toNat : Int)
def RB (w : World) (B : Nat) (A : Option Addr) (c : Nat) (l : List UInt8) : Prop := RL f8 w B A c l
def OB (w : World) (base : Nat) (A : Option Addr) (c : Nat) (l : List UInt8) : Prop := OL 5 f8 w base A c l
theorem infoB : (Tryz.prog.info? 5).map (fun i => (i.zero, i.size, i.bytes)) = some (some (f8 0), 1, 1) := by kernel_rfl
theorem b_get? {l : List UInt8} {k : Nat} (h : k < l.length) : l[k]? = some (l.getD k 0) := by rw [List.getElem?_eq_getElem h, List.getD_eq_getElem?_getD, List.getElem?_eq_getElem h]; rfl

theorem wp_appB (w : World) {ops : Array Oper} {rest : List Oper} {o : Oper} {a : Act} {Q : Exit → Act → World → Prop}
    (hg : o.guard = none) (s x : Operand) (hop : o.op = Op.call { callee := Callee.builtin Builtin.append, args := #[s, x], argTypes := #[31, 31] })
    (base : Nat) (A : Option Addr) (c n : Nat) (l : List UInt8) (hs : a.eval s = .slice A n c) (hn : n = l.length) (hown : OB w base A c l)
    (D : Option Addr) (d m : Nat) (r : List UInt8) (hx : a.eval x = .slice D m d) (hm : m = r.length) (Br : Nat) (hr : RB w Br D d r)
    (hlen : l.length + r.length ≤ 35184372088832) (hbase : base ≤ w.heap.size)
    (hK : ∀ A' c' w', OB w' base A' c' (l ++ r) → w.grownBy w' (Value.slice A n c).ownBlock → Below base w w' → wpList Tryz.prog ops Q rest (a.put o.dst (.slice A' (l ++ r).length c')) w') :
    wpList Tryz.prog ops Q (o :: rest) a w :=
  wp_app w 31 5 f8 0 1 Tryz.underlying31 infoB (fun _ => ⟨rfl, rfl⟩) hg s x hop base A c n l hs hn hown D d m r hx hm Br hr hlen (by omega) hbase
    fun A' c' w' h1 h2 _ => hK A' c' w' h1 h2 ((Below.refl _ _).grown h2 hbase (by
      intro k hk
      rcases OL.form hown with ⟨rfl, _⟩ | ⟨g, rfl, hb, _⟩
      · simp [Value.ownBlock] at hk
      · simp [Value.ownBlock] at hk; omega))
/-- one byte in a new block, as append's source -/
theorem RB.one (w : World) (t : TypeId) (x : UInt8) : RB (w.alloc (.cells #[.int .u8 (x.toNat : Int)] t)) (w.heap.size + 1) (some ⟨w.heap.size, 0, none⟩) 1 [x] := by
  refine ⟨by simp, by simp, fun _ => ⟨_, _, rfl, by omega, fun k y hk => ?_⟩⟩
  match k, hk with
  | 0, hk => simp at hk; subst hk; have := cell_one_new w (.int .u8 (x.toNat : Int)) t 0 _ rfl; rwa [Addr.add_lit] at this
theorem OB.empty (w : World) : OB (w.alloc (.cells #[] 5)) w.heap.size (some ⟨w.heap.size, 0, none⟩) 0 [] := by
  refine ⟨?_, by simp⟩
  have h := World.ownsRow_lit (e := 5) (size := 1) w #[] 0 (Nat.le_refl _) (by unfold maxLen; omega) (by simp)
  simpa using h
/-- string(b) -/
theorem conv_bytes {w : World} {B : Nat} {A : Option Addr} {c : Nat} {l : List UInt8} (h : RB w B A c l) (hA : ∃ b off, A = some ⟨b, off, none⟩) :
    (convert 31 9 (.slice A l.length c)).run Tryz.prog w = .ok (.string ⟨l.toArray⟩) w := by
  obtain ⟨b, off, rfl⟩ := hA
  refine run_convert_bytes_back w 31 9 5 ⟨b, off, none⟩ c l Tryz.underlying31 Tryz.underlying5 Tryz.underlying9 fun j hj => ?_
  obtain ⟨b', off', e, _, hc⟩ := h.at_ (by omega)
  simp only [Option.some.injEq, Addr.mk.injEq, and_true] at e
  obtain ⟨rfl, rfl⟩ := e
  rw [Addr.add_lit]
  exact hc j _ (List.getElem?_eq_getElem hj)

/-- how long a slice is -/
def slen : Value → Nat | .slice _ n _ => n | _ => 0

def bg (l : List UInt8) (k : Nat) : UInt8 := l.getD k 0
theorem bg_get? {l : List UInt8} {k : Nat} (h : k < l.length) : l[k]? = some (bg l k) := b_get? h
theorem bg_set_eq {l : List UInt8} {k : Nat} (x : UInt8) (h : k < l.length) : bg (l.set k x) k = x := by
  unfold bg; simp [List.getD_eq_getElem?_getD, h]
theorem bg_set_ne {l : List UInt8} {k j : Nat} (x : UInt8) (h : k ≠ j) : bg (l.set k x) j = bg l j := by
  unfold bg; simp [List.getD_eq_getElem?_getD, h]
theorem bg_ext {a b : List UInt8} (hl : a.length = b.length) (h : ∀ k, k < a.length → bg a k = bg b k) : a = b := by
  refine List.ext_getElem? fun k => ?_
  by_cases hk : k < a.length
  · rw [bg_get? hk, bg_get? (by omega), h k hk]
  · rw [List.getElem?_eq_none (by omega), List.getElem?_eq_none (by omega)]
theorem bg_rev {l : List UInt8} {k : Nat} (h : k < l.length) : bg l.reverse k = bg l (l.length - 1 - k) := by
  have h1 := bg_get? (l := l.reverse) (k := k) (by rw [List.length_reverse]; exact h)
  rw [List.getElem?_reverse h, bg_get? (by omega)] at h1
  exact (Option.some.inj h1).symm
/-- turned round as far as k places from both ends -/
def Rvd (o l : List UInt8) (k : Nat) : Prop :=
  l.length = o.length ∧ ∀ t, t < o.length → bg l t = if t < k ∨ o.length ≤ t + k then bg o (o.length - 1 - t) else bg o t
theorem Rvd_step {o l : List UInt8} {k j : Nat} (h : Rvd o l k) (hj : j = o.length - 1 - k) (hk : k < j) : Rvd o ((l.set k (bg l j)).set j (bg l k)) (k + 1) := by
  refine ⟨by rw [List.length_set, List.length_set]; exact h.1, fun t ht => ?_⟩
  have hl := h.1
  by_cases h1 : j = t
  · subst h1
    rw [bg_set_eq _ (by rw [List.length_set]; omega), h.2 k (by omega), if_neg (by omega), if_pos (by omega)]
    congr 1; omega
  · rw [bg_set_ne _ h1]
    by_cases h2 : k = t
    · subst h2
      rw [bg_set_eq _ (by omega), h.2 j (by omega), if_neg (by omega), if_pos (by omega)]
      congr 1
    · rw [bg_set_ne _ h2, h.2 t ht]
      by_cases h3 : t < k ∨ o.length ≤ t + k
      · rw [if_pos h3, if_pos (by omega)]
      · rw [if_neg h3, if_neg (by omega)]
theorem Rvd_end {o l : List UInt8} {k : Nat} (h : Rvd o l k) (hk : ¬ ((k : Int) < (o.length : Int) - 1 - k)) : l = o.reverse := by
  refine bg_ext (by rw [List.length_reverse]; exact h.1) fun t ht => ?_
  have hl := h.1
  rw [bg_rev (by omega), h.2 t (by omega)]
  split
  · rfl
  · congr 1; omega
set_option maxHeartbeats 1000000 in
theorem reverse_any (A : Option Addr) (c n : Nat) (o : List UInt8) (w : World) (base : Nat) (hn : n = o.length) (h : OB w base A c o) :
    Calls Tryz.prog 22 #[.slice A n c] w fun e w' => e = .returned (.tuple #[]) ∧ OB w' base A c o.reverse ∧ Below base w w' := by
  subst hn
  have hbig := OL.big h
  go_enter Tryz.func22, Tryz.ntmps22
  go_wp2
  go_loopw [2, 3] (fun iv jv wr => ∃ (k : Nat) (l : List UInt8), iv = .int .i64 (k : Int) ∧ jv = .int .i64 ((o.length : Int) - 1 - k) ∧ k ≤ o.length ∧ OB wr base A c l ∧ Hid (Rvd o l k) ∧ Below base w wr) (fun iv _ _ => (o.length - intOf iv).toNat)
  case atStart => exact ⟨0, o, rfl, by simp, Nat.zero_le _, h, ⟨rfl, fun t ht => by rw [if_neg (by omega)]⟩, Below.refl _ _⟩
  case round =>
    obtain ⟨k, l, rfl, rfl, hk, hO, hR, hbel⟩ := hrel
    by_cases h0 : (k : Int) < (o.length : Int) - 1 - k
    · have hl := hR.out.1
      have HL := Lib.hid hl
      rcases OL.form hO with ⟨_, _, he⟩ | ⟨g, rfl, hg1, hg2, _⟩
      · rw [he] at hl; simp at hl; omega
      · obtain ⟨j, hj⟩ : ∃ j, j = o.length - 1 - k := ⟨_, rfl⟩
        have e0 : (o.length : Int) - 1 - (k : Int) = (j : Int) := by omega
        have hkj : k < j := by omega
        have hjl : j < o.length := by omega
        have hck := OL.cell hO (bg_get? (l := l) (k := k) (by omega))
        have hcj := OL.cell hO (bg_get? (l := l) (k := j) (by omega))
        have hfk := OL.frozen hO k
        have hfj := OL.frozen hO j
        have hst := Lib.hid (Rvd_step hR.out hj hkj)
        have hset := OL.set (OL.set hO k (bg l j)) j (bg l k)
        have hbel2 := (hbel.setCell (p := ⟨g, k, none⟩) hg1 (f8 (bg l j))).setCell (p := ⟨g, j, none⟩) hg1 (f8 (bg l k))
        have HJ := Lib.hid hj
        have E0 := Lib.hid e0
        clear hl hj
        simp only [f8] at hck hcj
        go_wp2
        go_region
        go_wp2
        go_roundw
        case rel => exact ⟨k + 1, _, by go_num, by go_num, by omega, hset, hst, Below.drew hbel2⟩
        case measure => simp [intOf]; omega
    · have hfin := Lib.hid (Rvd_end hR.out h0)
      go_wp2
      go_end0
      refine ⟨rfl, ?_, hbel⟩
      rw [← hfin.out]; exact hO
end Go.Proofs.YtbgggepdlkbpoaaGreatDoor
namespace Go.Proofs.YtbgggepdlkbpoaaGreatDoor

/-- a digit's byte -/
def dch (r : Nat) : UInt8 := if r < 10 then UInt8.ofNat (48 + r) else UInt8.ofNat (87 + r)
theorem dch_nat {r : Nat} (h : r < 36) : (dch r).toNat = if r < 10 then 48 + r else 87 + r := by
  unfold dch
  split <;> simp <;> omega
/-- the digits from the lowest up -/
def rdg (b n : Nat) : List UInt8 := if _h : n = 0 ∨ b < 2 then [] else dch (n % b) :: rdg b (n / b)
termination_by n
decreasing_by exact Nat.div_lt_self (by omega) (by omega)
theorem rdg_zero (b : Nat) : rdg b 0 = [] := by rw [rdg]; simp
theorem rdg_pos {b n : Nat} (hb : 2 ≤ b) (h : n ≠ 0) : rdg b n = dch (n % b) :: rdg b (n / b) := by rw [rdg]; simp [h, show ¬ b < 2 by omega]
/-- a number's text -/
def txt (b n : Nat) : List UInt8 := if n = 0 then [48] else (rdg b n).reverse
def rtx (b n : Nat) : List UInt8 := if n = 0 then [48] else rdg b n
theorem rtx_rev (b n : Nat) : (rtx b n).reverse = txt b n := by unfold rtx txt; split <;> simp
theorem rtx_first {b n : Nat} (hb : 2 ≤ b) : rtx b n = dch (n % b) :: rdg b (n / b) := by
  unfold rtx
  split
  · rename_i h; subst h; simp [rdg_zero, dch]
  · rename_i h; exact rdg_pos hb h
theorem rdg_len {b : Nat} (hb : 2 ≤ b) (n k : Nat) (h : n < 2 ^ k) : (rdg b n).length ≤ k := by
  induction k generalizing n with
  | zero => have : n = 0 := by simpa using h
            subst this; simp [rdg_zero]
  | succ k ih =>
    by_cases h0 : n = 0
    · subst h0; simp [rdg_zero]
    · rw [rdg_pos hb h0, List.length_cons]
      have h1 : n / b ≤ n / 2 := Nat.div_le_div_left hb (by omega)
      have := ih (n / b) (by rw [Nat.pow_succ] at h; omega)
      omega

/-- a byte's value as a digit -/
def dval (b : Nat) : Nat := if 48 ≤ b ∧ b ≤ 57 then b - 48 else if 97 ≤ b ∧ b ≤ 122 then b - 87 else if 65 ≤ b ∧ b ≤ 90 then b - 55 else 99
theorem dval_le (b : Nat) : dval b ≤ 99 := by unfold dval; split <;> (try split) <;> (try split) <;> omega
theorem dval_36 (b : Nat) : dval b < 36 ∨ dval b = 99 := by unfold dval; split <;> (try split) <;> (try split) <;> omega
theorem dval_dch {r : Nat} (h : r < 36) : dval (dch r).toNat = r := by
  rw [dch_nat h]; unfold dval; split <;> (repeat' split) <;> omega
end Go.Proofs.YtbgggepdlkbpoaaGreatDoor
namespace Go.Proofs.YtbgggepdlkbpoaaGreatDoor
open Go.RowKit

theorem dig_at (r : Nat) (h : r < 36) (h' : r < ({ data := #[48, 49, 50, 51, 52, 53, 54, 55, 56, 57, 97, 98, 99, 100, 101, 102, 103, 104, 105, 106, 107, 108, 109, 110, 111, 112, 113, 114, 115, 116, 117, 118, 119, 120, 121, 122] } : ByteArray).size) : (({ data := #[48, 49, 50, 51, 52, 53, 54, 55, 56, 57, 97, 98, 99, 100, 101, 102, 103, 104, 105, 106, 107, 108, 109, 110, 111, 112, 113, 114, 115, 116, 117, 118, 119, 120, 121, 122] } : ByteArray)[r]'h').toNat = (dch r).toNat := by
  have key : ∀ r : Fin 36, (({ data := #[48, 49, 50, 51, 52, 53, 54, 55, 56, 57, 97, 98, 99, 100, 101, 102, 103, 104, 105, 106, 107, 108, 109, 110, 111, 112, 113, 114, 115, 116, 117, 118, 119, 120, 121, 122] } : ByteArray)[r.val]'(r.isLt)).toNat = (dch r.val).toNat := by decide
  exact key ⟨r, h⟩

/-- what is left of the digits -/
def Left (b N0 N : Nat) (o : List UInt8) : Prop := (o = [] → N = N0) ∧ (o ≠ [] → o ++ rdg b N = rtx b N0)
theorem Left_step {b N0 N : Nat} {o : List UInt8} (hb : 2 ≤ b) (h : Left b N0 N o) (hN : N ≠ 0 ∨ o = []) : Left b N0 (N / b) (o ++ [dch (N % b)]) := by
  refine ⟨fun he => by simp at he, fun _ => ?_⟩
  by_cases ho : o = []
  · subst ho
    rw [h.1 rfl, rtx_first hb]; rfl
  · rcases hN with hN | hN
    · rw [← h.2 ho, rdg_pos hb hN]; simp
    · exact absurd hN ho
theorem Left_end {b N0 : Nat} {o : List UInt8} (h : Left b N0 0 o) (ho : o ≠ []) : o = rtx b N0 := by
  have := h.2 ho
  rw [rdg_zero, List.append_nil] at this
  exact this

theorem blen_div_lt {b : Nat} (hb : 2 ≤ b) (N : Nat) : blen (N / b) ≤ blen N ∧ (N ≠ 0 → blen (N / b) < blen N) := by
  by_cases h0 : N = 0
  · subst h0; simp
  · have h1 : N / b ≤ N / 2 := Nat.div_le_div_left hb (by omega)
    have h2 : blen (N / b) ≤ blen (N / 2) := blen_le.2 (Nat.lt_of_le_of_lt h1 (blen_lt _))
    have h3 := blen_pos h0
    exact ⟨by omega, fun _ => by omega⟩
theorem digs_or {N : Nat} {o : List UInt8} (h : N ≠ 0 ∨ o = []) : (N ≠ 0 ∧ 0 < (digs N).length) ∨ (¬ 0 < (digs N).length ∧ o = [] ∧ blen N = 0) := by
  by_cases h0 : N = 0
  · right; subst h0; rw [digs_zero]; exact ⟨by simp, h.resolve_left (fun h => h rfl), blen_zero⟩
  · left; exact ⟨h0, Nat.pos_of_ne_zero (fun h => h0 (digs_len0.1 h))⟩
/-- what lies in a new block stays behind an append to an elder one -/
theorem keepW {wr w2 w3 w5 : World} {base : Nat} {A2 A3 : Option Addr} {c2 c3 n : Nat} {o : List UInt8} {l : List Nat} (h3 : OW w2 wr.heap.size A3 c3 l) (ho : OB wr base A2 c2 o)
    (h : OW w3 wr.heap.size A3 c3 l) (hg : w3.grownBy w5 (Value.slice A2 n c2).ownBlock) : OW w5 wr.heap.size A3 c3 l := by
  refine h.grown hg fun g hA => ?_
  subst hA
  have h1 := h3.lt
  rcases OL.form ho with ⟨rfl, _⟩ | ⟨g2, rfl, _, h2, _⟩
  · simp [Value.ownBlock]
  · simp only [Value.ownBlock, ne_eq, Option.some.injEq]; omega

set_option maxHeartbeats 1000000 in
theorem text_loop (A : Option Addr) (c : Nat) (a : List Nat) (b : Nat) (w : World) (hb1 : 2 ≤ b) (hb2 : b ≤ 36) (ha : RW w w.heap.size A c a) (hs : soundB a = true) :
    Calls Tryz.prog 56 #[.slice A a.length c, .int .i64 (b : Int)] w fun e w' => e = .returned (.tuple #[.string ⟨(txt b (val a)).toArray⟩, .int .i64 0]) ∧ Below w.heap.size w w' := by
  have hck := check1_any A c a w 22 ha
  rw [hs] at hck
  have hB1 : Below w.heap.size w (w.alloc (.cells #[.slice A a.length c] 22)) := (Below.refl _ _).alloc (Nat.le_refl _) _
  have hd : a = digs (val a) := by simp only [soundB, decide_eq_true_eq] at hs; exact hs.2
  have HD := Lib.hid hd
  have hbl0 : blen (val a) ≤ 16384 := by
    have h5 : a.length ≤ 512 := by simp only [soundB, decide_eq_true_eq] at hs; exact hs.1
    exact Nat.le_trans (blen_le.2 (val_lt2 ha.b32)) (by omega)
  clear hs hd
  simp only [if_true] at hck
  go_enter Tryz.func56, Tryz.ntmps56
  go_wp2_with fail
  refine hck.mono ?_; rintro e w' ⟨rfl, rfl⟩
  go_wp2_with fail
  go_loopw [0, 7] (fun av ov wr => ∃ (N : Nat) (A1 : Option Addr) (c1 : Nat) (A2 : Option Addr) (c2 : Nat) (o : List UInt8), av = .slice A1 (digs N).length c1 ∧ RW wr wr.heap.size A1 c1 (digs N) ∧ ov = .slice A2 o.length c2 ∧ OB wr w.heap.size A2 c2 o ∧ o.length + blen N ≤ 20000 ∧
      Hid (Left b (val a) N o) ∧ Below w.heap.size w wr) (fun _ ov _ => 20001 - slen ov)
  case atStart => exact ⟨val a, A, c, none, 0, [], by rw [← HD.out], by rw [← HD.out]; exact ha.step hB1 (by simp), rfl, OL.nil _ _ _ _, by simp only [List.length_nil]; omega, ⟨fun _ => rfl, fun h => absurd rfl h⟩, hB1⟩
  case round =>
    obtain ⟨N, A1, c1, A2, c2, o, rfl, hR, rfl, hO, hol, hL, hbel⟩ := hrel
    have hsh := short_any A1 c1 _ (digs N) b wr (by omega) (by omega) rfl hR
    rw [val_digs] at hsh
    by_cases hgo : N ≠ 0 ∨ o = []
    · have hrb : N % b < b := Nat.mod_lt _ (by omega)
      have hst := Lib.hid (Left_step hb1 hL.out hgo)
      have hbl : blen (N / b) ≤ blen N ∧ (N ≠ 0 → blen (N / b) < blen N) := blen_div_lt hb1 N
      have ht1 : Hid ((N ≠ 0 ∧ 0 < (digs N).length) ∨ (¬ 0 < (digs N).length ∧ o = [] ∧ blen N = 0)) := digs_or hgo
      generalize N % b = r at *
      generalize N / b = m at *
      have e1 := dig_at r (by omega)
      have hone := fun w2 => RB.one w2 5 (dch r)
      rcases ht1.out with ⟨hN0, hl0⟩ | ⟨hl0, ho, hbN⟩
      · have hbl2 := hbl.2 hN0
        go_wp2_with fail
        refine hsh.mono ?_; rintro e w2 ⟨A3, c3, rfl, hO3, hb3⟩
        have hO1 := OL.below hO hb3 (Nat.le_refl _)
        have hB2 : Below w.heap.size w (w2.alloc (.cells #[.int .u8 ((dch r).toNat : Int)] 5)) := (hbel.trans (hb3.mono hbel.size)).alloc (Nat.le_trans hbel.size hb3.size) _
        go_wp2_with (at_builtin; refine wp_appB _ rfl _ _ rfl w.heap.size _ _ _ o rfl rfl (OL.alloc hO1 _) _ _ _ [dch r] rfl rfl _ (hone w2) (by simp; omega) hB2.size ?_; intro A5 c5 w5 g1 g2 g3)
        have hR5 := keepW hO3 hO (OW.alloc hO3 _) g2
        go_roundw
        case rel => exact ⟨m, A3, c3, A5, c5, _, rfl, hR5.rw, by rw [List.length_append]; rfl, g1, by rw [List.length_append]; simp only [List.length_cons, List.length_nil]; omega, hst, hB2.trans g3⟩
        case measure => simp [slen]; omega
      · have hol0 : o.length ≤ 0 := by rw [ho]; simp
        have ho0 : ((o.length : Int) == 0) = true := by simp [ho]
        have hbl2 := hbl.1
        have HO := Lib.hid ho; clear ho
        have HN := Lib.hid hbN
        have hbN2 : blen N ≤ 0 := by omega
        clear hbN
        go_wp2_with fail
        refine hsh.mono ?_; rintro e w2 ⟨A3, c3, rfl, hO3, hb3⟩
        have hO1 := OL.below hO hb3 (Nat.le_refl _)
        have hB2 : Below w.heap.size w (w2.alloc (.cells #[.int .u8 ((dch r).toNat : Int)] 5)) := (hbel.trans (hb3.mono hbel.size)).alloc (Nat.le_trans hbel.size hb3.size) _
        go_wp2_with (at_builtin; refine wp_appB _ rfl _ _ rfl w.heap.size _ _ _ o rfl rfl (OL.alloc hO1 _) _ _ _ [dch r] rfl rfl _ (hone w2) (by simp; omega) hB2.size ?_; intro A5 c5 w5 g1 g2 g3)
        have hR5 := keepW hO3 hO (OW.alloc hO3 _) g2
        go_roundw
        case rel => exact ⟨m, A3, c3, A5, c5, _, rfl, hR5.rw, by rw [List.length_append]; rfl, g1, by rw [List.length_append]; simp only [List.length_cons, List.length_nil]; omega, hst, hB2.trans g3⟩
        case measure => simp [slen]; omega
    · have hN : N = 0 := by
        rcases Nat.eq_zero_or_pos N with h | h
        · exact h
        · exact absurd (.inl (by omega)) hgo
      have ho : o ≠ [] := fun h => hgo (.inr h)
      subst hN
      have hrt := Lib.hid (Left_end hL.out ho)
      have hl0 : ¬ 0 < (digs 0).length := by rw [digs_zero]; simp
      have hol0 : 0 < o.length := List.length_pos_iff.2 ho
      have ho0 : ((o.length : Int) == 0) = false := beq_eq_false_iff_ne.2 (by omega)
      clear hgo ho hsh
      have hA2 : ∃ b off, A2 = some ⟨b, off, none⟩ := by
        rcases OL.form hO with ⟨_, _, he⟩ | ⟨g, rfl, _⟩
        · rw [he] at hol0; simp at hol0
        · exact ⟨g, 0, rfl⟩
      go_wp2_with fail
      refine (reverse_any A2 c2 _ o wr w.heap.size rfl hO).mono ?_; rintro e w2 ⟨rfl, hO2, hb2⟩
      have hconv := conv_bytes (OL.rl hO2) hA2
      rw [List.length_reverse] at hconv
      go_wp2_with fail
      go_ret2
      refine ⟨?_, hbel.trans hb2⟩
      rw [← rtx_rev, ← hrt.out]
      rfl

/-- an answer that is a text with an error's number -/
def RetT (w : World) (t : List UInt8 × Int) (e : Ending) (w' : World) : Prop := e = .returned (.tuple #[.string ⟨t.1.toArray⟩, .int .i64 t.2]) ∧ Below w.heap.size w w'
def textA (a : List Nat) (b : Int) : List UInt8 × Int := if soundB a then (if b < 2 ∨ b > 36 then ([], 1) else (txt b.toNat (val a), 0)) else ([], 2)
theorem text_any (A : Option Addr) (c n : Nat) (a : List Nat) (b : Int) (w : World) (hn : n = a.length) (ha : RW w w.heap.size A c a) :
    Calls Tryz.prog 56 #[.slice A n c, .int .i64 b] w (RetT w (textA a b)) := by
  subst hn
  have hck := check1_any A c a w 22 ha
  have hB1 : Below w.heap.size w (w.alloc (.cells #[.slice A a.length c] 22)) := (Below.refl _ _).alloc (Nat.le_refl _) _
  unfold textA
  cases hs : soundB a with
  | true =>
    rw [hs] at hck
    by_cases h1 : b < 2
    · rw [if_pos rfl, if_pos (Or.inl h1)]
      clear hs
      go_enter Tryz.func56, Tryz.ntmps56
      go_wp2_with fail
      refine hck.mono ?_; rintro e w' ⟨rfl, rfl⟩
      go_wp2_with fail
      go_ret2
      exact ⟨rfl, hB1⟩
    · by_cases h2 : b > 36
      · rw [if_pos rfl, if_pos (Or.inr h2)]
        clear hs
        go_enter Tryz.func56, Tryz.ntmps56
        go_wp2_with fail
        refine hck.mono ?_; rintro e w' ⟨rfl, rfl⟩
        go_wp2_with fail
        go_ret2
        exact ⟨rfl, hB1⟩
      · rw [if_pos rfl, if_neg (by omega)]
        have h := text_loop A c a b.toNat w (by omega) (by omega) ha hs
        rw [Int.toNat_of_nonneg (by omega)] at h
        exact h
  | false =>
    rw [hs] at hck
    clear hs
    go_enter Tryz.func56, Tryz.ntmps56
    go_wp2_with fail
    refine hck.mono ?_; rintro e w' ⟨rfl, rfl⟩
    go_wp2_with fail
    go_ret2
    exact ⟨rfl, hB1⟩
end Go.Proofs.YtbgggepdlkbpoaaGreatDoor
