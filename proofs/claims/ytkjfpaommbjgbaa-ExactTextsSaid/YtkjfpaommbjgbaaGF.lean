/- Merged texts: RatS, RatT, RatU, RatF, RatI, RatW. -/
import Derived.Test.YtkjfpaommbjgbaaGE
import Derived.Test.YtkjfpaommbjgbaaGB
import Derived.Laws.Bits64
namespace Go.Proofs.Ytkjfpaommbjgbaa
open Go.RowKit

/-- a fraction is sound -/
def rsB (s : Bool) (a b : List Nat) : Bool := soundB a && (soundB b && (decide (b.length ≠ 0) && (!(decide (a.length = 0) && s) && (Nat.gcd (val a) (val b) == 1))))
theorem rsB_parts {s : Bool} {a b : List Nat} (h : rsB s a b = true) : soundB a = true ∧ soundB b = true ∧ b.length ≠ 0 ∧ (a.length = 0 → s = false) ∧ Nat.gcd (val a) (val b) = 1 := by
  unfold rsB at h
  simp only [Bool.and_eq_true, decide_eq_true_eq, Bool.not_eq_true', Bool.and_eq_false_iff, decide_eq_false_iff_not, beq_iff_eq] at h
  obtain ⟨h1, h2, h3, h4, h5⟩ := h
  exact ⟨h1, h2, h3, fun h0 => h4.resolve_left (fun h => h h0), h5⟩
theorem soundB_parts {a : List Nat} (h : soundB a = true) : a.length ≤ 512 ∧ digs (val a) = a := by
  unfold soundB at h
  rw [decide_eq_true_eq] at h
  exact ⟨h.1, h.2.symm⟩
/-- a fraction that is sound is a rational number -/
theorem rsB_rat {s : Bool} {a b : List Nat} (h : rsB s a b = true) : ∃ q, qn q = s ∧ digs (qt q) = a ∧ digs (qd q) = b ∧ qw q ≤ 512 := by
  obtain ⟨h1, h2, h3, h4, h5⟩ := rsB_parts h
  obtain ⟨l1, e1⟩ := soundB_parts h1
  obtain ⟨l2, e2⟩ := soundB_parts h2
  have hd : val b ≠ 0 := fun h0 => h3 (by rw [← e2, h0, digs_zero]; rfl)
  obtain ⟨q, q1, q2, q3⟩ := q_of (neg := s) hd h5 (fun h0 => h4 (by rw [← e1, h0, digs_zero]; rfl))
  refine ⟨q, q1, by rw [q2, e1], by rw [q3, e2], ?_⟩
  unfold qw
  rw [q2, q3, e1, e2]
  omega
theorem rsB_of (q : Rat) (h : qw q ≤ 512) : rsB (qn q) (digs (qt q)) (digs (qd q)) = true := by
  have h1 := qw_t q
  have h2 := qw_d q
  unfold rsB soundB
  rw [val_digs, val_digs, q_cop]
  have h3 := qd_pos q
  have h4 : (decide (qt q = 0) && qn q) = false := by
    by_cases h0 : qt q = 0
    · rw [qn_zero h0]; simp
    · rw [decide_eq_false h0]; rfl
  have h5 : decide ((digs (qt q)).length = 0) = decide (qt q = 0) := by rw [decide_eq_decide]; exact digs_len0
  have h6 : (digs (qd q)).length ≠ 0 := fun h => h3 (digs_len0.1 h)
  rw [h5, h4]
  simp only [Bool.and_eq_true, decide_eq_true_eq, Bool.not_false, beq_self_eq_true]
  exact ⟨⟨by omega, trivial⟩, ⟨by omega, trivial⟩, h6, trivial, trivial⟩
theorem rsB_big {q : Rat} (h : 512 < qw q) : rsB (qn q) (digs (qt q)) (digs (qd q)) = false := by
  cases hc : rsB (qn q) (digs (qt q)) (digs (qd q)) with
  | false => rfl
  | true =>
    obtain ⟨h1, h2, _⟩ := rsB_parts hc
    have := (soundB_parts h1).1
    have := (soundB_parts h2).1
    unfold qw at h
    omega
/-- a fraction's value as it came -/
def VR (w : World) (B : Nat) (v : Value) (s : Bool) (a b : List Nat) : Prop := ∃ A c D d, v = .agg #[.bool s, .slice A a.length c, .slice D b.length d] ∧ RW w B A c a ∧ RW w B D d b
theorem VR.step {w w' : World} {B B' : Nat} {v : Value} {s : Bool} {a b : List Nat} (h : VR w B v s a b) (hb : Below B w w') (hB : B ≤ B') : VR w' B' v s a b := by
  obtain ⟨A, c, D, d, e, h1, h2⟩ := h
  exact ⟨A, c, D, d, e, h1.step hb hB, h2.step hb hB⟩
theorem VR.st {w w' : World} {v : Value} {s : Bool} {a b : List Nat} (h : VR w w.heap.size v s a b) (hb : Below w.heap.size w w') : VR w' w'.heap.size v s a b := h.step hb hb.size
theorem RQ.vr {w : World} {B : Nat} {v : Value} {q : Rat} (h : RQ w B v q) : VR w B v (qn q) (digs (qt q)) (digs (qd q)) := h
theorem VR.rq {w : World} {B : Nat} {v : Value} {s : Bool} {a b : List Nat} {q : Rat} (h : VR w B v s a b) (h1 : qn q = s) (h2 : digs (qt q) = a) (h3 : digs (qd q) = b) : RQ w B v q := by
  subst h1 h2 h3; exact h
theorem nrm_of_sound {a : List Nat} (h : soundB a = true) : Nrm a := Nrm_of_digs (soundB_parts h).2.symm
theorem digs_one1 : digs 1 = [1] := digs_one (by omega) (by omega)


set_option maxHeartbeats 2000000 in
theorem ratSound_any (v : Value) (s : Bool) (a b : List Nat) (w : World) (h : VR w w.heap.size v s a b) :
    Calls Try.prog 21 #[v] w fun e w' => e = .returned (.bool (rsB s a b)) ∧ Below w.heap.size w w' := by
  obtain ⟨A, c, D, d, rfl, ra, rb⟩ := h
  have B1 := bal w (.cells #[.bool s, .slice A a.length c, .slice D b.length d] 24)
  have s1 := SB.new w [.bool s, .slice A a.length c, .slice D b.length d] 24
  have m0 := s1.cell 0
  have m1 := s1.cell 1
  have m2 := s1.cell 2
  have hs1 := sound_any A c _ a _ rfl (st ra B1)
  have hs2 := sound_any D d _ b _ rfl (st rb B1)
  unfold rsB
  cases h1 : soundB a with
  | false =>
    rw [h1] at hs1
    clear h1
    go_enter Try.func21, Try.ntmps21
    go_wp2_with fail
    refine hs1.mono ?_; rintro e w' ⟨rfl, rfl⟩
    go_wp2_with fail
    go_ret
    exact ⟨rfl, B1⟩
  | true =>
    rw [h1] at hs1
    cases h2 : soundB b with
    | false =>
      rw [h2] at hs2
      clear h1 h2
      go_enter Try.func21, Try.ntmps21
      go_wp2_with fail
      refine hs1.mono ?_; rintro e w' ⟨rfl, rfl⟩
      go_wp2_with fail
      refine hs2.mono ?_; rintro e w' ⟨rfl, rfl⟩
      go_wp2_with fail
      go_ret
      exact ⟨rfl, B1⟩
    | true =>
      rw [h2] at hs2
      have na := nrm_of_sound h1
      have nb := nrm_of_sound h2
      have la := (soundB_parts h1).1
      have lb := (soundB_parts h2).1
      clear h1 h2
      by_cases hb0 : b.length = 0
      · have t1 : ((b.length : Int) == 0) = true := by rw [hb0]; rfl
        rw [decide_eq_false (p := b.length ≠ 0) (fun h => h hb0)]
        clear hb0
        go_enter Try.func21, Try.ntmps21
        go_wp2_with fail
        refine hs1.mono ?_; rintro e w' ⟨rfl, rfl⟩
        go_wp2_with fail
        refine hs2.mono ?_; rintro e w' ⟨rfl, rfl⟩
        go_wp2_with fail
        go_ret
        exact ⟨rfl, B1⟩
      · have t1 : ((b.length : Int) == 0) = false := beq_eq_false_iff_ne.2 (by omega)
        rw [decide_eq_true (p := b.length ≠ 0) hb0]
        have vb : val b ≠ 0 := nrm_pos nb rb.b32 (by omega)
        have hdv := divisor_any A D c d _ _ a b _ rfl rfl (st ra B1) (st rb B1) na nb (by omega) (by omega)
        have hgp : Nat.gcd (val a) (val b) ≠ 0 := Nat.gcd_ne_zero_right vb
        generalize Nat.gcd (val a) (val b) = g at *
        by_cases ha0 : a.length = 0
        · have t2 : ((a.length : Int) == 0) = true := by rw [ha0]; rfl
          rw [decide_eq_true (p := a.length = 0) ha0]
          clear ha0
          cases s with
          | true =>
            go_enter Try.func21, Try.ntmps21
            go_wp2_with fail
            refine hs1.mono ?_; rintro e w' ⟨rfl, rfl⟩
            go_wp2_with fail
            refine hs2.mono ?_; rintro e w' ⟨rfl, rfl⟩
            go_wp2_with fail
            go_ret
            exact ⟨rfl, B1⟩
          | false =>
            go_enter Try.func21, Try.ntmps21
            go_wp2_with fail
            refine hs1.mono ?_; rintro e w' ⟨rfl, rfl⟩
            go_wp2_with fail
            refine hs2.mono ?_; rintro e w' ⟨rfl, rfl⟩
            go_wp2_with fail
            refine hdv.mono ?_; rintro e w3 ⟨A3, c3, rfl, O3, B3⟩
            by_cases hg1 : g = 1
            · subst hg1
              rw [digs_one1] at O3 ⊢
              obtain ⟨g3, o3, rfl, _, hx⟩ := O3.rw.at_ (by simp)
              have x0 := hx 0 (by simp)
              rw [show wd [1] 0 = 1 from rfl, Nat.add_zero] at x0
              go_wp2_with fail
              go_ret
              exact ⟨rfl, bt B1 B3⟩
            · by_cases hl1 : (digs g).length = 1
              · have e1 : digs g = [g] := digs_one hgp (by have := digs_len_le.1 (Nat.le_of_eq hl1); rw [Wp_succ, Wp_zero] at this; omega)
                rw [e1] at O3 ⊢
                obtain ⟨g3, o3, rfl, _, hx⟩ := O3.rw.at_ (by simp)
                have x0 := hx 0 (by simp)
                rw [show wd [g] 0 = g from rfl, Nat.add_zero] at x0
                have t3 : ((g : Int) == 1) = false := beq_eq_false_iff_ne.2 (by omega)
                clear e1 hl1
                go_wp2_with fail
                go_ret
                exact ⟨by rw [beq_eq_false_iff_ne.2 hg1]; rfl, bt B1 B3⟩
              · have t3 : (((digs g).length : Int) == 1) = false := beq_eq_false_iff_ne.2 (by omega)
                clear hl1
                go_wp2_with fail
                go_ret
                exact ⟨by rw [beq_eq_false_iff_ne.2 hg1]; rfl, bt B1 B3⟩

        · have t2 : ((a.length : Int) == 0) = false := beq_eq_false_iff_ne.2 (by omega)
          rw [decide_eq_false (p := a.length = 0) ha0]
          go_enter Try.func21, Try.ntmps21
          go_wp2_with fail
          refine hs1.mono ?_; rintro e w' ⟨rfl, rfl⟩
          go_wp2_with fail
          refine hs2.mono ?_; rintro e w' ⟨rfl, rfl⟩
          go_wp2_with fail
          refine hdv.mono ?_; rintro e w3 ⟨A3, c3, rfl, O3, B3⟩
          by_cases hg1 : g = 1
          · subst hg1
            rw [digs_one1] at O3 ⊢
            obtain ⟨g3, o3, rfl, _, hx⟩ := O3.rw.at_ (by simp)
            have x0 := hx 0 (by simp)
            rw [show wd [1] 0 = 1 from rfl, Nat.add_zero] at x0
            go_wp2_with fail
            go_ret
            exact ⟨rfl, bt B1 B3⟩
          · by_cases hl1 : (digs g).length = 1
            · have e1 : digs g = [g] := digs_one hgp (by have := digs_len_le.1 (Nat.le_of_eq hl1); rw [Wp_succ, Wp_zero] at this; omega)
              rw [e1] at O3 ⊢
              obtain ⟨g3, o3, rfl, _, hx⟩ := O3.rw.at_ (by simp)
              have x0 := hx 0 (by simp)
              rw [show wd [g] 0 = g from rfl, Nat.add_zero] at x0
              have t3 : ((g : Int) == 1) = false := beq_eq_false_iff_ne.2 (by omega)
              clear e1 hl1
              go_wp2_with fail
              go_ret
              exact ⟨by rw [beq_eq_false_iff_ne.2 hg1]; rfl, bt B1 B3⟩
            · have t3 : (((digs g).length : Int) == 1) = false := beq_eq_false_iff_ne.2 (by omega)
              clear hl1
              go_wp2_with fail
              go_ret
              exact ⟨by rw [beq_eq_false_iff_ne.2 hg1]; rfl, bt B1 B3⟩



set_option maxHeartbeats 2000000 in
theorem rratSound_any (v : Value) (s : Bool) (a b : List Nat) (w : World) (h : VR w w.heap.size v s a b) :
    Calls Try.prog 49 #[v] w fun e w' => e = .returned (.bool (rsB s a b)) ∧ Below w.heap.size w w' := by
  obtain ⟨A, c, D, d, rfl, ra, rb⟩ := h
  have B1 := bal w (.cells #[.bool s, .slice A a.length c, .slice D b.length d] 24)
  have s1 := SB.new w [.bool s, .slice A a.length c, .slice D b.length d] 24
  have m0 := s1.cell 0
  have m1 := s1.cell 1
  have m2 := s1.cell 2
  have hs1 := rsound_any A c _ a _ rfl (st ra B1)
  have hs2 := rsound_any D d _ b _ rfl (st rb B1)
  unfold rsB
  cases h1 : soundB a with
  | false =>
    rw [h1] at hs1
    clear h1
    go_enter Try.func49, Try.ntmps49
    go_wp2_with fail
    refine hs1.mono ?_; rintro e w' ⟨rfl, rfl⟩
    go_wp2_with fail
    go_ret
    exact ⟨rfl, B1⟩
  | true =>
    rw [h1] at hs1
    cases h2 : soundB b with
    | false =>
      rw [h2] at hs2
      clear h1 h2
      go_enter Try.func49, Try.ntmps49
      go_wp2_with fail
      refine hs1.mono ?_; rintro e w' ⟨rfl, rfl⟩
      go_wp2_with fail
      refine hs2.mono ?_; rintro e w' ⟨rfl, rfl⟩
      go_wp2_with fail
      go_ret
      exact ⟨rfl, B1⟩
    | true =>
      rw [h2] at hs2
      have na := nrm_of_sound h1
      have nb := nrm_of_sound h2
      have la := (soundB_parts h1).1
      have lb := (soundB_parts h2).1
      clear h1 h2
      by_cases hb0 : b.length = 0
      · have t1 : ((b.length : Int) == 0) = true := by rw [hb0]; rfl
        rw [decide_eq_false (p := b.length ≠ 0) (fun h => h hb0)]
        clear hb0
        go_enter Try.func49, Try.ntmps49
        go_wp2_with fail
        refine hs1.mono ?_; rintro e w' ⟨rfl, rfl⟩
        go_wp2_with fail
        refine hs2.mono ?_; rintro e w' ⟨rfl, rfl⟩
        go_wp2_with fail
        go_ret
        exact ⟨rfl, B1⟩
      · have t1 : ((b.length : Int) == 0) = false := beq_eq_false_iff_ne.2 (by omega)
        rw [decide_eq_true (p := b.length ≠ 0) hb0]
        have vb : val b ≠ 0 := nrm_pos nb rb.b32 (by omega)
        have hdv := rdivisor_any A D c d _ _ a b _ rfl rfl (st ra B1) (st rb B1) na nb (by omega) (by omega)
        have hgp : Nat.gcd (val a) (val b) ≠ 0 := Nat.gcd_ne_zero_right vb
        generalize Nat.gcd (val a) (val b) = g at *
        by_cases ha0 : a.length = 0
        · have t2 : ((a.length : Int) == 0) = true := by rw [ha0]; rfl
          rw [decide_eq_true (p := a.length = 0) ha0]
          clear ha0
          cases s with
          | true =>
            go_enter Try.func49, Try.ntmps49
            go_wp2_with fail
            refine hs1.mono ?_; rintro e w' ⟨rfl, rfl⟩
            go_wp2_with fail
            refine hs2.mono ?_; rintro e w' ⟨rfl, rfl⟩
            go_wp2_with fail
            go_ret
            exact ⟨rfl, B1⟩
          | false =>
            go_enter Try.func49, Try.ntmps49
            go_wp2_with fail
            refine hs1.mono ?_; rintro e w' ⟨rfl, rfl⟩
            go_wp2_with fail
            refine hs2.mono ?_; rintro e w' ⟨rfl, rfl⟩
            go_wp2_with fail
            refine hdv.mono ?_; rintro e w3 ⟨A3, c3, rfl, O3, B3⟩
            have hsm := same_any A3 (some ⟨w3.heap.size, 0, none⟩) c3 1 _ _ (digs g) [1] (w3.alloc (.cells #[.int .u32 (1 : Nat)] 52)) rfl rfl (st O3.rw (bal _ _)) ((RW.one w3 52 (show 1 < 4294967296 by omega)).more (by simp))
            have hdg : decide (digs g = [1]) = (g == 1) := by
              rw [← digs_one1, Bool.eq_iff_iff, decide_eq_true_eq, beq_iff_eq]
              exact ⟨fun h => digs_inj h, fun h => by rw [h]⟩
            rw [hdg] at hsm
            clear hdg
            go_wp2_with fail
            refine hsm.mono ?_; rintro e w4 ⟨rfl, q4, rfl⟩
            go_wp2_with fail
            go_ret
            exact ⟨rfl, bdN (bt (bt B1 B3) (bal _ _)) q4⟩

        · have t2 : ((a.length : Int) == 0) = false := beq_eq_false_iff_ne.2 (by omega)
          rw [decide_eq_false (p := a.length = 0) ha0]
          go_enter Try.func49, Try.ntmps49
          go_wp2_with fail
          refine hs1.mono ?_; rintro e w' ⟨rfl, rfl⟩
          go_wp2_with fail
          refine hs2.mono ?_; rintro e w' ⟨rfl, rfl⟩
          go_wp2_with fail
          refine hdv.mono ?_; rintro e w3 ⟨A3, c3, rfl, O3, B3⟩
          have hsm := same_any A3 (some ⟨w3.heap.size, 0, none⟩) c3 1 _ _ (digs g) [1] (w3.alloc (.cells #[.int .u32 (1 : Nat)] 52)) rfl rfl (st O3.rw (bal _ _)) ((RW.one w3 52 (show 1 < 4294967296 by omega)).more (by simp))
          have hdg : decide (digs g = [1]) = (g == 1) := by
            rw [← digs_one1, Bool.eq_iff_iff, decide_eq_true_eq, beq_iff_eq]
            exact ⟨fun h => digs_inj h, fun h => by rw [h]⟩
          rw [hdg] at hsm
          clear hdg
          go_wp2_with fail
          refine hsm.mono ?_; rintro e w4 ⟨rfl, q4, rfl⟩
          go_wp2_with fail
          go_ret
          exact ⟨rfl, bdN (bt (bt B1 B3) (bal _ _)) q4⟩



/-- a fraction as it came -/
structure Rw where
  s : Bool
  a : List Nat
  b : List Nat
/-- a rational number, so taken -/
def rwq (q : Rat) : Rw := ⟨qn q, digs (qt q), digs (qd q)⟩
/-- a number's value as it came -/
def VN (w : World) (B : Nat) (v : Value) (r i : Rw) : Prop := ∃ A1 c1 D1 d1 A2 c2 D2 d2, v = .agg #[.bool r.s, .slice A1 r.a.length c1, .slice D1 r.b.length d1, .bool i.s, .slice A2 i.a.length c2, .slice D2 i.b.length d2] ∧
  RW w B A1 c1 r.a ∧ RW w B D1 d1 r.b ∧ RW w B A2 c2 i.a ∧ RW w B D2 d2 i.b
theorem VN.step {w w' : World} {B B' : Nat} {v : Value} {r i : Rw} (h : VN w B v r i) (hb : Below B w w') (hB : B ≤ B') : VN w' B' v r i := by
  obtain ⟨A1, c1, D1, d1, A2, c2, D2, d2, e, h1, h2, h3, h4⟩ := h
  exact ⟨A1, c1, D1, d1, A2, c2, D2, d2, e, h1.step hb hB, h2.step hb hB, h3.step hb hB, h4.step hb hB⟩
theorem VN.st {w w' : World} {v : Value} {r i : Rw} (h : VN w w.heap.size v r i) (hb : Below w.heap.size w w') : VN w' w'.heap.size v r i := h.step hb hb.size
def nB (r i : Rw) : Bool := rsB r.s r.a r.b && rsB i.s i.a i.b


set_option maxHeartbeats 2000000 in
theorem esound_any (v : Value) (r i : Rw) (w : World) (h : VN w w.heap.size v r i) :
    Calls Try.prog 9 #[v] w fun e w' => e = .returned (.bool (nB r i)) ∧ Below w.heap.size w w' := by
  obtain ⟨s1, a1, b1⟩ := r
  obtain ⟨s2, a2, b2⟩ := i
  obtain ⟨A1, c1, D1, d1, A2, c2, D2, d2, rfl, r1, r2, r3, r4⟩ := h
  dsimp only at r1 r2 r3 r4 ⊢
  have B1 := bal w (.cells #[.bool s1, .slice A1 a1.length c1, .slice D1 b1.length d1, .bool s2, .slice A2 a2.length c2, .slice D2 b2.length d2] 26)
  have S1 := SB.new w [.bool s1, .slice A1 a1.length c1, .slice D1 b1.length d1, .bool s2, .slice A2 a2.length c2, .slice D2 b2.length d2] 26
  have m0 := S1.cell 0
  have m1 := S1.cell 1
  have m2 := S1.cell 2
  have h1 := ratSound_any (.agg #[.bool s1, .slice A1 a1.length c1, .slice D1 b1.length d1]) s1 a1 b1 _ ⟨A1, c1, D1, d1, rfl, st r1 B1, st r2 B1⟩
  have h2 := fun w' B => ratSound_any (.agg #[.bool s2, .slice A2 a2.length c2, .slice D2 b2.length d2]) s2 a2 b2 w' ⟨A2, c2, D2, d2, rfl, st (st r3 B1) B, st (st r4 B1) B⟩
  show Calls _ _ _ _ fun e w' => e = .returned (.bool (rsB s1 a1 b1 && rsB s2 a2 b2)) ∧ _
  cases hx : rsB s1 a1 b1 with
  | false =>
    rw [hx] at h1
    clear hx
    go_enter Try.func9, Try.ntmps9
    go_wp2_with fail
    refine h1.mono ?_; rintro e w3 ⟨rfl, B3⟩
    go_wp2_with fail
    go_ret
    exact ⟨rfl, bt B1 B3⟩
  | true =>
    rw [hx] at h1
    clear hx
    go_enter Try.func9, Try.ntmps9
    go_wp2_with fail
    refine h1.mono ?_; rintro e w3 ⟨rfl, B3⟩
    have S3 := S1.nx B3
    have n3 := S3.cell 3
    have n4 := S3.cell 4
    have n5 := S3.cell 5
    go_wp2_with fail
    refine (h2 _ B3).mono ?_; rintro e w4 ⟨rfl, B4⟩
    go_wp2_with fail
    go_ret
    exact ⟨by rw [Bool.true_and]; rfl, bt (bt B1 B3) B4⟩


set_option maxHeartbeats 2000000 in
theorem resound_any (v : Value) (r i : Rw) (w : World) (h : VN w w.heap.size v r i) :
    Calls Try.prog 24 #[v] w fun e w' => e = .returned (.bool (nB r i)) ∧ Below w.heap.size w w' := by
  obtain ⟨s1, a1, b1⟩ := r
  obtain ⟨s2, a2, b2⟩ := i
  obtain ⟨A1, c1, D1, d1, A2, c2, D2, d2, rfl, r1, r2, r3, r4⟩ := h
  dsimp only at r1 r2 r3 r4 ⊢
  have B1 := bal w (.cells #[.bool s1, .slice A1 a1.length c1, .slice D1 b1.length d1, .bool s2, .slice A2 a2.length c2, .slice D2 b2.length d2] 26)
  have S1 := SB.new w [.bool s1, .slice A1 a1.length c1, .slice D1 b1.length d1, .bool s2, .slice A2 a2.length c2, .slice D2 b2.length d2] 26
  have m0 := S1.cell 0
  have m1 := S1.cell 1
  have m2 := S1.cell 2
  have h1 := rratSound_any (.agg #[.bool s1, .slice A1 a1.length c1, .slice D1 b1.length d1]) s1 a1 b1 _ ⟨A1, c1, D1, d1, rfl, st r1 B1, st r2 B1⟩
  have h2 := fun w' B => rratSound_any (.agg #[.bool s2, .slice A2 a2.length c2, .slice D2 b2.length d2]) s2 a2 b2 w' ⟨A2, c2, D2, d2, rfl, st (st r3 B1) B, st (st r4 B1) B⟩
  show Calls _ _ _ _ fun e w' => e = .returned (.bool (rsB s1 a1 b1 && rsB s2 a2 b2)) ∧ _
  cases hx : rsB s1 a1 b1 with
  | false =>
    rw [hx] at h1
    clear hx
    go_enter Try.func24, Try.ntmps24
    go_wp2_with fail
    refine h1.mono ?_; rintro e w3 ⟨rfl, B3⟩
    go_wp2_with fail
    go_ret
    exact ⟨rfl, bt B1 B3⟩
  | true =>
    rw [hx] at h1
    clear hx
    go_enter Try.func24, Try.ntmps24
    go_wp2_with fail
    refine h1.mono ?_; rintro e w3 ⟨rfl, B3⟩
    have S3 := S1.nx B3
    have n3 := S3.cell 3
    have n4 := S3.cell 4
    have n5 := S3.cell 5
    go_wp2_with fail
    refine (h2 _ B3).mono ?_; rintro e w4 ⟨rfl, B4⟩
    go_wp2_with fail
    go_ret
    exact ⟨by rw [Bool.true_and]; rfl, bt (bt B1 B3) B4⟩

end Go.Proofs.Ytkjfpaommbjgbaa
namespace Go.Proofs.Ytkjfpaommbjgbaa
open Go.RowKit

theorem below_dr {w w2 : World} {q : Nat} (h : w2 = w.drewN q) : Below w.heap.size w w2 := by rw [h]; exact bdN (Below.refl _ _) q
theorem equal_any (A D : Option Addr) (c d n m : Nat) (a b : List Nat) (w : World) (hn : n = a.length) (hm : m = b.length) (ha : RW w w.heap.size A c a) (hb : RW w w.heap.size D d b) :
    Calls Try.prog 29 #[.slice A n c, .slice D m d] w fun e w' => e = .returned (.bool (decide (a = b))) ∧ ∃ q, w' = w.drewN q := by
  subst hn hm
  have hba := ha.big
  have hbb := hb.big
  by_cases hlen : a.length = b.length
  · have hl1 : ((a.length : Int) != (b.length : Int)) = false := by simp; omega
    have HL := Lib.hid hlen
    have hlt : ¬ a.length < b.length := by omega
    have hgt : ¬ b.length < a.length := by omega
    clear hlen
    go_enter Try.func29, Try.ntmps29
    go_wp2
    go_loopw [13] (fun i wr => ∃ k : Nat, k ≤ a.length ∧ i = .int .i64 (k : Int) ∧ Hid (a.take k = b.take k) ∧ ∃ q, wr = w.drewN q) (fun i _ => (a.length - intOf i).toNat)
    case atStart => exact ⟨0, Nat.zero_le _, rfl, rfl, 0, rfl⟩
    case round =>
      obtain ⟨k, hk, rfl, hk2, q, rfl⟩ := hrel
      by_cases h0 : k < a.length
      · obtain ⟨b1, o1, rfl, _, hx⟩ := ha.at_ (by omega)
        obtain ⟨b2, o2, rfl, _, hy⟩ := hb.at_ (by omega)
        have hxk := hx k (by omega)
        have hyk := hy k (by omega)
        clear ha hb hx hy
        by_cases h1 : wd a k = wd b k
        · have t1 : ((wd a k : Int) != (wd b k : Int)) = false := by simp; omega
          have HR := Lib.hid (same_step h0 HL.out hk2.out h1)
          clear h1
          go_wp2
          go_quiet (fail)
          go_wp2
          go_roundw
          case rel => exact ⟨k + 1, by omega, by go_num, HR, _, rfl⟩
          case measure => simp [intOf]; omega
        · have t1 : ((wd a k : Int) != (wd b k : Int)) = true := by simp; omega
          go_wp2
          go_quiet (fail)
          go_wp2
          go_ret
          refine ⟨ret_bool ?_, drw _ _⟩
          rw [decide_eq_false (fun e => h1 (by rw [e]))]
      · obtain rfl : k = a.length := by omega
        go_wp2
        go_ret
        refine ⟨?_, q, rfl⟩
        have h2 := hk2.out
        rw [List.take_length, HL.out, List.take_length] at h2
        exact ret_bool (by rw [decide_eq_true h2])
  · have hl1 : ((a.length : Int) != (b.length : Int)) = true := by simp; omega
    go_enter Try.func29, Try.ntmps29
    go_wp2
    go_ret
    exact ⟨ret_bool (by rw [decide_eq_false (fun e => hlen (by rw [e]))]), 0, rfl⟩


def fsB (s : Bool) (a b : List Nat) (s' : Bool) (a' b' : List Nat) : Bool := (s == s') && (decide (a = a') && decide (b = b'))
theorem fsB_iff {s s' : Bool} {a b a' b' : List Nat} : fsB s a b s' a' b' = true ↔ s = s' ∧ a = a' ∧ b = b' := by
  unfold fsB; simp only [Bool.and_eq_true, beq_iff_eq, decide_eq_true_eq]
theorem fsB_q {p q : Rat} : fsB (qn p) (digs (qt p)) (digs (qd p)) (qn q) (digs (qt q)) (digs (qd q)) = decide (p = q) := by
  rw [Bool.eq_iff_iff, fsB_iff, decide_eq_true_eq]
  exact ⟨fun ⟨h1, h2, h3⟩ => q_ext h1 (digs_inj h2) (digs_inj h3), fun h => by rw [h]; exact ⟨rfl, rfl, rfl⟩⟩


set_option maxHeartbeats 2000000 in
theorem same1_any (v u : Value) (s : Bool) (a b : List Nat) (s' : Bool) (a' b' : List Nat) (w : World) (hv : VR w w.heap.size v s a b) (hu : VR w w.heap.size u s' a' b') :
    Calls Try.prog 28 #[v, u] w fun e w' => e = .returned (.bool (fsB s a b s' a' b')) ∧ Below w.heap.size w w' := by
  obtain ⟨A, c, D, d, rfl, ra, rb⟩ := hv
  obtain ⟨E, e0, H, h0, rfl, rc, rd⟩ := hu
  have B1 := bal w (.cells #[.bool s, .slice A a.length c, .slice D b.length d] 24)
  have B2 := bal (w.alloc (.cells #[.bool s, .slice A a.length c, .slice D b.length d] 24)) (.cells #[.bool s', .slice E a'.length e0, .slice H b'.length h0] 24)
  have C2 := bt B1 B2
  have z1 : (w.alloc (.cells #[.bool s, .slice A a.length c, .slice D b.length d] 24)).heap.size = w.heap.size + 1 := by simp
  have S1 := (SB.new w [.bool s, .slice A a.length c, .slice D b.length d] 24).nx B2
  have S2 := SB.new (w.alloc (.cells #[.bool s, .slice A a.length c, .slice D b.length d] 24)) [.bool s', .slice E a'.length e0, .slice H b'.length h0] 24
  rw [z1] at S2
  have m0 := S1.cell 0
  have m1 := S1.cell 1
  have m2 := S1.cell 2
  have n0 := S2.cell 0
  have n1 := S2.cell 1
  have n2 := S2.cell 2
  have h1 := equal_any A E c e0 _ _ a a' _ rfl rfl (st ra C2) (st rc C2)
  have h2 := fun w' B => equal_any D H d h0 _ _ b b' w' rfl rfl (st (st rb C2) B) (st (st rd C2) B)
  unfold fsB
  cases hs : s == s' with
  | false =>
    go_enter Try.func28, Try.ntmps28
    go_wp2_with fail
    go_ret
    exact ⟨rfl, C2⟩
  | true =>
    cases ht : decide (a = a') with
    | false =>
      rw [ht] at h1
      clear ht
      go_enter Try.func28, Try.ntmps28
      go_wp2_with fail
      refine h1.mono ?_; rintro e w3 ⟨rfl, q3, rfl⟩
      go_wp2_with fail
      go_ret
      exact ⟨rfl, bdN C2 q3⟩
    | true =>
      rw [ht] at h1
      clear ht
      go_enter Try.func28, Try.ntmps28
      go_wp2_with fail
      refine h1.mono ?_; rintro e w3 ⟨rfl, q3, h3⟩
      have B3 := below_dr h3
      clear h3
      have k2 := (S1.nx B3).cell 2
      have j2 := (S2.nx B3).cell 2
      go_wp2_with fail
      refine (h2 _ B3).mono ?_; rintro e w4 ⟨rfl, q4, rfl⟩
      go_wp2_with fail
      go_ret
      exact ⟨by simp only [Bool.true_and]; rfl, bdN (bt C2 B3) q4⟩


set_option maxHeartbeats 2000000 in
theorem ratSame_any (v u : Value) (s : Bool) (a b : List Nat) (s' : Bool) (a' b' : List Nat) (w : World) (hv : VR w w.heap.size v s a b) (hu : VR w w.heap.size u s' a' b') :
    Calls Try.prog 20 #[v, u] w fun e w' => e = .returned (.bool (fsB s a b s' a' b')) ∧ Below w.heap.size w w' := by
  obtain ⟨A, c, D, d, rfl, ra, rb⟩ := hv
  obtain ⟨E, e0, H, h0, rfl, rc, rd⟩ := hu
  have B1 := bal w (.cells #[.bool s, .slice A a.length c, .slice D b.length d] 24)
  have B2 := bal (w.alloc (.cells #[.bool s, .slice A a.length c, .slice D b.length d] 24)) (.cells #[.bool s', .slice E a'.length e0, .slice H b'.length h0] 24)
  have C2 := bt B1 B2
  have z1 : (w.alloc (.cells #[.bool s, .slice A a.length c, .slice D b.length d] 24)).heap.size = w.heap.size + 1 := by simp
  have S1 := (SB.new w [.bool s, .slice A a.length c, .slice D b.length d] 24).nx B2
  have S2 := SB.new (w.alloc (.cells #[.bool s, .slice A a.length c, .slice D b.length d] 24)) [.bool s', .slice E a'.length e0, .slice H b'.length h0] 24
  rw [z1] at S2
  have m0 := S1.cell 0
  have m1 := S1.cell 1
  have m2 := S1.cell 2
  have n0 := S2.cell 0
  have n1 := S2.cell 1
  have n2 := S2.cell 2
  have h1 := same_any A E c e0 _ _ a a' _ rfl rfl (st ra C2) (st rc C2)
  have h2 := fun w' B => same_any D H d h0 _ _ b b' w' rfl rfl (st (st rb C2) B) (st (st rd C2) B)
  unfold fsB
  cases hs : s == s' with
  | false =>
    go_enter Try.func20, Try.ntmps20
    go_wp2_with fail
    go_ret
    exact ⟨rfl, C2⟩
  | true =>
    cases ht : decide (a = a') with
    | false =>
      rw [ht] at h1
      clear ht
      go_enter Try.func20, Try.ntmps20
      go_wp2_with fail
      refine h1.mono ?_; rintro e w3 ⟨rfl, q3, rfl⟩
      go_wp2_with fail
      go_ret
      exact ⟨rfl, bdN C2 q3⟩
    | true =>
      rw [ht] at h1
      clear ht
      go_enter Try.func20, Try.ntmps20
      go_wp2_with fail
      refine h1.mono ?_; rintro e w3 ⟨rfl, q3, h3⟩
      have B3 := below_dr h3
      clear h3
      have k2 := (S1.nx B3).cell 2
      have j2 := (S2.nx B3).cell 2
      go_wp2_with fail
      refine (h2 _ B3).mono ?_; rintro e w4 ⟨rfl, q4, rfl⟩
      go_wp2_with fail
      go_ret
      exact ⟨by simp only [Bool.true_and]; rfl, bdN (bt C2 B3) q4⟩


def sameB (r i r' i' : Rw) : Bool := nB r i && (nB r' i' && (fsB r.s r.a r.b r'.s r'.a r'.b && fsB i.s i.a i.b i'.s i'.a i'.b))
def alikeB (r i r' i' : Rw) : Bool := fsB r.s r.a r.b r'.s r'.a r'.b && fsB i.s i.a i.b i'.s i'.a i'.b
theorem vrs {w w' : World} {A : Option Addr} {c : Nat} {D : Option Addr} {d : Nat} {s : Bool} {a b : List Nat} (h1 : RW w w.heap.size A c a) (h2 : RW w w.heap.size D d b) (B : Below w.heap.size w w') :
    VR w' w'.heap.size (.agg #[.bool s, .slice A a.length c, .slice D b.length d]) s a b := ⟨A, c, D, d, rfl, st h1 B, st h2 B⟩
theorem vns {w w' : World} {A : Option Addr} {c : Nat} {D : Option Addr} {d : Nat} {s : Bool} {a b : List Nat} {A2 : Option Addr} {c2 : Nat} {D2 : Option Addr} {d2 : Nat} {s2 : Bool} {a2 b2 : List Nat}
    (h1 : RW w w.heap.size A c a) (h2 : RW w w.heap.size D d b) (h3 : RW w w.heap.size A2 c2 a2) (h4 : RW w w.heap.size D2 d2 b2) (B : Below w.heap.size w w') :
    VN w' w'.heap.size (.agg #[.bool s, .slice A a.length c, .slice D b.length d, .bool s2, .slice A2 a2.length c2, .slice D2 b2.length d2]) ⟨s, a, b⟩ ⟨s2, a2, b2⟩ :=
  ⟨A, c, D, d, A2, c2, D2, d2, rfl, st h1 B, st h2 B, st h3 B, st h4 B⟩


set_option maxHeartbeats 4000000 in
theorem esame_any (v u : Value) (r i r' i' : Rw) (w : World) (hv : VN w w.heap.size v r i) (hu : VN w w.heap.size u r' i') :
    Calls Try.prog 12 #[v, u] w fun e w' => e = .returned (.bool (sameB r i r' i')) ∧ Below w.heap.size w w' := by
  obtain ⟨s11, a11, b11⟩ := r
  obtain ⟨s12, a12, b12⟩ := i
  obtain ⟨A11, c11, D11, d11, A12, c12, D12, d12, rfl, r11, r12, r13, r14⟩ := hv
  dsimp only at r11 r12 r13 r14 ⊢
  obtain ⟨s21, a21, b21⟩ := r'
  obtain ⟨s22, a22, b22⟩ := i'
  obtain ⟨A21, c21, D21, d21, A22, c22, D22, d22, rfl, r21, r22, r23, r24⟩ := hu
  dsimp only at r21 r22 r23 r24 ⊢
  have B1 := bal w (.cells #[.bool s11, .slice A11 a11.length c11, .slice D11 b11.length d11, .bool s12, .slice A12 a12.length c12, .slice D12 b12.length d12] 26)
  have B2 := bal (w.alloc (.cells #[.bool s11, .slice A11 a11.length c11, .slice D11 b11.length d11, .bool s12, .slice A12 a12.length c12, .slice D12 b12.length d12] 26)) (.cells #[.bool s21, .slice A21 a21.length c21, .slice D21 b21.length d21, .bool s22, .slice A22 a22.length c22, .slice D22 b22.length d22] 26)
  have C2 := bt B1 B2
  have z1 : (w.alloc (.cells #[.bool s11, .slice A11 a11.length c11, .slice D11 b11.length d11, .bool s12, .slice A12 a12.length c12, .slice D12 b12.length d12] 26)).heap.size = w.heap.size + 1 := by simp
  have S1 := (SB.new w [.bool s11, .slice A11 a11.length c11, .slice D11 b11.length d11, .bool s12, .slice A12 a12.length c12, .slice D12 b12.length d12] 26).nx B2
  have S2 := SB.new (w.alloc (.cells #[.bool s11, .slice A11 a11.length c11, .slice D11 b11.length d11, .bool s12, .slice A12 a12.length c12, .slice D12 b12.length d12] 26)) [.bool s21, .slice A21 a21.length c21, .slice D21 b21.length d21, .bool s22, .slice A22 a22.length c22, .slice D22 b22.length d22] 26
  rw [z1] at S2
  have m0 := (S1).cell 0
  have m1 := (S1).cell 1
  have m2 := (S1).cell 2
  have m3 := (S1).cell 3
  have m4 := (S1).cell 4
  have m5 := (S1).cell 5
  have n0 := (S2).cell 0
  have n1 := (S2).cell 1
  have n2 := (S2).cell 2
  have n3 := (S2).cell 3
  have n4 := (S2).cell 4
  have n5 := (S2).cell 5
  show Calls _ _ _ _ fun e w' => e = .returned (.bool (nB ⟨s11, a11, b11⟩ ⟨s12, a12, b12⟩ && (nB ⟨s21, a21, b21⟩ ⟨s22, a22, b22⟩ && (fsB s11 a11 b11 s21 a21 b21 && fsB s12 a12 b12 s22 a22 b22)))) ∧ _
  have h0 := fun w' B => esound_any (.agg #[.bool s11, .slice A11 a11.length c11, .slice D11 b11.length d11, .bool s12, .slice A12 a12.length c12, .slice D12 b12.length d12]) ⟨s11, a11, b11⟩ ⟨s12, a12, b12⟩ w' (vns r11 r12 r13 r14 (bt C2 B))
  have h1 := fun w' B => esound_any (.agg #[.bool s21, .slice A21 a21.length c21, .slice D21 b21.length d21, .bool s22, .slice A22 a22.length c22, .slice D22 b22.length d22]) ⟨s21, a21, b21⟩ ⟨s22, a22, b22⟩ w' (vns r21 r22 r23 r24 (bt C2 B))
  have h2 := fun w' B => same1_any (.agg #[.bool s11, .slice A11 a11.length c11, .slice D11 b11.length d11]) (.agg #[.bool s21, .slice A21 a21.length c21, .slice D21 b21.length d21]) s11 a11 b11 s21 a21 b21 w' (vrs r11 r12 (bt C2 B)) (vrs r21 r22 (bt C2 B))
  have h3 := fun w' B => same1_any (.agg #[.bool s12, .slice A12 a12.length c12, .slice D12 b12.length d12]) (.agg #[.bool s22, .slice A22 a22.length c22, .slice D22 b22.length d22]) s12 a12 b12 s22 a22 b22 w' (vrs r13 r14 (bt C2 B)) (vrs r23 r24 (bt C2 B))
  cases t0 : nB ⟨s11, a11, b11⟩ ⟨s12, a12, b12⟩ with
  | false =>
    simp only [t0] at h0
    clear t0
    go_enter Try.func12, Try.ntmps12
    go_wp2_with fail
    refine (h0 _ (Below.refl _ _)).mono ?_; rintro e w0 ⟨rfl, F0⟩
    have E0 := F0
    go_wp2_with fail
    go_ret
    exact ⟨rfl, bt C2 E0⟩
  | true =>
    simp only [t0] at h0
    clear t0
    cases t1 : nB ⟨s21, a21, b21⟩ ⟨s22, a22, b22⟩ with
    | false =>
      simp only [t1] at h1
      clear t1
      go_enter Try.func12, Try.ntmps12
      go_wp2_with fail
      refine (h0 _ (Below.refl _ _)).mono ?_; rintro e w0 ⟨rfl, F0⟩
      have E0 := F0
      have m10 := (S1.nx E0).cell 0
      have m11 := (S1.nx E0).cell 1
      have m12 := (S1.nx E0).cell 2
      have m13 := (S1.nx E0).cell 3
      have m14 := (S1.nx E0).cell 4
      have m15 := (S1.nx E0).cell 5
      have n10 := (S2.nx E0).cell 0
      have n11 := (S2.nx E0).cell 1
      have n12 := (S2.nx E0).cell 2
      have n13 := (S2.nx E0).cell 3
      have n14 := (S2.nx E0).cell 4
      have n15 := (S2.nx E0).cell 5
      go_wp2_with fail
      refine (h1 _ E0).mono ?_; rintro e w1 ⟨rfl, F1⟩
      have E1 := bt E0 F1
      go_wp2_with fail
      go_ret
      exact ⟨rfl, bt C2 E1⟩
    | true =>
      simp only [t1] at h1
      clear t1
      cases t2 : fsB s11 a11 b11 s21 a21 b21 with
      | false =>
        simp only [t2] at h2
        clear t2
        go_enter Try.func12, Try.ntmps12
        go_wp2_with fail
        refine (h0 _ (Below.refl _ _)).mono ?_; rintro e w0 ⟨rfl, F0⟩
        have E0 := F0
        have m10 := (S1.nx E0).cell 0
        have m11 := (S1.nx E0).cell 1
        have m12 := (S1.nx E0).cell 2
        have m13 := (S1.nx E0).cell 3
        have m14 := (S1.nx E0).cell 4
        have m15 := (S1.nx E0).cell 5
        have n10 := (S2.nx E0).cell 0
        have n11 := (S2.nx E0).cell 1
        have n12 := (S2.nx E0).cell 2
        have n13 := (S2.nx E0).cell 3
        have n14 := (S2.nx E0).cell 4
        have n15 := (S2.nx E0).cell 5
        go_wp2_with fail
        refine (h1 _ E0).mono ?_; rintro e w1 ⟨rfl, F1⟩
        have E1 := bt E0 F1
        have m20 := (S1.nx E1).cell 0
        have m21 := (S1.nx E1).cell 1
        have m22 := (S1.nx E1).cell 2
        have m23 := (S1.nx E1).cell 3
        have m24 := (S1.nx E1).cell 4
        have m25 := (S1.nx E1).cell 5
        have n20 := (S2.nx E1).cell 0
        have n21 := (S2.nx E1).cell 1
        have n22 := (S2.nx E1).cell 2
        have n23 := (S2.nx E1).cell 3
        have n24 := (S2.nx E1).cell 4
        have n25 := (S2.nx E1).cell 5
        go_wp2_with fail
        refine (h2 _ E1).mono ?_; rintro e w2 ⟨rfl, F2⟩
        have E2 := bt E1 F2
        go_wp2_with fail
        go_ret
        exact ⟨rfl, bt C2 E2⟩
      | true =>
        simp only [t2] at h2
        clear t2
        go_enter Try.func12, Try.ntmps12
        go_wp2_with fail
        refine (h0 _ (Below.refl _ _)).mono ?_; rintro e w0 ⟨rfl, F0⟩
        have E0 := F0
        have m10 := (S1.nx E0).cell 0
        have m11 := (S1.nx E0).cell 1
        have m12 := (S1.nx E0).cell 2
        have m13 := (S1.nx E0).cell 3
        have m14 := (S1.nx E0).cell 4
        have m15 := (S1.nx E0).cell 5
        have n10 := (S2.nx E0).cell 0
        have n11 := (S2.nx E0).cell 1
        have n12 := (S2.nx E0).cell 2
        have n13 := (S2.nx E0).cell 3
        have n14 := (S2.nx E0).cell 4
        have n15 := (S2.nx E0).cell 5
        go_wp2_with fail
        refine (h1 _ E0).mono ?_; rintro e w1 ⟨rfl, F1⟩
        have E1 := bt E0 F1
        have m20 := (S1.nx E1).cell 0
        have m21 := (S1.nx E1).cell 1
        have m22 := (S1.nx E1).cell 2
        have m23 := (S1.nx E1).cell 3
        have m24 := (S1.nx E1).cell 4
        have m25 := (S1.nx E1).cell 5
        have n20 := (S2.nx E1).cell 0
        have n21 := (S2.nx E1).cell 1
        have n22 := (S2.nx E1).cell 2
        have n23 := (S2.nx E1).cell 3
        have n24 := (S2.nx E1).cell 4
        have n25 := (S2.nx E1).cell 5
        go_wp2_with fail
        refine (h2 _ E1).mono ?_; rintro e w2 ⟨rfl, F2⟩
        have E2 := bt E1 F2
        have m30 := (S1.nx E2).cell 0
        have m31 := (S1.nx E2).cell 1
        have m32 := (S1.nx E2).cell 2
        have m33 := (S1.nx E2).cell 3
        have m34 := (S1.nx E2).cell 4
        have m35 := (S1.nx E2).cell 5
        have n30 := (S2.nx E2).cell 0
        have n31 := (S2.nx E2).cell 1
        have n32 := (S2.nx E2).cell 2
        have n33 := (S2.nx E2).cell 3
        have n34 := (S2.nx E2).cell 4
        have n35 := (S2.nx E2).cell 5
        go_wp2_with fail
        refine (h3 _ E2).mono ?_; rintro e w3 ⟨rfl, F3⟩
        have E3 := bt E2 F3
        go_wp2_with fail
        go_ret
        exact ⟨by simp only [Bool.true_and]; rfl, bt C2 E3⟩


set_option maxHeartbeats 4000000 in
theorem alike_any (v u : Value) (r i r' i' : Rw) (w : World) (hv : VN w w.heap.size v r i) (hu : VN w w.heap.size u r' i') :
    Calls Try.prog 8 #[v, u] w fun e w' => e = .returned (.bool (alikeB r i r' i')) ∧ Below w.heap.size w w' := by
  obtain ⟨s11, a11, b11⟩ := r
  obtain ⟨s12, a12, b12⟩ := i
  obtain ⟨A11, c11, D11, d11, A12, c12, D12, d12, rfl, r11, r12, r13, r14⟩ := hv
  dsimp only at r11 r12 r13 r14 ⊢
  obtain ⟨s21, a21, b21⟩ := r'
  obtain ⟨s22, a22, b22⟩ := i'
  obtain ⟨A21, c21, D21, d21, A22, c22, D22, d22, rfl, r21, r22, r23, r24⟩ := hu
  dsimp only at r21 r22 r23 r24 ⊢
  have B1 := bal w (.cells #[.bool s11, .slice A11 a11.length c11, .slice D11 b11.length d11, .bool s12, .slice A12 a12.length c12, .slice D12 b12.length d12] 26)
  have B2 := bal (w.alloc (.cells #[.bool s11, .slice A11 a11.length c11, .slice D11 b11.length d11, .bool s12, .slice A12 a12.length c12, .slice D12 b12.length d12] 26)) (.cells #[.bool s21, .slice A21 a21.length c21, .slice D21 b21.length d21, .bool s22, .slice A22 a22.length c22, .slice D22 b22.length d22] 26)
  have C2 := bt B1 B2
  have z1 : (w.alloc (.cells #[.bool s11, .slice A11 a11.length c11, .slice D11 b11.length d11, .bool s12, .slice A12 a12.length c12, .slice D12 b12.length d12] 26)).heap.size = w.heap.size + 1 := by simp
  have S1 := (SB.new w [.bool s11, .slice A11 a11.length c11, .slice D11 b11.length d11, .bool s12, .slice A12 a12.length c12, .slice D12 b12.length d12] 26).nx B2
  have S2 := SB.new (w.alloc (.cells #[.bool s11, .slice A11 a11.length c11, .slice D11 b11.length d11, .bool s12, .slice A12 a12.length c12, .slice D12 b12.length d12] 26)) [.bool s21, .slice A21 a21.length c21, .slice D21 b21.length d21, .bool s22, .slice A22 a22.length c22, .slice D22 b22.length d22] 26
  rw [z1] at S2
  have m0 := (S1).cell 0
  have m1 := (S1).cell 1
  have m2 := (S1).cell 2
  have m3 := (S1).cell 3
  have m4 := (S1).cell 4
  have m5 := (S1).cell 5
  have n0 := (S2).cell 0
  have n1 := (S2).cell 1
  have n2 := (S2).cell 2
  have n3 := (S2).cell 3
  have n4 := (S2).cell 4
  have n5 := (S2).cell 5
  show Calls _ _ _ _ fun e w' => e = .returned (.bool (fsB s11 a11 b11 s21 a21 b21 && fsB s12 a12 b12 s22 a22 b22)) ∧ _
  have h0 := fun w' B => ratSame_any (.agg #[.bool s11, .slice A11 a11.length c11, .slice D11 b11.length d11]) (.agg #[.bool s21, .slice A21 a21.length c21, .slice D21 b21.length d21]) s11 a11 b11 s21 a21 b21 w' (vrs r11 r12 (bt C2 B)) (vrs r21 r22 (bt C2 B))
  have h1 := fun w' B => ratSame_any (.agg #[.bool s12, .slice A12 a12.length c12, .slice D12 b12.length d12]) (.agg #[.bool s22, .slice A22 a22.length c22, .slice D22 b22.length d22]) s12 a12 b12 s22 a22 b22 w' (vrs r13 r14 (bt C2 B)) (vrs r23 r24 (bt C2 B))
  cases t0 : fsB s11 a11 b11 s21 a21 b21 with
  | false =>
    simp only [t0] at h0
    clear t0
    go_enter Try.func8, Try.ntmps8
    go_wp2_with fail
    refine (h0 _ (Below.refl _ _)).mono ?_; rintro e w0 ⟨rfl, F0⟩
    have E0 := F0
    go_wp2_with fail
    go_ret
    exact ⟨rfl, bt C2 E0⟩
  | true =>
    simp only [t0] at h0
    clear t0
    go_enter Try.func8, Try.ntmps8
    go_wp2_with fail
    refine (h0 _ (Below.refl _ _)).mono ?_; rintro e w0 ⟨rfl, F0⟩
    have E0 := F0
    have m10 := (S1.nx E0).cell 0
    have m11 := (S1.nx E0).cell 1
    have m12 := (S1.nx E0).cell 2
    have m13 := (S1.nx E0).cell 3
    have m14 := (S1.nx E0).cell 4
    have m15 := (S1.nx E0).cell 5
    have n10 := (S2.nx E0).cell 0
    have n11 := (S2.nx E0).cell 1
    have n12 := (S2.nx E0).cell 2
    have n13 := (S2.nx E0).cell 3
    have n14 := (S2.nx E0).cell 4
    have n15 := (S2.nx E0).cell 5
    go_wp2_with fail
    refine (h1 _ E0).mono ?_; rintro e w1 ⟨rfl, F1⟩
    have E1 := bt E0 F1
    go_wp2_with fail
    go_ret
    exact ⟨by simp only [Bool.true_and]; rfl, bt C2 E1⟩

end Go.Proofs.Ytkjfpaommbjgbaa
namespace Go.Proofs.Ytkjfpaommbjgbaa
open Go.RowKit

def sgn (neg : Bool) (k : Nat) : Int := if neg = true then -(k : Int) else (k : Int)
theorem sgn_true (k : Nat) : sgn true k = -(k : Int) := by unfold sgn; rw [if_pos rfl]
theorem sgn_false (k : Nat) : sgn false k = (k : Int) := by unfold sgn; rw [if_neg (by simp)]
theorem whole_val {neg : Bool} {a : List Nat} : ratN neg (val a) (val [1]) = ((sgn neg (val a) : Int) : Rat) := by rw [val_one]; exact ratN_whole neg (val a)


set_option maxHeartbeats 1000000 in
theorem whole_any (neg : Bool) (A : Option Addr) (c n : Nat) (a : List Nat) (w : World) (hn : n = a.length) (ha : RW w w.heap.size A c a) (na : Nrm a) (hla : a.length ≤ 15000) :
    Calls Try.prog 31 #[.bool neg, .slice A n c] w (RetR w ((sgn neg (val a) : Int) : Rat)) := by
  subst hn
  have B1 := bal w (.cells #[.bool false, .slice none 0 0, .slice none 0 0] 24)
  have s1 := SB.new w [.bool false, .slice none 0 0, .slice none 0 0] 24
  have z1 : (w.alloc (.cells #[.bool false, .slice none 0 0, .slice none 0 0] 24)).heap.size = w.heap.size + 1 := by simp
  have B2 := bal (w.alloc (.cells #[.bool false, .slice none 0 0, .slice none 0 0] 24)) (.cells #[.int .u32 (1 : Nat)] 52)
  have r1 := RW.one (w.alloc (.cells #[.bool false, .slice none 0 0, .slice none 0 0] 24)) 52 (show 1 < 4294967296 by omega)
  rw [z1] at r1
  have hR := rat_any neg A (some ⟨w.heap.size + 1, 0, none⟩) c 1 a.length 1 a [1] _ rfl rfl (st ha (bt B1 B2)) (r1.more (by simp)) na (by rw [← digs_one1]; exact Nrm_digs _) (by rw [val_one]; omega) hla (by simp)
  rw [whole_val] at hR
  generalize ((sgn neg (val a) : Int) : Rat) = q at *
  have s2 := s1.nx B2
  go_enter Try.func31, Try.ntmps31
  go_wp2_with fail
  refine hR.mono ?_; rintro e w4 ⟨A4, c4, A5, c5, rfl, O4, O5, B4⟩
  have s4 := s2.nx B4
  have m0 := s4.cell 0
  have m1 := s4.cell 1
  have m2 := s4.cell 2
  have f0 := s4.frozen 0
  have f1 := s4.frozen 1
  have f2 := s4.frozen 2
  have hb : w.heap.size < ((w.alloc (.cells #[.bool false, .slice none 0 0, .slice none 0 0] 24)).alloc (.cells #[.int .u32 (1 : Nat)] 52)).heap.size := by simp <;> omega
  have s6 := s4.put3 (.bool (qn q)) (.slice A4 (digs (qt q)).length c4) (.slice A5 (digs (qd q)).length c5)
  have B6 := put3_below (b := w.heap.size) (bt (bt B1 B2) B4) (Nat.le_refl _) (.bool (qn q)) (.slice A4 (digs (qt q)).length c4) (.slice A5 (digs (qd q)).length c5)
  have Oa := O4.put3 (b := w.heap.size) hb (.bool (qn q)) (.slice A4 (digs (qt q)).length c4) (.slice A5 (digs (qd q)).length c5)
  have Ob := O5.put3 (b := w.heap.size) hb (.bool (qn q)) (.slice A4 (digs (qt q)).length c4) (.slice A5 (digs (qd q)).length c5)
  have r0 := s6.cell 0
  have r1 := s6.cell 1
  have r2 := s6.cell 2
  unfold wr3 at s6 B6 Oa Ob r0 r1 r2
  go_wp2_with fail
  refine bodyPost_ret (v := (.agg #[.bool (qn q), .slice A4 (digs (qt q)).length c4, .slice A5 (digs (qd q)).length c5])) (by simp [results, r0, r1, r2, go_sem]) rfl ?_
  exact ⟨A4, c4, A5, c5, rfl, Oa.base_le (by omega), Ob.base_le (by omega), B6⟩


/-- an answer: a fraction as it came, of the call's own -/
def RetV (w : World) (s : Bool) (a b : List Nat) (e : Ending) (w' : World) : Prop := ∃ A c D d, e = .returned (.agg #[.bool s, .slice A a.length c, .slice D b.length d]) ∧ OW w' w.heap.size A c a ∧ OW w' w.heap.size D d b ∧ Below w.heap.size w w'


set_option maxHeartbeats 2000000 in
theorem own1_any (v : Value) (s : Bool) (a b : List Nat) (w : World) (hv : VR w w.heap.size v s a b) :
    Calls Try.prog 54 #[v] w (RetV w s a b) := by
  obtain ⟨A, c, D, d, rfl, ra, rb⟩ := hv
  have k0 := S2.new w [.bool s, .slice A a.length c, .slice D b.length d] [.bool false, .slice none 0 0, .slice none 0 0] 24 24 3
  have hC1 := fun w' x => clone_any A c _ a w' rfl x
  have hC2 := fun w' x => clone_any D d _ b w' rfl x
  have hsz : w.heap.size + 1 < ((w.alloc (.cells #[.bool s, .slice A a.length c, .slice D b.length d] 24)).alloc (.cells #[.bool false, .slice none 0 0, .slice none 0 0] 24)).heap.size := k0.2.1.2
  go_enter Try.func54, Try.ntmps54
  go_wp2_with fail
  have k0d := k0.dr
  have k0s := And.intro (k0d.1.cell 0) (And.intro (k0d.1.cell 1) (And.intro (k0d.1.cell 2) (And.intro (k0d.2.1.cell 0) (And.intro (k0d.2.1.frozen 0) (And.intro (k0d.2.1.cell 1) (And.intro (k0d.2.1.frozen 1) (And.intro (k0d.2.1.cell 2) (And.intro (k0d.2.1.frozen 2) (k0d)))))))))
  go_region_held3 (fun w' => w'.cell? ⟨w.heap.size, 0, none⟩ = some (.bool s) ∧ w'.cell? ⟨w.heap.size, 1, none⟩ = some (.slice A a.length c) ∧ w'.cell? ⟨w.heap.size, 2, none⟩ = some (.slice D b.length d) ∧ w'.cell? ⟨w.heap.size + 1, 0, none⟩ = some (cv w' (w.heap.size + 1) 0) ∧ w'.frozen? ⟨w.heap.size + 1, 0, none⟩ = false ∧ w'.cell? ⟨w.heap.size + 1, 1, none⟩ = some (cv w' (w.heap.size + 1) 1) ∧ w'.frozen? ⟨w.heap.size + 1, 1, none⟩ = false ∧ w'.cell? ⟨w.heap.size + 1, 2, none⟩ = some (cv w' (w.heap.size + 1) 2) ∧ w'.frozen? ⟨w.heap.size + 1, 2, none⟩ = false ∧ S2 w w.heap.size [.bool s, .slice A a.length c, .slice D b.length d] 3 w')
    (first
      | with_reducible exact k0s
      | (have s1 := (by assumption : _ ∧ _ ∧ _ ∧ _ ∧ _ ∧ _ ∧ _ ∧ _ ∧ _ ∧ S2 w w.heap.size [.bool s, .slice A a.length c, .slice D b.length d] 3 _).2.2.2.2.2.2.2.2.2.nx BX; have q0_ := s1.1.cell 0; have q1_ := s1.1.cell 1; have q2_ := s1.1.cell 2; have q3_ := s1.2.1.cell 0; have q4_ := s1.2.1.frozen 0; have q5_ := s1.2.1.cell 1; have q6_ := s1.2.1.frozen 1; have q7_ := s1.2.1.cell 2; have q8_ := s1.2.1.frozen 2; with_reducible exact ⟨q0_, q1_, q2_, q3_, q4_, q5_, q6_, q7_, q8_, s1⟩)
      | (have s1 := (by assumption : _ ∧ _ ∧ _ ∧ _ ∧ _ ∧ _ ∧ _ ∧ _ ∧ _ ∧ S2 w w.heap.size [.bool s, .slice A a.length c, .slice D b.length d] 3 _).2.2.2.2.2.2.2.2.2.put (.bool s) (.slice A4 a.length c4) (.slice A5 b.length c5); have q0_ := s1.1.cell 0; have q1_ := s1.1.cell 1; have q2_ := s1.1.cell 2; have q3_ := s1.2.1.cell 0; have q4_ := s1.2.1.frozen 0; have q5_ := s1.2.1.cell 1; have q6_ := s1.2.1.frozen 1; have q7_ := s1.2.1.cell 2; have q8_ := s1.2.1.frozen 2; with_reducible exact ⟨q0_, q1_, q2_, q3_, q4_, q5_, q6_, q7_, q8_, s1⟩))
    (first
      | (go_at_call_of 55 (Value.slice A a.length c); have hh := (by assumption : _ ∧ _ ∧ _ ∧ _ ∧ _ ∧ _ ∧ _ ∧ _ ∧ _ ∧ S2 w w.heap.size [.bool s, .slice A a.length c, .slice D b.length d] 3 _).2.2.2.2.2.2.2.2.2; refine (hC1 _ (st ra hh.2.2)).mono ?_; rintro e w4 ⟨A4, c4, rfl, O4, BX⟩)
      | (go_at_call_of 55 (Value.slice D b.length d); have hh := (by assumption : _ ∧ _ ∧ _ ∧ _ ∧ _ ∧ _ ∧ _ ∧ _ ∧ _ ∧ S2 w w.heap.size [.bool s, .slice A a.length c, .slice D b.length d] 3 _).2.2.2.2.2.2.2.2.2; refine (hC2 _ (st rb hh.2.2)).mono ?_; rintro e w5 ⟨A5, c5, rfl, O5, BX⟩; have kk := hh.nx BX; have B5 := BX; have sz := hh.2.1.2))
  have s6 := kk.2.1.put3 (.bool s) (.slice A4 a.length c4) (.slice A5 b.length c5)
  have B6 := wr3_below (b := w.heap.size + 1) kk.2.2 (by omega) (.bool s) (.slice A4 a.length c4) (.slice A5 b.length c5)
  have Oa := (O4.below B5 (Nat.le_refl _)).put3 (b := w.heap.size + 1) hsz (.bool s) (.slice A4 a.length c4) (.slice A5 b.length c5)
  have Ob := O5.put3 (b := w.heap.size + 1) sz (.bool s) (.slice A4 a.length c4) (.slice A5 b.length c5)
  have r0 := s6.cell 0
  have r1 := s6.cell 1
  have r2 := s6.cell 2
  unfold wr3 at s6 B6 Oa Ob r0 r1 r2
  go_wp2_with fail
  refine bodyPost_ret (v := .agg #[.bool s, .slice A4 a.length c4, .slice A5 b.length c5]) (by simp [results, r0, r1, r2, go_sem]) rfl ?_
  exact ⟨A4, c4, A5, c5, rfl, Oa.base_le (Nat.le_of_lt (Nat.lt_of_succ_lt hsz)), Ob.base_le (by omega), B6⟩


/-- an answer: a number, of the call's own -/
def RetN (w : World) (r i : Rw) (e : Ending) (w' : World) : Prop := ∃ A1 c1 D1 d1 A2 c2 D2 d2, e = .returned (.agg #[.bool r.s, .slice A1 r.a.length c1, .slice D1 r.b.length d1, .bool i.s, .slice A2 i.a.length c2, .slice D2 i.b.length d2]) ∧
  OW w' w.heap.size A1 c1 r.a ∧ OW w' w.heap.size D1 d1 r.b ∧ OW w' w.heap.size A2 c2 i.a ∧ OW w' w.heap.size D2 d2 i.b ∧ Below w.heap.size w w'


set_option maxHeartbeats 4000000 in
theorem own_any (v : Value) (r i : Rw) (w : World) (hv : VN w w.heap.size v r i) :
    Calls Try.prog 35 #[v] w (RetN w r i) := by
  obtain ⟨s1, a1, b1⟩ := r
  obtain ⟨s2, a2, b2⟩ := i
  obtain ⟨A1, c1, D1, d1, A2, c2, D2, d2, rfl, r1, r2, r3, r4⟩ := hv
  dsimp only at r1 r2 r3 r4 ⊢
  have k0 := S2.new w [.bool s1, .slice A1 a1.length c1, .slice D1 b1.length d1, .bool s2, .slice A2 a2.length c2, .slice D2 b2.length d2] [.bool false, .slice none 0 0, .slice none 0 0, .bool false, .slice none 0 0, .slice none 0 0] 26 26 6
  have hsz : w.heap.size + 1 < ((w.alloc (.cells #[.bool s1, .slice A1 a1.length c1, .slice D1 b1.length d1, .bool s2, .slice A2 a2.length c2, .slice D2 b2.length d2] 26)).alloc (.cells #[.bool false, .slice none 0 0, .slice none 0 0, .bool false, .slice none 0 0, .slice none 0 0] 26)).heap.size := k0.2.1.2
  go_enter Try.func35, Try.ntmps35
  go_wp2_with fail
  have k0d := k0.dr
  have k0s := And.intro (k0d.1.cell 0) (And.intro (k0d.1.cell 1) (And.intro (k0d.1.cell 2) (And.intro (k0d.1.cell 3) (And.intro (k0d.1.cell 4) (And.intro (k0d.1.cell 5) (And.intro (k0d.2.1.cell 0) (And.intro (k0d.2.1.frozen 0) (And.intro (k0d.2.1.cell 1) (And.intro (k0d.2.1.frozen 1) (And.intro (k0d.2.1.cell 2) (And.intro (k0d.2.1.frozen 2) (And.intro (k0d.2.1.cell 3) (And.intro (k0d.2.1.frozen 3) (And.intro (k0d.2.1.cell 4) (And.intro (k0d.2.1.frozen 4) (And.intro (k0d.2.1.cell 5) (And.intro (k0d.2.1.frozen 5) (k0d))))))))))))))))))
  go_region_held3 (fun w' => w'.cell? ⟨w.heap.size, 0, none⟩ = some (.bool s1) ∧ w'.cell? ⟨w.heap.size, 1, none⟩ = some (.slice A1 a1.length c1) ∧ w'.cell? ⟨w.heap.size, 2, none⟩ = some (.slice D1 b1.length d1) ∧ w'.cell? ⟨w.heap.size, 3, none⟩ = some (.bool s2) ∧ w'.cell? ⟨w.heap.size, 4, none⟩ = some (.slice A2 a2.length c2) ∧ w'.cell? ⟨w.heap.size, 5, none⟩ = some (.slice D2 b2.length d2) ∧ w'.cell? ⟨w.heap.size + 1, 0, none⟩ = some (cv w' (w.heap.size + 1) 0) ∧ w'.frozen? ⟨w.heap.size + 1, 0, none⟩ = false ∧ w'.cell? ⟨w.heap.size + 1, 1, none⟩ = some (cv w' (w.heap.size + 1) 1) ∧ w'.frozen? ⟨w.heap.size + 1, 1, none⟩ = false ∧ w'.cell? ⟨w.heap.size + 1, 2, none⟩ = some (cv w' (w.heap.size + 1) 2) ∧ w'.frozen? ⟨w.heap.size + 1, 2, none⟩ = false ∧ w'.cell? ⟨w.heap.size + 1, 3, none⟩ = some (cv w' (w.heap.size + 1) 3) ∧ w'.frozen? ⟨w.heap.size + 1, 3, none⟩ = false ∧ w'.cell? ⟨w.heap.size + 1, 4, none⟩ = some (cv w' (w.heap.size + 1) 4) ∧ w'.frozen? ⟨w.heap.size + 1, 4, none⟩ = false ∧ w'.cell? ⟨w.heap.size + 1, 5, none⟩ = some (cv w' (w.heap.size + 1) 5) ∧ w'.frozen? ⟨w.heap.size + 1, 5, none⟩ = false ∧ S2 w w.heap.size [.bool s1, .slice A1 a1.length c1, .slice D1 b1.length d1, .bool s2, .slice A2 a2.length c2, .slice D2 b2.length d2] 6 w')
    (first
      | with_reducible exact k0s
      | (have s1 := (by assumption : _ ∧ _ ∧ _ ∧ _ ∧ _ ∧ _ ∧ _ ∧ _ ∧ _ ∧ _ ∧ _ ∧ _ ∧ _ ∧ _ ∧ _ ∧ _ ∧ _ ∧ _ ∧ S2 w w.heap.size [.bool s1, .slice A1 a1.length c1, .slice D1 b1.length d1, .bool s2, .slice A2 a2.length c2, .slice D2 b2.length d2] 6 _).2.2.2.2.2.2.2.2.2.2.2.2.2.2.2.2.2.2.nx BX; have q0_ := s1.1.cell 0; have q1_ := s1.1.cell 1; have q2_ := s1.1.cell 2; have q3_ := s1.1.cell 3; have q4_ := s1.1.cell 4; have q5_ := s1.1.cell 5; have q6_ := s1.2.1.cell 0; have q7_ := s1.2.1.frozen 0; have q8_ := s1.2.1.cell 1; have q9_ := s1.2.1.frozen 1; have q10_ := s1.2.1.cell 2; have q11_ := s1.2.1.frozen 2; have q12_ := s1.2.1.cell 3; have q13_ := s1.2.1.frozen 3; have q14_ := s1.2.1.cell 4; have q15_ := s1.2.1.frozen 4; have q16_ := s1.2.1.cell 5; have q17_ := s1.2.1.frozen 5; with_reducible exact ⟨q0_, q1_, q2_, q3_, q4_, q5_, q6_, q7_, q8_, q9_, q10_, q11_, q12_, q13_, q14_, q15_, q16_, q17_, s1⟩)
      | (have s1 := (by assumption : _ ∧ _ ∧ _ ∧ _ ∧ _ ∧ _ ∧ _ ∧ _ ∧ _ ∧ _ ∧ _ ∧ _ ∧ _ ∧ _ ∧ _ ∧ _ ∧ _ ∧ _ ∧ S2 w w.heap.size [.bool s1, .slice A1 a1.length c1, .slice D1 b1.length d1, .bool s2, .slice A2 a2.length c2, .slice D2 b2.length d2] 6 _).2.2.2.2.2.2.2.2.2.2.2.2.2.2.2.2.2.2.put6 (.bool s1) (.slice E1 a1.length e1) (.slice F1 b1.length f1) (.bool s2) (.slice E2 a2.length e2) (.slice F2 b2.length f2); have q0_ := s1.1.cell 0; have q1_ := s1.1.cell 1; have q2_ := s1.1.cell 2; have q3_ := s1.1.cell 3; have q4_ := s1.1.cell 4; have q5_ := s1.1.cell 5; have q6_ := s1.2.1.cell 0; have q7_ := s1.2.1.frozen 0; have q8_ := s1.2.1.cell 1; have q9_ := s1.2.1.frozen 1; have q10_ := s1.2.1.cell 2; have q11_ := s1.2.1.frozen 2; have q12_ := s1.2.1.cell 3; have q13_ := s1.2.1.frozen 3; have q14_ := s1.2.1.cell 4; have q15_ := s1.2.1.frozen 4; have q16_ := s1.2.1.cell 5; have q17_ := s1.2.1.frozen 5; with_reducible exact ⟨q0_, q1_, q2_, q3_, q4_, q5_, q6_, q7_, q8_, q9_, q10_, q11_, q12_, q13_, q14_, q15_, q16_, q17_, s1⟩))
    (first
      | (go_at_call_of 54 (Value.agg #[.bool s1, .slice A1 a1.length c1, .slice D1 b1.length d1]); have hh := (by assumption : _ ∧ _ ∧ _ ∧ _ ∧ _ ∧ _ ∧ _ ∧ _ ∧ _ ∧ _ ∧ _ ∧ _ ∧ _ ∧ _ ∧ _ ∧ _ ∧ _ ∧ _ ∧ S2 w w.heap.size [.bool s1, .slice A1 a1.length c1, .slice D1 b1.length d1, .bool s2, .slice A2 a2.length c2, .slice D2 b2.length d2] 6 _).2.2.2.2.2.2.2.2.2.2.2.2.2.2.2.2.2.2; refine (own1_any (.agg #[.bool s1, .slice A1 a1.length c1, .slice D1 b1.length d1]) s1 a1 b1 _ (vrs r1 r2 hh.2.2)).mono ?_; rintro e w4 ⟨E1, e1, F1, f1, rfl, O4, O5, BX⟩)
      | (go_at_call_of 54 (Value.agg #[.bool s2, .slice A2 a2.length c2, .slice D2 b2.length d2]); have hh := (by assumption : _ ∧ _ ∧ _ ∧ _ ∧ _ ∧ _ ∧ _ ∧ _ ∧ _ ∧ _ ∧ _ ∧ _ ∧ _ ∧ _ ∧ _ ∧ _ ∧ _ ∧ _ ∧ S2 w w.heap.size [.bool s1, .slice A1 a1.length c1, .slice D1 b1.length d1, .bool s2, .slice A2 a2.length c2, .slice D2 b2.length d2] 6 _).2.2.2.2.2.2.2.2.2.2.2.2.2.2.2.2.2.2; refine (own1_any (.agg #[.bool s2, .slice A2 a2.length c2, .slice D2 b2.length d2]) s2 a2 b2 _ (vrs r3 r4 hh.2.2)).mono ?_; rintro e w5 ⟨E2, e2, F2, f2, rfl, O6, O7, BX⟩; have kk := hh.nx BX; have B5 := BX; have sz := hh.2.1.2))
  have s6 := kk.2.1.put6 (.bool s1) (.slice E1 a1.length e1) (.slice F1 b1.length f1) (.bool s2) (.slice E2 a2.length e2) (.slice F2 b2.length f2)
  have B6 := wr6_below (b := w.heap.size + 1) kk.2.2 (by omega) (.bool s1) (.slice E1 a1.length e1) (.slice F1 b1.length f1) (.bool s2) (.slice E2 a2.length e2) (.slice F2 b2.length f2)
  have Oa := (O4.below B5 (Nat.le_refl _)).put6 (b := w.heap.size + 1) hsz (.bool s1) (.slice E1 a1.length e1) (.slice F1 b1.length f1) (.bool s2) (.slice E2 a2.length e2) (.slice F2 b2.length f2)
  have Ob := (O5.below B5 (Nat.le_refl _)).put6 (b := w.heap.size + 1) hsz (.bool s1) (.slice E1 a1.length e1) (.slice F1 b1.length f1) (.bool s2) (.slice E2 a2.length e2) (.slice F2 b2.length f2)
  have Oc := O6.put6 (b := w.heap.size + 1) sz (.bool s1) (.slice E1 a1.length e1) (.slice F1 b1.length f1) (.bool s2) (.slice E2 a2.length e2) (.slice F2 b2.length f2)
  have Od := O7.put6 (b := w.heap.size + 1) sz (.bool s1) (.slice E1 a1.length e1) (.slice F1 b1.length f1) (.bool s2) (.slice E2 a2.length e2) (.slice F2 b2.length f2)
  have r0' := s6.cell 0
  have r1' := s6.cell 1
  have r2' := s6.cell 2
  have r3' := s6.cell 3
  have r4' := s6.cell 4
  have r5' := s6.cell 5
  unfold wr6 wr3 at s6 B6 Oa Ob Oc Od r0' r1' r2' r3' r4' r5'
  go_wp2_with fail
  refine bodyPost_ret (v := .agg #[.bool s1, .slice E1 a1.length e1, .slice F1 b1.length f1, .bool s2, .slice E2 a2.length e2, .slice F2 b2.length f2]) (by simp [results, r0', r1', r2', r3', r4', r5', go_sem]) rfl ?_
  have hle := Nat.le_of_lt (Nat.lt_of_succ_lt hsz)
  exact ⟨E1, e1, F1, f1, E2, e2, F2, f2, rfl, Oa.base_le hle, Ob.base_le hle, Oc.base_le (by omega), Od.base_le (by omega), B6⟩

end Go.Proofs.Ytkjfpaommbjgbaa
namespace Go.Proofs.Ytkjfpaommbjgbaa
open Go.RowKit

def rw0 : Rw := ⟨false, [], []⟩
/-- an answer: a number of the call's own, and an error's number -/
def RetNE (w : World) (x : Rw × Rw × Int) (e : Ending) (w' : World) : Prop := ∃ A1 c1 D1 d1 A2 c2 D2 d2, e = .returned (.tuple #[.agg #[.bool x.1.s, .slice A1 x.1.a.length c1, .slice D1 x.1.b.length d1, .bool x.2.1.s, .slice A2 x.2.1.a.length c2, .slice D2 x.2.1.b.length d2], .int .i64 x.2.2]) ∧
  OW w' w.heap.size A1 c1 x.1.a ∧ OW w' w.heap.size D1 d1 x.1.b ∧ OW w' w.heap.size A2 c2 x.2.1.a ∧ OW w' w.heap.size D2 d2 x.2.1.b ∧ Below w.heap.size w w'
theorem retNE_nil {w w' : World} (k : Int) (hb : Below w.heap.size w w') : RetNE w (rw0, rw0, k) (.returned (.tuple #[.agg #[.bool false, .slice none 0 0, .slice none 0 0, .bool false, .slice none 0 0, .slice none 0 0], .int .i64 k])) w' :=
  ⟨none, 0, none, 0, none, 0, none, 0, rfl, OW.nil _ _, OW.nil _ _, OW.nil _ _, OW.nil _ _, hb⟩
def fitQ (p q : Rat) : Rw × Rw × Int := if qw p ≤ 512 ∧ qw q ≤ 512 then (rwq p, rwq q, 0) else (rw0, rw0, 4)
theorem fitQ_ok {p q : Rat} (h1 : qw p ≤ 512) (h2 : qw q ≤ 512) : fitQ p q = (rwq p, rwq q, 0) := by unfold fitQ; rw [if_pos ⟨h1, h2⟩]
theorem fitQ_no {p q : Rat} (h : 512 < qw p ∨ 512 < qw q) : fitQ p q = (rw0, rw0, 4) := by unfold fitQ; rw [if_neg (by omega)]


set_option maxHeartbeats 4000000 in
theorem efit_any (v u : Value) (p q : Rat) (w : World) (hv : RQ w w.heap.size v p) (hu : RQ w w.heap.size u q) :
    Calls Try.prog 15 #[v, u] w (RetNE w (fitQ p q)) := by
  obtain ⟨A, c, D, d, rfl, ra, rb⟩ := hv
  obtain ⟨E, e0, H, h0, rfl, rc, rd⟩ := hu
  have lp1 := qw_t p
  have lp2 := qw_d p
  have lq1 := qw_t q
  have lq2 := qw_d q
  have hw1 : qw p = max (digs (qt p)).length (digs (qd p)).length := rfl
  have hw2 : qw q = max (digs (qt q)).length (digs (qd q)).length := rfl
  have k0 := S3.new w [.bool (qn p), .slice A (digs (qt p)).length c, .slice D (digs (qd p)).length d] [.bool (qn q), .slice E (digs (qt q)).length e0, .slice H (digs (qd q)).length h0] [.bool false, .slice none 0 0, .slice none 0 0, .bool false, .slice none 0 0, .slice none 0 0] 24 24 26 6
  have B4 := bal (((w.alloc (.cells #[.bool (qn p), .slice A (digs (qt p)).length c, .slice D (digs (qd p)).length d] 24)).alloc (.cells #[.bool (qn q), .slice E (digs (qt q)).length e0, .slice H (digs (qd q)).length h0] 24)).alloc (.cells #[.bool false, .slice none 0 0, .slice none 0 0, .bool false, .slice none 0 0, .slice none 0 0] 26)) (.cells #[.slice A (digs (qt p)).length c, .slice D (digs (qd p)).length d, .slice E (digs (qt q)).length e0, .slice H (digs (qd q)).length h0] 22)
  have k1 := k0.nx B4
  have z3 : (((w.alloc (.cells #[.bool (qn p), .slice A (digs (qt p)).length c, .slice D (digs (qd p)).length d] 24)).alloc (.cells #[.bool (qn q), .slice E (digs (qt q)).length e0, .slice H (digs (qd q)).length h0] 24)).alloc (.cells #[.bool false, .slice none 0 0, .slice none 0 0, .bool false, .slice none 0 0, .slice none 0 0] 26)).heap.size = w.heap.size + 3 := by simp
  have SA := SB.new (((w.alloc (.cells #[.bool (qn p), .slice A (digs (qt p)).length c, .slice D (digs (qd p)).length d] 24)).alloc (.cells #[.bool (qn q), .slice E (digs (qt q)).length e0, .slice H (digs (qd q)).length h0] 24)).alloc (.cells #[.bool false, .slice none 0 0, .slice none 0 0, .bool false, .slice none 0 0, .slice none 0 0] 26)) [.slice A (digs (qt p)).length c, .slice D (digs (qd p)).length d, .slice E (digs (qt q)).length e0, .slice H (digs (qd q)).length h0] 22
  rw [z3] at SA
  obtain ⟨W, hW⟩ : ∃ W, W = ((((w.alloc (.cells #[.bool (qn p), .slice A (digs (qt p)).length c, .slice D (digs (qd p)).length d] 24)).alloc (.cells #[.bool (qn q), .slice E (digs (qt q)).length e0, .slice H (digs (qd q)).length h0] 24)).alloc (.cells #[.bool false, .slice none 0 0, .slice none 0 0, .bool false, .slice none 0 0, .slice none 0 0] 26)).alloc (.cells #[.slice A (digs (qt p)).length c, .slice D (digs (qd p)).length d, .slice E (digs (qt q)).length e0, .slice H (digs (qd q)).length h0] 22)) := ⟨_, rfl⟩
  go_enter Try.func15, Try.ntmps15
  go_wp2_with fail
  rw [← hW] at SA k1 ⊢
  clear hW
  go_loopg [18] 4 (fun g iv wr => ∃ k : Nat, k ≤ 4 ∧ 4 - k = g ∧ iv = .int .i64 (k : Int) ∧ (1 ≤ k → (digs (qt p)).length ≤ 512) ∧ (2 ≤ k → (digs (qd p)).length ≤ 512) ∧ (3 ≤ k → (digs (qt q)).length ≤ 512) ∧ (4 ≤ k → (digs (qd q)).length ≤ 512) ∧ wr = W)
  case atStart => exact ⟨0, by omega, rfl, rfl, by intro h; omega, by intro h; omega, by intro h; omega, by intro h; omega, rfl⟩
  case round =>
    obtain ⟨k, hk, rfl, rfl, hq1, hq2, hq3, hq4, rfl⟩ := hrel
    by_cases h4 : k < 4
    · obtain rfl | rfl | rfl | rfl : k = 0 ∨ k = 1 ∨ k = 2 ∨ k = 3 := by omega
      · have x0 := SA.cell 0
        by_cases hl : 512 < (digs (qt p)).length
        · rw [fitQ_no (.inl (by omega))]
          clear hq1 hq2 hq3 hq4
          have hRC := k1.2.2.1
          go_wp2_with (refine wp_st6 rfl (.tmp 4) (.tmp 25) rfl _ rfl _ _ _ _ _ _ rfl hRC rfl rfl rfl rfl rfl rfl ?_)
          have s6 := k1.2.2.1.put6 (.bool false) (.slice none 0 0) (.slice none 0 0) (.bool false) (.slice none 0 0) (.slice none 0 0)
          have B6 := wr6_below (b := w.heap.size + 2) k1.2.2.2 (by omega) (.bool false) (.slice none 0 0) (.slice none 0 0) (.bool false) (.slice none 0 0) (.slice none 0 0)
          have r0' := s6.cell 0
          have r1' := s6.cell 1
          have r2' := s6.cell 2
          have r3' := s6.cell 3
          have r4' := s6.cell 4
          have r5' := s6.cell 5
          refine bodyPost_ret (v := .tuple #[.agg #[.bool false, .slice none 0 0, .slice none 0 0, .bool false, .slice none 0 0, .slice none 0 0], .int .i64 4]) (by simp [results, r0', r1', r2', r3', r4', r5', go_sem]) rfl ?_
          exact retNE_nil 4 B6
        · go_wp2_with fail
          go_roundg 3
          case measure => omega
          case rel => exact ⟨1, by omega, rfl, rfl, by intro _; omega, by intro _; omega, by intro _; omega, by intro _; omega, rfl⟩
      · have x1 := SA.cell 1
        by_cases hl : 512 < (digs (qd p)).length
        · rw [fitQ_no (.inl (by omega))]
          clear hq1 hq2 hq3 hq4
          have hRC := k1.2.2.1
          go_wp2_with (refine wp_st6 rfl (.tmp 4) (.tmp 25) rfl _ rfl _ _ _ _ _ _ rfl hRC rfl rfl rfl rfl rfl rfl ?_)
          have s6 := k1.2.2.1.put6 (.bool false) (.slice none 0 0) (.slice none 0 0) (.bool false) (.slice none 0 0) (.slice none 0 0)
          have B6 := wr6_below (b := w.heap.size + 2) k1.2.2.2 (by omega) (.bool false) (.slice none 0 0) (.slice none 0 0) (.bool false) (.slice none 0 0) (.slice none 0 0)
          have r0' := s6.cell 0
          have r1' := s6.cell 1
          have r2' := s6.cell 2
          have r3' := s6.cell 3
          have r4' := s6.cell 4
          have r5' := s6.cell 5
          refine bodyPost_ret (v := .tuple #[.agg #[.bool false, .slice none 0 0, .slice none 0 0, .bool false, .slice none 0 0, .slice none 0 0], .int .i64 4]) (by simp [results, r0', r1', r2', r3', r4', r5', go_sem]) rfl ?_
          exact retNE_nil 4 B6
        · go_wp2_with fail
          go_roundg 2
          case measure => omega
          case rel => exact ⟨2, by omega, rfl, rfl, by intro _; omega, by intro _; omega, by intro _; omega, by intro _; omega, rfl⟩
      · have x2 := SA.cell 2
        by_cases hl : 512 < (digs (qt q)).length
        · rw [fitQ_no (.inr (by omega))]
          clear hq1 hq2 hq3 hq4
          have hRC := k1.2.2.1
          go_wp2_with (refine wp_st6 rfl (.tmp 4) (.tmp 25) rfl _ rfl _ _ _ _ _ _ rfl hRC rfl rfl rfl rfl rfl rfl ?_)
          have s6 := k1.2.2.1.put6 (.bool false) (.slice none 0 0) (.slice none 0 0) (.bool false) (.slice none 0 0) (.slice none 0 0)
          have B6 := wr6_below (b := w.heap.size + 2) k1.2.2.2 (by omega) (.bool false) (.slice none 0 0) (.slice none 0 0) (.bool false) (.slice none 0 0) (.slice none 0 0)
          have r0' := s6.cell 0
          have r1' := s6.cell 1
          have r2' := s6.cell 2
          have r3' := s6.cell 3
          have r4' := s6.cell 4
          have r5' := s6.cell 5
          refine bodyPost_ret (v := .tuple #[.agg #[.bool false, .slice none 0 0, .slice none 0 0, .bool false, .slice none 0 0, .slice none 0 0], .int .i64 4]) (by simp [results, r0', r1', r2', r3', r4', r5', go_sem]) rfl ?_
          exact retNE_nil 4 B6
        · go_wp2_with fail
          go_roundg 1
          case measure => omega
          case rel => exact ⟨3, by omega, rfl, rfl, by intro _; omega, by intro _; omega, by intro _; omega, by intro _; omega, rfl⟩
      · have x3 := SA.cell 3
        by_cases hl : 512 < (digs (qd q)).length
        · rw [fitQ_no (.inr (by omega))]
          clear hq1 hq2 hq3 hq4
          have hRC := k1.2.2.1
          go_wp2_with (refine wp_st6 rfl (.tmp 4) (.tmp 25) rfl _ rfl _ _ _ _ _ _ rfl hRC rfl rfl rfl rfl rfl rfl ?_)
          have s6 := k1.2.2.1.put6 (.bool false) (.slice none 0 0) (.slice none 0 0) (.bool false) (.slice none 0 0) (.slice none 0 0)
          have B6 := wr6_below (b := w.heap.size + 2) k1.2.2.2 (by omega) (.bool false) (.slice none 0 0) (.slice none 0 0) (.bool false) (.slice none 0 0) (.slice none 0 0)
          have r0' := s6.cell 0
          have r1' := s6.cell 1
          have r2' := s6.cell 2
          have r3' := s6.cell 3
          have r4' := s6.cell 4
          have r5' := s6.cell 5
          refine bodyPost_ret (v := .tuple #[.agg #[.bool false, .slice none 0 0, .slice none 0 0, .bool false, .slice none 0 0, .slice none 0 0], .int .i64 4]) (by simp [results, r0', r1', r2', r3', r4', r5', go_sem]) rfl ?_
          exact retNE_nil 4 B6
        · go_wp2_with fail
          go_roundg 0
          case measure => omega
          case rel => exact ⟨4, by omega, rfl, rfl, by intro _; omega, by intro _; omega, by intro _; omega, by intro _; omega, rfl⟩
    · obtain rfl : k = 4 := by omega
      have h1 := hq1 (by omega)
      have h2 := hq2 (by omega)
      have h3 := hq3 (by omega)
      have h4' := hq4 (by omega)
      have HF := Lib.hid (fitQ_ok (p := p) (q := q) (by omega) (by omega))
      clear hq1 hq2 hq3 hq4 h1 h2 h3 h4' hw1 hw2 lp1 lp2 lq1 lq2
      have a0 := k1.1.cell 0
      have a1 := k1.1.cell 1
      have a2 := k1.1.cell 2
      have b0 := k1.2.1.cell 0
      have b1 := k1.2.1.cell 1
      have b2 := k1.2.1.cell 2
      have B1 := k1.2.2.2
      have hown := own_any (.agg #[.bool (qn p), .slice A (digs (qt p)).length c, .slice D (digs (qd p)).length d, .bool (qn q), .slice E (digs (qt q)).length e0, .slice H (digs (qd q)).length h0]) ⟨qn p, digs (qt p), digs (qd p)⟩ ⟨qn q, digs (qt q), digs (qd q)⟩ wr (vns ra rb rc rd B1)
      go_wp2_with fail
      refine hown.mono ?_; rintro e w5 ⟨E1, e1, F1, f1, E2, e2, F2, f2, rfl, O1, O2, O3, O4, B5⟩
      dsimp only at O1 O2 O3 O4
      have k5 := k1.nx B5
      have hb := k1.2.2.1.2
      have hRC := k5.2.2.1
      go_wp2_with (refine wp_st6 rfl (.tmp 4) (.tmp 30) rfl _ rfl _ _ _ _ _ _ rfl hRC rfl rfl rfl rfl rfl rfl ?_)
      have s6 := k5.2.2.1.put6 (.bool (qn p)) (.slice E1 (digs (qt p)).length e1) (.slice F1 (digs (qd p)).length f1) (.bool (qn q)) (.slice E2 (digs (qt q)).length e2) (.slice F2 (digs (qd q)).length f2)
      have B6 := wr6_below (b := w.heap.size + 2) k5.2.2.2 (by omega) (.bool (qn p)) (.slice E1 (digs (qt p)).length e1) (.slice F1 (digs (qd p)).length f1) (.bool (qn q)) (.slice E2 (digs (qt q)).length e2) (.slice F2 (digs (qd q)).length f2)
      have Oa := O1.put6 (b := w.heap.size + 2) hb (.bool (qn p)) (.slice E1 (digs (qt p)).length e1) (.slice F1 (digs (qd p)).length f1) (.bool (qn q)) (.slice E2 (digs (qt q)).length e2) (.slice F2 (digs (qd q)).length f2)
      have Ob := O2.put6 (b := w.heap.size + 2) hb (.bool (qn p)) (.slice E1 (digs (qt p)).length e1) (.slice F1 (digs (qd p)).length f1) (.bool (qn q)) (.slice E2 (digs (qt q)).length e2) (.slice F2 (digs (qd q)).length f2)
      have Oc := O3.put6 (b := w.heap.size + 2) hb (.bool (qn p)) (.slice E1 (digs (qt p)).length e1) (.slice F1 (digs (qd p)).length f1) (.bool (qn q)) (.slice E2 (digs (qt q)).length e2) (.slice F2 (digs (qd q)).length f2)
      have Od := O4.put6 (b := w.heap.size + 2) hb (.bool (qn p)) (.slice E1 (digs (qt p)).length e1) (.slice F1 (digs (qd p)).length f1) (.bool (qn q)) (.slice E2 (digs (qt q)).length e2) (.slice F2 (digs (qd q)).length f2)
      have r0' := s6.cell 0
      have r1' := s6.cell 1
      have r2' := s6.cell 2
      have r3' := s6.cell 3
      have r4' := s6.cell 4
      have r5' := s6.cell 5
      refine bodyPost_ret (v := .tuple #[.agg #[.bool (qn p), .slice E1 (digs (qt p)).length e1, .slice F1 (digs (qd p)).length f1, .bool (qn q), .slice E2 (digs (qt q)).length e2, .slice F2 (digs (qd q)).length f2], .int .i64 0]) (by simp [results, r0', r1', r2', r3', r4', r5', go_sem]) rfl ?_
      have hle : w.heap.size ≤ wr.heap.size := by omega
      rw [HF.out]
      exact ⟨E1, e1, F1, f1, E2, e2, F2, f2, rfl, Oa.base_le hle, Ob.base_le hle, Oc.base_le hle, Od.base_le hle, B6⟩

end Go.Proofs.Ytkjfpaommbjgbaa
namespace Go.Proofs.Ytkjfpaommbjgbaa
open Go.RowKit


theorem digs_u64 {k : Nat} (h : k < 18446744073709551616) : (digs k).length ≤ 2 := by
  rw [digs_len_le]
  exact Nat.lt_of_lt_of_le h (by rw [Wp_succ, Wp_succ, Wp_zero]; omega)
set_option maxHeartbeats 4000000 in
theorem int_any (n : Int) (w : World) (h0 : -9223372036854775808 ≤ n) (h1 : n ≤ 9223372036854775807) :
    Calls Try.prog 19 #[.int .i64 n] w (RetN w (rwq (n : Rat)) (rwq 0)) := by
  have B1 := bal w (.cells #[.bool false, .slice none 0 0, .slice none 0 0, .bool false, .slice none 0 0, .slice none 0 0] 26)
  have s1 := SB.new w [.bool false, .slice none 0 0, .slice none 0 0, .bool false, .slice none 0 0, .slice none 0 0] 26
  obtain ⟨q, hq⟩ : ∃ q : Rat, Hid (((sgn false (val []) : Int) : Rat) = q) ∧ Hid (q = 0) := ⟨_, rfl, by show _ = _; rw [sgn_false]; rfl⟩
  obtain ⟨hq, hq0⟩ := hq
  by_cases hn : n < 0
  · obtain ⟨k, hk⟩ : ∃ k : Nat, -n = (k : Int) := Int.eq_ofNat_of_zero_le (by omega)
    have hk64 : k < 18446744073709551616 := by omega
    have hlk := digs_u64 hk64
    obtain ⟨p, hp, hp0⟩ : ∃ p : Rat, Hid (((sgn true k : Int) : Rat) = p) ∧ Hid (p = (n : Rat)) := ⟨_, rfl, by show _ = _; rw [sgn_true, ← hk, Int.neg_neg]⟩
    have hof := of_any (k : Int) (w.alloc (.cells #[.bool false, .slice none 0 0, .slice none 0 0, .bool false, .slice none 0 0, .slice none 0 0] 26)) (by omega) (by omega)
    rw [Int.toNat_natCast] at hof
    have e2 : IntKind.u64.wrap (-IntKind.u64.wrap n) = (k : Int) := by rw [IntKind.wrap_u64, IntKind.wrap_u64]; omega
    have HK := Lib.hid hk
    rw [← hp0.out, ← hq0.out]
    clear hk
    go_enter Try.func19, Try.ntmps19
    go_wp2_with fail
    refine hof.mono ?_; rintro e w3 ⟨A3, c3, rfl, O3, B3⟩
    have hw1 := whole_any true A3 c3 _ (digs k) w3 rfl O3.rw (Nrm_digs _) (by omega)
    rw [val_digs, hp.out] at hw1
    go_wp2_with fail
    refine hw1.mono ?_; rintro e w4 ⟨A4, c4, D4, d4, rfl, O4, P4, B4⟩
    have hw2 := whole_any false none 0 0 [] w4 rfl (RW.nil _ _ _ _) Nrm_nil (by simp)
    rw [hq.out] at hw2
    go_wp2_with fail
    refine hw2.mono ?_; rintro e w5 ⟨A5, c5, D5, d5, rfl, O5, P5, B5⟩
    have s5 := ((s1.nx B3).nx B4).nx B5
    have hRC := s5.rc (n := 6)
    have hb3 : w.heap.size < w3.heap.size := (s1.nx B3).2
    have hb4 : w.heap.size < w4.heap.size := ((s1.nx B3).nx B4).2
    go_wp2_with (refine wp_st6 rfl (.tmp 2) (.tmp 16) rfl _ rfl _ _ _ _ _ _ rfl hRC rfl rfl rfl rfl rfl rfl ?_)
    have s6 := hRC.put6 (.bool (qn p)) (.slice A4 (digs (qt p)).length c4) (.slice D4 (digs (qd p)).length d4) (.bool (qn q)) (.slice A5 (digs (qt q)).length c5) (.slice D5 (digs (qd q)).length d5)
    have B6 := wr6_below (b := w.heap.size) (bt (bt (bt B1 B3) B4) B5) (Nat.le_refl _) (.bool (qn p)) (.slice A4 (digs (qt p)).length c4) (.slice D4 (digs (qd p)).length d4) (.bool (qn q)) (.slice A5 (digs (qt q)).length c5) (.slice D5 (digs (qd q)).length d5)
    have Oa := (O4.below B5 (Nat.le_refl _)).put6 (b := w.heap.size) hb3 (.bool (qn p)) (.slice A4 (digs (qt p)).length c4) (.slice D4 (digs (qd p)).length d4) (.bool (qn q)) (.slice A5 (digs (qt q)).length c5) (.slice D5 (digs (qd q)).length d5)
    have Ob := (P4.below B5 (Nat.le_refl _)).put6 (b := w.heap.size) hb3 (.bool (qn p)) (.slice A4 (digs (qt p)).length c4) (.slice D4 (digs (qd p)).length d4) (.bool (qn q)) (.slice A5 (digs (qt q)).length c5) (.slice D5 (digs (qd q)).length d5)
    have Oc := O5.put6 (b := w.heap.size) hb4 (.bool (qn p)) (.slice A4 (digs (qt p)).length c4) (.slice D4 (digs (qd p)).length d4) (.bool (qn q)) (.slice A5 (digs (qt q)).length c5) (.slice D5 (digs (qd q)).length d5)
    have Od := P5.put6 (b := w.heap.size) hb4 (.bool (qn p)) (.slice A4 (digs (qt p)).length c4) (.slice D4 (digs (qd p)).length d4) (.bool (qn q)) (.slice A5 (digs (qt q)).length c5) (.slice D5 (digs (qd q)).length d5)
    have r0' := s6.cell 0
    have r1' := s6.cell 1
    have r2' := s6.cell 2
    have r3' := s6.cell 3
    have r4' := s6.cell 4
    have r5' := s6.cell 5
    refine bodyPost_ret (v := .agg #[.bool (qn p), .slice A4 (digs (qt p)).length c4, .slice D4 (digs (qd p)).length d4, .bool (qn q), .slice A5 (digs (qt q)).length c5, .slice D5 (digs (qd q)).length d5]) (by simp [results, r0', r1', r2', r3', r4', r5', go_sem]) rfl ?_
    exact ⟨A4, c4, D4, d4, A5, c5, D5, d5, rfl, Oa.base_le (Nat.le_of_lt hb3), Ob.base_le (Nat.le_of_lt hb3), Oc.base_le (Nat.le_of_lt hb4), Od.base_le (Nat.le_of_lt hb4), B6⟩

  · obtain ⟨k, rfl⟩ : ∃ k : Nat, n = (k : Int) := Int.eq_ofNat_of_zero_le (by omega)
    have hk64 : k < 18446744073709551616 := by omega
    have hlk := digs_u64 hk64
    obtain ⟨p, hp, hp0⟩ : ∃ p : Rat, Hid (((sgn false k : Int) : Rat) = p) ∧ Hid (p = ((k : Int) : Rat)) := ⟨_, rfl, by show _ = _; rw [sgn_false]⟩
    have hof := of_any (k : Int) (w.alloc (.cells #[.bool false, .slice none 0 0, .slice none 0 0, .bool false, .slice none 0 0, .slice none 0 0] 26)) (by omega) (by omega)
    rw [Int.toNat_natCast] at hof
    have e2 : IntKind.u64.wrap (k : Int) = (k : Int) := by rw [IntKind.wrap_u64]; omega
    rw [← hp0.out, ← hq0.out]
    go_enter Try.func19, Try.ntmps19
    go_wp2_with fail
    refine hof.mono ?_; rintro e w3 ⟨A3, c3, rfl, O3, B3⟩
    have hw1 := whole_any false A3 c3 _ (digs k) w3 rfl O3.rw (Nrm_digs _) (by omega)
    rw [val_digs, hp.out] at hw1
    go_wp2_with fail
    refine hw1.mono ?_; rintro e w4 ⟨A4, c4, D4, d4, rfl, O4, P4, B4⟩
    have hw2 := whole_any false none 0 0 [] w4 rfl (RW.nil _ _ _ _) Nrm_nil (by simp)
    rw [hq.out] at hw2
    go_wp2_with fail
    refine hw2.mono ?_; rintro e w5 ⟨A5, c5, D5, d5, rfl, O5, P5, B5⟩
    have s5 := ((s1.nx B3).nx B4).nx B5
    have hRC := s5.rc (n := 6)
    have hb3 : w.heap.size < w3.heap.size := (s1.nx B3).2
    have hb4 : w.heap.size < w4.heap.size := ((s1.nx B3).nx B4).2
    go_wp2_with (refine wp_st6 rfl (.tmp 2) (.tmp 16) rfl _ rfl _ _ _ _ _ _ rfl hRC rfl rfl rfl rfl rfl rfl ?_)
    have s6 := hRC.put6 (.bool (qn p)) (.slice A4 (digs (qt p)).length c4) (.slice D4 (digs (qd p)).length d4) (.bool (qn q)) (.slice A5 (digs (qt q)).length c5) (.slice D5 (digs (qd q)).length d5)
    have B6 := wr6_below (b := w.heap.size) (bt (bt (bt B1 B3) B4) B5) (Nat.le_refl _) (.bool (qn p)) (.slice A4 (digs (qt p)).length c4) (.slice D4 (digs (qd p)).length d4) (.bool (qn q)) (.slice A5 (digs (qt q)).length c5) (.slice D5 (digs (qd q)).length d5)
    have Oa := (O4.below B5 (Nat.le_refl _)).put6 (b := w.heap.size) hb3 (.bool (qn p)) (.slice A4 (digs (qt p)).length c4) (.slice D4 (digs (qd p)).length d4) (.bool (qn q)) (.slice A5 (digs (qt q)).length c5) (.slice D5 (digs (qd q)).length d5)
    have Ob := (P4.below B5 (Nat.le_refl _)).put6 (b := w.heap.size) hb3 (.bool (qn p)) (.slice A4 (digs (qt p)).length c4) (.slice D4 (digs (qd p)).length d4) (.bool (qn q)) (.slice A5 (digs (qt q)).length c5) (.slice D5 (digs (qd q)).length d5)
    have Oc := O5.put6 (b := w.heap.size) hb4 (.bool (qn p)) (.slice A4 (digs (qt p)).length c4) (.slice D4 (digs (qd p)).length d4) (.bool (qn q)) (.slice A5 (digs (qt q)).length c5) (.slice D5 (digs (qd q)).length d5)
    have Od := P5.put6 (b := w.heap.size) hb4 (.bool (qn p)) (.slice A4 (digs (qt p)).length c4) (.slice D4 (digs (qd p)).length d4) (.bool (qn q)) (.slice A5 (digs (qt q)).length c5) (.slice D5 (digs (qd q)).length d5)
    have r0' := s6.cell 0
    have r1' := s6.cell 1
    have r2' := s6.cell 2
    have r3' := s6.cell 3
    have r4' := s6.cell 4
    have r5' := s6.cell 5
    refine bodyPost_ret (v := .agg #[.bool (qn p), .slice A4 (digs (qt p)).length c4, .slice D4 (digs (qd p)).length d4, .bool (qn q), .slice A5 (digs (qt q)).length c5, .slice D5 (digs (qd q)).length d5]) (by simp [results, r0', r1', r2', r3', r4', r5', go_sem]) rfl ?_
    exact ⟨A4, c4, D4, d4, A5, c5, D5, d5, rfl, Oa.base_le (Nat.le_of_lt hb3), Ob.base_le (Nat.le_of_lt hb3), Oc.base_le (Nat.le_of_lt hb4), Od.base_le (Nat.le_of_lt hb4), B6⟩


end Go.Proofs.Ytkjfpaommbjgbaa
namespace Go.Proofs.Ytkjfpaommbjgbaa
open Go.RowKit

/-- a whole number -/
def wB (r i : Rw) : Bool := nB r i && (decide (i.a.length = 0) && decide (r.b = [1]))


/-- a whole number is an integer -/
theorem wB_int {r i : Rw} (h : wB r i = true) : r.a = digs (val r.a) ∧ r.b = [1] ∧ i = ⟨false, [], [1]⟩ ∧ (val r.a = 0 → r.s = false) ∧ r.a.length ≤ 512 := by
  unfold wB nB at h
  simp only [Bool.and_eq_true, decide_eq_true_eq] at h
  obtain ⟨⟨h1, h2⟩, h3, h4⟩ := h
  obtain ⟨p1, p2, p3, p4, p5⟩ := rsB_parts h1
  obtain ⟨q1, q2, q3, q4, q5⟩ := rsB_parts h2
  obtain ⟨l1, e1⟩ := soundB_parts p1
  have hi : i.a = [] := List.eq_nil_of_length_eq_zero h3
  refine ⟨e1.symm, h4, ?_, ?_, l1⟩
  · obtain ⟨is, ia, ib⟩ := i
    dsimp only at *
    subst hi
    rw [show val ([] : List Nat) = 0 from rfl, Nat.gcd_zero_left] at q5
    have e2 := (soundB_parts q2).2
    rw [q5, digs_one1] at e2
    rw [← e2, q4 rfl]
  · intro h0
    exact p4 (by rw [← e1, h0, digs_zero]; rfl)

end Go.Proofs.Ytkjfpaommbjgbaa
