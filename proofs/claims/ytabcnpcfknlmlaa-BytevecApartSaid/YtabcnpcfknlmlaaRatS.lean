/- Walks: is it a fraction, is it a number: of exact and of its reference. -/
import Derived.Test.YtabcnpcfknlmlaaRatR
namespace Go.Proofs.Ytabcnpcfknlmlaa
open Go.RowKit

/-- a fraction is sound -/
def rsB (s : Bool) (a b : List Nat) : Bool := soundB a && (soundB b && (decide (b.length ≠ 0) && (!(decide (a.length = 0) && s) && (Nat.gcd (val a) (val b) == 1))))
theorem rsB_parts {s : Bool} {a b : List Nat} (h : rsB s a b = true) : soundB a = true ∧ soundB b = true ∧ b.length ≠ 0 ∧ (a.length = 0 → s = false) ∧ Nat.gcd (val a) (val b) = 1 := by
  unfold rsB at h
  simp only [Bool.and_eq_true, decide_eq_true_eq, Bool.not_eq_true', Bool.and_eq_false_iff, decide_eq_false_iff_not, beq_iff_eq] at h
  obtain ⟨h1, h2, h3, h4, h5⟩ := h
  exact ⟨h1, h2, h3, fun h0 => h4.resolve_left (fun h => h h0), h5⟩
theorem soundB_parts {a : List Nat} (h : soundB a = true) : a.length ≤ 512 ∧ digs (val a) = a := by
  unfold soundB at h
  rw [decide_eq_true_eq] at h
  exact ⟨h.1, h.2.symm⟩
/-- a fraction that is sound is a rational number -/
theorem rsB_rat {s : Bool} {a b : List Nat} (h : rsB s a b = true) : ∃ q, qn q = s ∧ digs (qt q) = a ∧ digs (qd q) = b ∧ qw q ≤ 512 := by
  obtain ⟨h1, h2, h3, h4, h5⟩ := rsB_parts h
  obtain ⟨l1, e1⟩ := soundB_parts h1
  obtain ⟨l2, e2⟩ := soundB_parts h2
  have hd : val b ≠ 0 := fun h0 => h3 (by rw [← e2, h0, digs_zero]; rfl)
  obtain ⟨q, q1, q2, q3⟩ := q_of (neg := s) hd h5 (fun h0 => h4 (by rw [← e1, h0, digs_zero]; rfl))
  refine ⟨q, q1, by rw [q2, e1], by rw [q3, e2], ?_⟩
  unfold qw
  rw [q2, q3, e1, e2]
  omega
theorem rsB_of (q : Rat) (h : qw q ≤ 512) : rsB (qn q) (digs (qt q)) (digs (qd q)) = true := by
  have h1 := qw_t q
  have h2 := qw_d q
  unfold rsB soundB
  rw [val_digs, val_digs, q_cop]
  have h3 := qd_pos q
  have h4 : (decide (qt q = 0) && qn q) = false := by
    by_cases h0 : qt q = 0
    · rw [qn_zero h0]; simp
    · rw [decide_eq_false h0]; rfl
  have h5 : decide ((digs (qt q)).length = 0) = decide (qt q = 0) := by rw [decide_eq_decide]; exact digs_len0
  have h6 : (digs (qd q)).length ≠ 0 := fun h => h3 (digs_len0.1 h)
  rw [h5, h4]
  simp only [Bool.and_eq_true, decide_eq_true_eq, Bool.not_false, beq_self_eq_true]
  exact ⟨⟨by omega, trivial⟩, ⟨by omega, trivial⟩, h6, trivial, trivial⟩
theorem rsB_big {q : Rat} (h : 512 < qw q) : rsB (qn q) (digs (qt q)) (digs (qd q)) = false := by
  cases hc : rsB (qn q) (digs (qt q)) (digs (qd q)) with
  | false => rfl
  | true =>
    obtain ⟨h1, h2, _⟩ := rsB_parts hc
    have := (soundB_parts h1).1
    have := (soundB_parts h2).1
    unfold qw at h
    omega
/-- a fraction's value as it came -/
def VR (w : World) (B : Nat) (v : Value) (s : Bool) (a b : List Nat) : Prop := ∃ A c D d, v = .agg #[.bool s, .slice A a.length c, .slice D b.length d] ∧ RW w B A c a ∧ RW w B D d b
theorem VR.step {w w' : World} {B B' : Nat} {v : Value} {s : Bool} {a b : List Nat} (h : VR w B v s a b) (hb : Below B w w') (hB : B ≤ B') : VR w' B' v s a b := by
  obtain ⟨A, c, D, d, e, h1, h2⟩ := h
  exact ⟨A, c, D, d, e, h1.step hb hB, h2.step hb hB⟩
theorem VR.st {w w' : World} {v : Value} {s : Bool} {a b : List Nat} (h : VR w w.heap.size v s a b) (hb : Below w.heap.size w w') : VR w' w'.heap.size v s a b := h.step hb hb.size
theorem RQ.vr {w : World} {B : Nat} {v : Value} {q : Rat} (h : RQ w B v q) : VR w B v (qn q) (digs (qt q)) (digs (qd q)) := h
theorem VR.rq {w : World} {B : Nat} {v : Value} {s : Bool} {a b : List Nat} {q : Rat} (h : VR w B v s a b) (h1 : qn q = s) (h2 : digs (qt q) = a) (h3 : digs (qd q) = b) : RQ w B v q := by
  subst h1 h2 h3; exact h
theorem nrm_of_sound {a : List Nat} (h : soundB a = true) : Nrm a := Nrm_of_digs (soundB_parts h).2.symm
theorem digs_one1 : digs 1 = [1] := digs_one (by omega) (by omega)


set_option maxHeartbeats 2000000 in
theorem ratSound_any (v : Value) (s : Bool) (a b : List Nat) (w : World) (h : VR w w.heap.size v s a b) :
    Calls Try.prog 71 #[v] w fun e w' => e = .returned (.bool (rsB s a b)) ∧ Below w.heap.size w w' := by
  obtain ⟨A, c, D, d, rfl, ra, rb⟩ := h
  have B1 := bal w (.cells #[.bool s, .slice A a.length c, .slice D b.length d] 25)
  have s1 := SB.new w [.bool s, .slice A a.length c, .slice D b.length d] 25
  have m0 := s1.cell 0
  have m1 := s1.cell 1
  have m2 := s1.cell 2
  have hs1 := sound_any A c _ a _ rfl (st ra B1)
  have hs2 := sound_any D d _ b _ rfl (st rb B1)
  unfold rsB
  cases h1 : soundB a with
  | false =>
    rw [h1] at hs1
    clear h1
    go_enter Try.func71, Try.ntmps71
    go_wp2_with fail
    refine hs1.mono ?_; rintro e w' ⟨rfl, rfl⟩
    go_wp2_with fail
    go_ret
    exact ⟨rfl, B1⟩
  | true =>
    rw [h1] at hs1
    cases h2 : soundB b with
    | false =>
      rw [h2] at hs2
      clear h1 h2
      go_enter Try.func71, Try.ntmps71
      go_wp2_with fail
      refine hs1.mono ?_; rintro e w' ⟨rfl, rfl⟩
      go_wp2_with fail
      refine hs2.mono ?_; rintro e w' ⟨rfl, rfl⟩
      go_wp2_with fail
      go_ret
      exact ⟨rfl, B1⟩
    | true =>
      rw [h2] at hs2
      have na := nrm_of_sound h1
      have nb := nrm_of_sound h2
      have la := (soundB_parts h1).1
      have lb := (soundB_parts h2).1
      clear h1 h2
      by_cases hb0 : b.length = 0
      · have t1 : ((b.length : Int) == 0) = true := by rw [hb0]; rfl
        rw [decide_eq_false (p := b.length ≠ 0) (fun h => h hb0)]
        clear hb0
        go_enter Try.func71, Try.ntmps71
        go_wp2_with fail
        refine hs1.mono ?_; rintro e w' ⟨rfl, rfl⟩
        go_wp2_with fail
        refine hs2.mono ?_; rintro e w' ⟨rfl, rfl⟩
        go_wp2_with fail
        go_ret
        exact ⟨rfl, B1⟩
      · have t1 : ((b.length : Int) == 0) = false := beq_eq_false_iff_ne.2 (by omega)
        rw [decide_eq_true (p := b.length ≠ 0) hb0]
        have vb : val b ≠ 0 := nrm_pos nb rb.b32 (by omega)
        have hdv := divisor_any A D c d _ _ a b _ rfl rfl (st ra B1) (st rb B1) na nb (by omega) (by omega)
        have hgp : Nat.gcd (val a) (val b) ≠ 0 := Nat.gcd_ne_zero_right vb
        generalize Nat.gcd (val a) (val b) = g at *
        by_cases ha0 : a.length = 0
        · have t2 : ((a.length : Int) == 0) = true := by rw [ha0]; rfl
          rw [decide_eq_true (p := a.length = 0) ha0]
          clear ha0
          cases s with
          | true =>
            go_enter Try.func71, Try.ntmps71
            go_wp2_with fail
            refine hs1.mono ?_; rintro e w' ⟨rfl, rfl⟩
            go_wp2_with fail
            refine hs2.mono ?_; rintro e w' ⟨rfl, rfl⟩
            go_wp2_with fail
            go_ret
            exact ⟨rfl, B1⟩
          | false =>
            go_enter Try.func71, Try.ntmps71
            go_wp2_with fail
            refine hs1.mono ?_; rintro e w' ⟨rfl, rfl⟩
            go_wp2_with fail
            refine hs2.mono ?_; rintro e w' ⟨rfl, rfl⟩
            go_wp2_with fail
            refine hdv.mono ?_; rintro e w3 ⟨A3, c3, rfl, O3, B3⟩
            by_cases hg1 : g = 1
            · subst hg1
              rw [digs_one1] at O3 ⊢
              obtain ⟨g3, o3, rfl, _, hx⟩ := O3.rw.at_ (by simp)
              have x0 := hx 0 (by simp)
              rw [show wd [1] 0 = 1 from rfl, Nat.add_zero] at x0
              go_wp2_with fail
              go_ret
              exact ⟨rfl, bt B1 B3⟩
            · by_cases hl1 : (digs g).length = 1
              · have e1 : digs g = [g] := digs_one hgp (by have := digs_len_le.1 (Nat.le_of_eq hl1); rw [Wp_succ, Wp_zero] at this; omega)
                rw [e1] at O3 ⊢
                obtain ⟨g3, o3, rfl, _, hx⟩ := O3.rw.at_ (by simp)
                have x0 := hx 0 (by simp)
                rw [show wd [g] 0 = g from rfl, Nat.add_zero] at x0
                have t3 : ((g : Int) == 1) = false := beq_eq_false_iff_ne.2 (by omega)
                clear e1 hl1
                go_wp2_with fail
                go_ret
                exact ⟨by rw [beq_eq_false_iff_ne.2 hg1]; rfl, bt B1 B3⟩
              · have t3 : (((digs g).length : Int) == 1) = false := beq_eq_false_iff_ne.2 (by omega)
                clear hl1
                go_wp2_with fail
                go_ret
                exact ⟨by rw [beq_eq_false_iff_ne.2 hg1]; rfl, bt B1 B3⟩

        · have t2 : ((a.length : Int) == 0) = false := beq_eq_false_iff_ne.2 (by omega)
          rw [decide_eq_false (p := a.length = 0) ha0]
          go_enter Try.func71, Try.ntmps71
          go_wp2_with fail
          refine hs1.mono ?_; rintro e w' ⟨rfl, rfl⟩
          go_wp2_with fail
          refine hs2.mono ?_; rintro e w' ⟨rfl, rfl⟩
          go_wp2_with fail
          refine hdv.mono ?_; rintro e w3 ⟨A3, c3, rfl, O3, B3⟩
          by_cases hg1 : g = 1
          · subst hg1
            rw [digs_one1] at O3 ⊢
            obtain ⟨g3, o3, rfl, _, hx⟩ := O3.rw.at_ (by simp)
            have x0 := hx 0 (by simp)
            rw [show wd [1] 0 = 1 from rfl, Nat.add_zero] at x0
            go_wp2_with fail
            go_ret
            exact ⟨rfl, bt B1 B3⟩
          · by_cases hl1 : (digs g).length = 1
            · have e1 : digs g = [g] := digs_one hgp (by have := digs_len_le.1 (Nat.le_of_eq hl1); rw [Wp_succ, Wp_zero] at this; omega)
              rw [e1] at O3 ⊢
              obtain ⟨g3, o3, rfl, _, hx⟩ := O3.rw.at_ (by simp)
              have x0 := hx 0 (by simp)
              rw [show wd [g] 0 = g from rfl, Nat.add_zero] at x0
              have t3 : ((g : Int) == 1) = false := beq_eq_false_iff_ne.2 (by omega)
              clear e1 hl1
              go_wp2_with fail
              go_ret
              exact ⟨by rw [beq_eq_false_iff_ne.2 hg1]; rfl, bt B1 B3⟩
            · have t3 : (((digs g).length : Int) == 1) = false := beq_eq_false_iff_ne.2 (by omega)
              clear hl1
              go_wp2_with fail
              go_ret
              exact ⟨by rw [beq_eq_false_iff_ne.2 hg1]; rfl, bt B1 B3⟩



set_option maxHeartbeats 2000000 in
theorem rratSound_any (v : Value) (s : Bool) (a b : List Nat) (w : World) (h : VR w w.heap.size v s a b) :
    Calls Try.prog 77 #[v] w fun e w' => e = .returned (.bool (rsB s a b)) ∧ Below w.heap.size w w' := by
  obtain ⟨A, c, D, d, rfl, ra, rb⟩ := h
  have B1 := bal w (.cells #[.bool s, .slice A a.length c, .slice D b.length d] 25)
  have s1 := SB.new w [.bool s, .slice A a.length c, .slice D b.length d] 25
  have m0 := s1.cell 0
  have m1 := s1.cell 1
  have m2 := s1.cell 2
  have hs1 := rsound_any A c _ a _ rfl (st ra B1)
  have hs2 := rsound_any D d _ b _ rfl (st rb B1)
  unfold rsB
  cases h1 : soundB a with
  | false =>
    rw [h1] at hs1
    clear h1
    go_enter Try.func77, Try.ntmps77
    go_wp2_with fail
    refine hs1.mono ?_; rintro e w' ⟨rfl, rfl⟩
    go_wp2_with fail
    go_ret
    exact ⟨rfl, B1⟩
  | true =>
    rw [h1] at hs1
    cases h2 : soundB b with
    | false =>
      rw [h2] at hs2
      clear h1 h2
      go_enter Try.func77, Try.ntmps77
      go_wp2_with fail
      refine hs1.mono ?_; rintro e w' ⟨rfl, rfl⟩
      go_wp2_with fail
      refine hs2.mono ?_; rintro e w' ⟨rfl, rfl⟩
      go_wp2_with fail
      go_ret
      exact ⟨rfl, B1⟩
    | true =>
      rw [h2] at hs2
      have na := nrm_of_sound h1
      have nb := nrm_of_sound h2
      have la := (soundB_parts h1).1
      have lb := (soundB_parts h2).1
      clear h1 h2
      by_cases hb0 : b.length = 0
      · have t1 : ((b.length : Int) == 0) = true := by rw [hb0]; rfl
        rw [decide_eq_false (p := b.length ≠ 0) (fun h => h hb0)]
        clear hb0
        go_enter Try.func77, Try.ntmps77
        go_wp2_with fail
        refine hs1.mono ?_; rintro e w' ⟨rfl, rfl⟩
        go_wp2_with fail
        refine hs2.mono ?_; rintro e w' ⟨rfl, rfl⟩
        go_wp2_with fail
        go_ret
        exact ⟨rfl, B1⟩
      · have t1 : ((b.length : Int) == 0) = false := beq_eq_false_iff_ne.2 (by omega)
        rw [decide_eq_true (p := b.length ≠ 0) hb0]
        have vb : val b ≠ 0 := nrm_pos nb rb.b32 (by omega)
        have hdv := rdivisor_any A D c d _ _ a b _ rfl rfl (st ra B1) (st rb B1) na nb (by omega) (by omega)
        have hgp : Nat.gcd (val a) (val b) ≠ 0 := Nat.gcd_ne_zero_right vb
        generalize Nat.gcd (val a) (val b) = g at *
        by_cases ha0 : a.length = 0
        · have t2 : ((a.length : Int) == 0) = true := by rw [ha0]; rfl
          rw [decide_eq_true (p := a.length = 0) ha0]
          clear ha0
          cases s with
          | true =>
            go_enter Try.func77, Try.ntmps77
            go_wp2_with fail
            refine hs1.mono ?_; rintro e w' ⟨rfl, rfl⟩
            go_wp2_with fail
            refine hs2.mono ?_; rintro e w' ⟨rfl, rfl⟩
            go_wp2_with fail
            go_ret
            exact ⟨rfl, B1⟩
          | false =>
            go_enter Try.func77, Try.ntmps77
            go_wp2_with fail
            refine hs1.mono ?_; rintro e w' ⟨rfl, rfl⟩
            go_wp2_with fail
            refine hs2.mono ?_; rintro e w' ⟨rfl, rfl⟩
            go_wp2_with fail
            refine hdv.mono ?_; rintro e w3 ⟨A3, c3, rfl, O3, B3⟩
            have hsm := same_any A3 (some ⟨w3.heap.size, 0, none⟩) c3 1 _ _ (digs g) [1] (w3.alloc (.cells #[.int .u32 (1 : Nat)] 53)) rfl rfl (st O3.rw (bal _ _)) ((RW.one w3 53 (show 1 < 4294967296 by omega)).more (by simp))
            have hdg : decide (digs g = [1]) = (g == 1) := by
              rw [← digs_one1, Bool.eq_iff_iff, decide_eq_true_eq, beq_iff_eq]
              exact ⟨fun h => digs_inj h, fun h => by rw [h]⟩
            rw [hdg] at hsm
            clear hdg
            go_wp2_with fail
            refine hsm.mono ?_; rintro e w4 ⟨rfl, q4, rfl⟩
            go_wp2_with fail
            go_ret
            exact ⟨rfl, bdN (bt (bt B1 B3) (bal _ _)) q4⟩

        · have t2 : ((a.length : Int) == 0) = false := beq_eq_false_iff_ne.2 (by omega)
          rw [decide_eq_false (p := a.length = 0) ha0]
          go_enter Try.func77, Try.ntmps77
          go_wp2_with fail
          refine hs1.mono ?_; rintro e w' ⟨rfl, rfl⟩
          go_wp2_with fail
          refine hs2.mono ?_; rintro e w' ⟨rfl, rfl⟩
          go_wp2_with fail
          refine hdv.mono ?_; rintro e w3 ⟨A3, c3, rfl, O3, B3⟩
          have hsm := same_any A3 (some ⟨w3.heap.size, 0, none⟩) c3 1 _ _ (digs g) [1] (w3.alloc (.cells #[.int .u32 (1 : Nat)] 53)) rfl rfl (st O3.rw (bal _ _)) ((RW.one w3 53 (show 1 < 4294967296 by omega)).more (by simp))
          have hdg : decide (digs g = [1]) = (g == 1) := by
            rw [← digs_one1, Bool.eq_iff_iff, decide_eq_true_eq, beq_iff_eq]
            exact ⟨fun h => digs_inj h, fun h => by rw [h]⟩
          rw [hdg] at hsm
          clear hdg
          go_wp2_with fail
          refine hsm.mono ?_; rintro e w4 ⟨rfl, q4, rfl⟩
          go_wp2_with fail
          go_ret
          exact ⟨rfl, bdN (bt (bt B1 B3) (bal _ _)) q4⟩



/-- a fraction as it came -/
structure Rw where
  s : Bool
  a : List Nat
  b : List Nat
/-- a rational number, so taken -/
def rwq (q : Rat) : Rw := ⟨qn q, digs (qt q), digs (qd q)⟩
/-- a number's value as it came -/
def VN (w : World) (B : Nat) (v : Value) (r i : Rw) : Prop := ∃ A1 c1 D1 d1 A2 c2 D2 d2, v = .agg #[.bool r.s, .slice A1 r.a.length c1, .slice D1 r.b.length d1, .bool i.s, .slice A2 i.a.length c2, .slice D2 i.b.length d2] ∧
  RW w B A1 c1 r.a ∧ RW w B D1 d1 r.b ∧ RW w B A2 c2 i.a ∧ RW w B D2 d2 i.b
theorem VN.step {w w' : World} {B B' : Nat} {v : Value} {r i : Rw} (h : VN w B v r i) (hb : Below B w w') (hB : B ≤ B') : VN w' B' v r i := by
  obtain ⟨A1, c1, D1, d1, A2, c2, D2, d2, e, h1, h2, h3, h4⟩ := h
  exact ⟨A1, c1, D1, d1, A2, c2, D2, d2, e, h1.step hb hB, h2.step hb hB, h3.step hb hB, h4.step hb hB⟩
theorem VN.st {w w' : World} {v : Value} {r i : Rw} (h : VN w w.heap.size v r i) (hb : Below w.heap.size w w') : VN w' w'.heap.size v r i := h.step hb hb.size
def nB (r i : Rw) : Bool := rsB r.s r.a r.b && rsB i.s i.a i.b


set_option maxHeartbeats 2000000 in
theorem esound_any (v : Value) (r i : Rw) (w : World) (h : VN w w.heap.size v r i) :
    Calls Try.prog 44 #[v] w fun e w' => e = .returned (.bool (nB r i)) ∧ Below w.heap.size w w' := by
  obtain ⟨s1, a1, b1⟩ := r
  obtain ⟨s2, a2, b2⟩ := i
  obtain ⟨A1, c1, D1, d1, A2, c2, D2, d2, rfl, r1, r2, r3, r4⟩ := h
  dsimp only at r1 r2 r3 r4 ⊢
  have B1 := bal w (.cells #[.bool s1, .slice A1 a1.length c1, .slice D1 b1.length d1, .bool s2, .slice A2 a2.length c2, .slice D2 b2.length d2] 27)
  have S1 := SB.new w [.bool s1, .slice A1 a1.length c1, .slice D1 b1.length d1, .bool s2, .slice A2 a2.length c2, .slice D2 b2.length d2] 27
  have m0 := S1.cell 0
  have m1 := S1.cell 1
  have m2 := S1.cell 2
  have h1 := ratSound_any (.agg #[.bool s1, .slice A1 a1.length c1, .slice D1 b1.length d1]) s1 a1 b1 _ ⟨A1, c1, D1, d1, rfl, st r1 B1, st r2 B1⟩
  have h2 := fun w' B => ratSound_any (.agg #[.bool s2, .slice A2 a2.length c2, .slice D2 b2.length d2]) s2 a2 b2 w' ⟨A2, c2, D2, d2, rfl, st (st r3 B1) B, st (st r4 B1) B⟩
  show Calls _ _ _ _ fun e w' => e = .returned (.bool (rsB s1 a1 b1 && rsB s2 a2 b2)) ∧ _
  cases hx : rsB s1 a1 b1 with
  | false =>
    rw [hx] at h1
    clear hx
    go_enter Try.func44, Try.ntmps44
    go_wp2_with fail
    refine h1.mono ?_; rintro e w3 ⟨rfl, B3⟩
    go_wp2_with fail
    go_ret
    exact ⟨rfl, bt B1 B3⟩
  | true =>
    rw [hx] at h1
    clear hx
    go_enter Try.func44, Try.ntmps44
    go_wp2_with fail
    refine h1.mono ?_; rintro e w3 ⟨rfl, B3⟩
    have S3 := S1.nx B3
    have n3 := S3.cell 3
    have n4 := S3.cell 4
    have n5 := S3.cell 5
    go_wp2_with fail
    refine (h2 _ B3).mono ?_; rintro e w4 ⟨rfl, B4⟩
    go_wp2_with fail
    go_ret
    exact ⟨by rw [Bool.true_and]; rfl, bt (bt B1 B3) B4⟩


set_option maxHeartbeats 2000000 in
theorem resound_any (v : Value) (r i : Rw) (w : World) (h : VN w w.heap.size v r i) :
    Calls Try.prog 67 #[v] w fun e w' => e = .returned (.bool (nB r i)) ∧ Below w.heap.size w w' := by
  obtain ⟨s1, a1, b1⟩ := r
  obtain ⟨s2, a2, b2⟩ := i
  obtain ⟨A1, c1, D1, d1, A2, c2, D2, d2, rfl, r1, r2, r3, r4⟩ := h
  dsimp only at r1 r2 r3 r4 ⊢
  have B1 := bal w (.cells #[.bool s1, .slice A1 a1.length c1, .slice D1 b1.length d1, .bool s2, .slice A2 a2.length c2, .slice D2 b2.length d2] 27)
  have S1 := SB.new w [.bool s1, .slice A1 a1.length c1, .slice D1 b1.length d1, .bool s2, .slice A2 a2.length c2, .slice D2 b2.length d2] 27
  have m0 := S1.cell 0
  have m1 := S1.cell 1
  have m2 := S1.cell 2
  have h1 := rratSound_any (.agg #[.bool s1, .slice A1 a1.length c1, .slice D1 b1.length d1]) s1 a1 b1 _ ⟨A1, c1, D1, d1, rfl, st r1 B1, st r2 B1⟩
  have h2 := fun w' B => rratSound_any (.agg #[.bool s2, .slice A2 a2.length c2, .slice D2 b2.length d2]) s2 a2 b2 w' ⟨A2, c2, D2, d2, rfl, st (st r3 B1) B, st (st r4 B1) B⟩
  show Calls _ _ _ _ fun e w' => e = .returned (.bool (rsB s1 a1 b1 && rsB s2 a2 b2)) ∧ _
  cases hx : rsB s1 a1 b1 with
  | false =>
    rw [hx] at h1
    clear hx
    go_enter Try.func67, Try.ntmps67
    go_wp2_with fail
    refine h1.mono ?_; rintro e w3 ⟨rfl, B3⟩
    go_wp2_with fail
    go_ret
    exact ⟨rfl, bt B1 B3⟩
  | true =>
    rw [hx] at h1
    clear hx
    go_enter Try.func67, Try.ntmps67
    go_wp2_with fail
    refine h1.mono ?_; rintro e w3 ⟨rfl, B3⟩
    have S3 := S1.nx B3
    have n3 := S3.cell 3
    have n4 := S3.cell 4
    have n5 := S3.cell 5
    go_wp2_with fail
    refine (h2 _ B3).mono ?_; rintro e w4 ⟨rfl, B4⟩
    go_wp2_with fail
    go_ret
    exact ⟨by rw [Bool.true_and]; rfl, bt (bt B1 B3) B4⟩

end Go.Proofs.Ytabcnpcfknlmlaa
