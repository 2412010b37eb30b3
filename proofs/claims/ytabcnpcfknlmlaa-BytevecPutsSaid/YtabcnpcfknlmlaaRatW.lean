/- Walks: Whole of exact. -/
import Derived.Test.YtabcnpcfknlmlaaGF
namespace Go.Proofs.Ytabcnpcfknlmlaa
open Go.RowKit

/-- a whole number -/
def wB (r i : Rw) : Bool := nB r i && (decide (i.a.length = 0) && decide (r.b = [1]))


set_option maxHeartbeats 2000000 in
theorem whole1_any (v : Value) (r i : Rw) (w : World) (h : VN w w.heap.size v r i) :
    Calls Try.prog 65 #[v] w fun e w' => e = .returned (.bool (wB r i)) ∧ Below w.heap.size w w' := by
  obtain ⟨s1, a1, b1⟩ := r
  obtain ⟨s2, a2, b2⟩ := i
  obtain ⟨A1, c1, D1, d1, A2, c2, D2, d2, rfl, r1, r2, r3, r4⟩ := h
  dsimp only at r1 r2 r3 r4 ⊢
  have B1 := bal w (.cells #[.bool s1, .slice A1 a1.length c1, .slice D1 b1.length d1, .bool s2, .slice A2 a2.length c2, .slice D2 b2.length d2] 27)
  have S1 := SB.new w [.bool s1, .slice A1 a1.length c1, .slice D1 b1.length d1, .bool s2, .slice A2 a2.length c2, .slice D2 b2.length d2] 27
  have m0 := S1.cell 0
  have m1 := S1.cell 1
  have m2 := S1.cell 2
  have m3 := S1.cell 3
  have m4 := S1.cell 4
  have m5 := S1.cell 5
  have h0 := esound_any (.agg #[.bool s1, .slice A1 a1.length c1, .slice D1 b1.length d1, .bool s2, .slice A2 a2.length c2, .slice D2 b2.length d2]) ⟨s1, a1, b1⟩ ⟨s2, a2, b2⟩ _ (vns r1 r2 r3 r4 B1)
  show Calls _ _ _ _ fun e w' => e = .returned (.bool (nB ⟨s1, a1, b1⟩ ⟨s2, a2, b2⟩ && (decide (a2.length = 0) && decide (b1 = [1])))) ∧ _
  cases hx : nB ⟨s1, a1, b1⟩ ⟨s2, a2, b2⟩ with
  | false =>
    rw [hx] at h0
    clear hx
    go_enter Try.func65, Try.ntmps65
    go_wp2_with fail
    refine h0.mono ?_; rintro e w3 ⟨rfl, B3⟩
    go_wp2_with fail
    go_ret
    exact ⟨rfl, bt B1 B3⟩
  | true =>
    rw [hx] at h0
    clear hx
    by_cases ha : a2.length = 0
    · have t1 : ((a2.length : Int) == 0) = true := by rw [ha]; rfl
      rw [decide_eq_true (p := a2.length = 0) ha]
      clear ha
      by_cases hb : b1.length = 1
      · obtain ⟨x, rfl⟩ := List.length_eq_one_iff.1 hb
        clear hb
        by_cases hx1 : x = 1
        · subst hx1
          rw [decide_eq_true (p := [1] = [1]) rfl]
          go_enter Try.func65, Try.ntmps65
          go_wp2_with fail
          refine h0.mono ?_; rintro e w3 ⟨rfl, B3⟩
          have S3 := S1.nx B3
          have n0 := S3.cell 0
          have n1 := S3.cell 1
          have n2 := S3.cell 2
          have n3 := S3.cell 3
          have n4 := S3.cell 4
          have n5 := S3.cell 5
          obtain ⟨g3, o3, rfl, _, hq⟩ := (st r2 (bt B1 B3)).at_ (by simp)
          have x0 := hq 0 (by simp)
          rw [show wd [1] 0 = 1 from rfl, Nat.add_zero] at x0
          go_wp2_with fail
          go_ret
          exact ⟨rfl, bt B1 B3⟩
        · rw [decide_eq_false (p := [x] = [1]) (fun e => hx1 (List.cons.inj e).1)]
          have t3 : ((x : Int) == 1) = false := beq_eq_false_iff_ne.2 (by omega)
          go_enter Try.func65, Try.ntmps65
          go_wp2_with fail
          refine h0.mono ?_; rintro e w3 ⟨rfl, B3⟩
          have S3 := S1.nx B3
          have n0 := S3.cell 0
          have n1 := S3.cell 1
          have n2 := S3.cell 2
          have n3 := S3.cell 3
          have n4 := S3.cell 4
          have n5 := S3.cell 5
          obtain ⟨g3, o3, rfl, _, hq⟩ := (st r2 (bt B1 B3)).at_ (by simp)
          have x0 := hq 0 (by simp)
          rw [show wd [x] 0 = x from rfl, Nat.add_zero] at x0
          go_wp2_with fail
          go_ret
          exact ⟨rfl, bt B1 B3⟩
      · have t2 : ((b1.length : Int) == 1) = false := beq_eq_false_iff_ne.2 (by omega)
        rw [decide_eq_false (p := b1 = [1]) (fun e => hb (by rw [e]; rfl))]
        clear hb
        go_enter Try.func65, Try.ntmps65
        go_wp2_with fail
        refine h0.mono ?_; rintro e w3 ⟨rfl, B3⟩
        have S3 := S1.nx B3
        have n0 := S3.cell 0
        have n1 := S3.cell 1
        have n2 := S3.cell 2
        have n3 := S3.cell 3
        have n4 := S3.cell 4
        have n5 := S3.cell 5
        go_wp2_with fail
        go_ret
        exact ⟨rfl, bt B1 B3⟩
    · have t1 : ((a2.length : Int) == 0) = false := beq_eq_false_iff_ne.2 (by omega)
      rw [decide_eq_false (p := a2.length = 0) ha]
      clear ha
      go_enter Try.func65, Try.ntmps65
      go_wp2_with fail
      refine h0.mono ?_; rintro e w3 ⟨rfl, B3⟩
      have S3 := S1.nx B3
      have n0 := S3.cell 0
      have n1 := S3.cell 1
      have n2 := S3.cell 2
      have n3 := S3.cell 3
      have n4 := S3.cell 4
      have n5 := S3.cell 5
      go_wp2_with fail
      go_ret
      exact ⟨rfl, bt B1 B3⟩

/-- a whole number is an integer -/
theorem wB_int {r i : Rw} (h : wB r i = true) : r.a = digs (val r.a) ∧ r.b = [1] ∧ i = ⟨false, [], [1]⟩ ∧ (val r.a = 0 → r.s = false) ∧ r.a.length ≤ 512 := by
  unfold wB nB at h
  simp only [Bool.and_eq_true, decide_eq_true_eq] at h
  obtain ⟨⟨h1, h2⟩, h3, h4⟩ := h
  obtain ⟨p1, p2, p3, p4, p5⟩ := rsB_parts h1
  obtain ⟨q1, q2, q3, q4, q5⟩ := rsB_parts h2
  obtain ⟨l1, e1⟩ := soundB_parts p1
  have hi : i.a = [] := List.eq_nil_of_length_eq_zero h3
  refine ⟨e1.symm, h4, ?_, ?_, l1⟩
  · obtain ⟨is, ia, ib⟩ := i
    dsimp only at *
    subst hi
    rw [show val ([] : List Nat) = 0 from rfl, Nat.gcd_zero_left] at q5
    have e2 := (soundB_parts q2).2
    rw [q5, digs_one1] at e2
    rw [← e2, q4 rfl]
  · intro h0
    exact p4 (by rw [← e1, h0, digs_zero]; rfl)

end Go.Proofs.Ytabcnpcfknlmlaa
