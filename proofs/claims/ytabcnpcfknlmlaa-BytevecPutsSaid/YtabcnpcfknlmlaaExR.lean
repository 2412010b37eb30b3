/- Walks of the reference's: RatOrder, IsZero, Real, large, fit. -/
import Derived.Test.YtabcnpcfknlmlaaGI
import Derived.Test.YtabcnpcfknlmlaaGE
namespace Go.Proofs.Ytabcnpcfknlmlaa
open Go.RowKit


set_option maxRecDepth 100000 in
set_option maxHeartbeats 16000000 in
theorem rratOrder_any (V U : Value) (x y : Rat) (w : World) (hx : RQ w w.heap.size V x) (hy : RQ w w.heap.size U y) (hb' : qw x + qw y ≤ 14000) :
    Calls Try.prog 69 #[V, U] w fun e w' => e = .returned (.int .i64 (cmpQ x y)) ∧ Below w.heap.size w w' := by
  obtain ⟨A1, c1, D1, d1, rfl, r1, r2⟩ := hx
  obtain ⟨A2, c2, D2, d2, rfl, r3, r4⟩ := hy
  have hx : RQ w w.heap.size (.agg #[.bool (qn x), .slice A1 (digs (qt x)).length c1, .slice D1 (digs (qd x)).length d1]) x := ⟨A1, c1, D1, d1, rfl, r1, r2⟩
  have k0 := T2.new w [.bool (qn x), .slice A1 (digs (qt x)).length c1, .slice D1 (digs (qd x)).length d1] [.bool (qn y), .slice A2 (digs (qt y)).length c2, .slice D2 (digs (qd y)).length d2] 25 25
  have hb : qw x + qw (-y) ≤ 14000 := by rw [qw_neg]; exact hb'
  have conjS : ∀ w', T2 w w.heap.size [.bool (qn x), .slice A1 (digs (qt x)).length c1, .slice D1 (digs (qd x)).length d1] [.bool (qn y), .slice A2 (digs (qt y)).length c2, .slice D2 (digs (qd y)).length d2] w' → w'.cell? ⟨w.heap.size, 0, none⟩ = some (.bool (qn x)) ∧ w'.cell? ⟨w.heap.size, 1, none⟩ = some (.slice A1 (digs (qt x)).length c1) ∧ w'.cell? ⟨w.heap.size, 2, none⟩ = some (.slice D1 (digs (qd x)).length d1) ∧ w'.cell? ⟨w.heap.size + 1, 0, none⟩ = some (.bool (qn y)) ∧ w'.cell? ⟨w.heap.size + 1, 1, none⟩ = some (.slice A2 (digs (qt y)).length c2) ∧ w'.cell? ⟨w.heap.size + 1, 2, none⟩ = some (.slice D2 (digs (qd y)).length d2) ∧ T2 w w.heap.size [.bool (qn x), .slice A1 (digs (qt x)).length c1, .slice D1 (digs (qd x)).length d1] [.bool (qn y), .slice A2 (digs (qt y)).length c2, .slice D2 (digs (qd y)).length d2] w' := fun w' h => ⟨h.1.cell 0, h.1.cell 1, h.1.cell 2, h.2.1.cell 0, h.2.1.cell 1, h.2.1.cell 2, h⟩
  obtain ⟨z, hz⟩ : ∃ z, Hid (cmpQ x y = z) := ⟨_, rfl⟩
  rw [hz.out]
  go_enter Try.func69, Try.ntmps69
  obtain ⟨W0, hW0⟩ : ∃ W0, W0 = (w.alloc (.cells #[.bool (qn x), .slice A1 (digs (qt x)).length c1, .slice D1 (digs (qd x)).length d1] 25)).alloc (.cells #[.bool (qn y), .slice A2 (digs (qt y)).length c2, .slice D2 (digs (qd y)).length d2] 25) := ⟨_, rfl⟩
  go_wp2_with fail
  rw [← hW0] at k0 ⊢
  clear hW0
  have z00 := k0.2.1.2
  go_upto_region 1 with fail
  go_cut [5] (fun s5 wx => ∃ (g : Nat) (A : Option Addr) (c : Nat) (D : Option Addr) (d : Nat), s5 = .pointer (some ⟨g, 0, none⟩) ∧ SB wx g [.bool (qn (x + -y)), .slice A (digs (qt (x + -y))).length c, .slice D (digs (qd (x + -y))).length d] ∧ Below w.heap.size w wx)
  case first =>
    have k0d := k0.dr
    have k0s := And.intro (k0d.1.cell 0) (And.intro (k0d.1.cell 1) (And.intro (k0d.1.cell 2) (And.intro (k0d.2.1.cell 0) (And.intro (k0d.2.1.cell 1) (And.intro (k0d.2.1.cell 2) (k0d))))))
    go_region_held3 (fun w' => w'.cell? ⟨w.heap.size, 0, none⟩ = some (.bool (qn x)) ∧ w'.cell? ⟨w.heap.size, 1, none⟩ = some (.slice A1 (digs (qt x)).length c1) ∧ w'.cell? ⟨w.heap.size, 2, none⟩ = some (.slice D1 (digs (qd x)).length d1) ∧ w'.cell? ⟨w.heap.size + 1, 0, none⟩ = some (.bool (qn y)) ∧ w'.cell? ⟨w.heap.size + 1, 1, none⟩ = some (.slice A2 (digs (qt y)).length c2) ∧ w'.cell? ⟨w.heap.size + 1, 2, none⟩ = some (.slice D2 (digs (qd y)).length d2) ∧ T2 w w.heap.size [.bool (qn x), .slice A1 (digs (qt x)).length c1, .slice D1 (digs (qd x)).length d1] [.bool (qn y), .slice A2 (digs (qt y)).length c2, .slice D2 (digs (qd y)).length d2] w')
      (first
        | with_reducible exact kws.out
        | with_reducible exact k0s
        | (have s1 := (by with_reducible assumption : _ ∧ _ ∧ _ ∧ _ ∧ _ ∧ _ ∧ T2 w w.heap.size [.bool (qn x), .slice A1 (digs (qt x)).length c1, .slice D1 (digs (qd x)).length d1] [.bool (qn y), .slice A2 (digs (qt y)).length c2, .slice D2 (digs (qd y)).length d2] _).2.2.2.2.2.2.nx BX; have q0_ := s1.1.cell 0; have q1_ := s1.1.cell 1; have q2_ := s1.1.cell 2; have q3_ := s1.2.1.cell 0; have q4_ := s1.2.1.cell 1; have q5_ := s1.2.1.cell 2; with_reducible exact ⟨q0_, q1_, q2_, q3_, q4_, q5_, s1⟩)
        | with_reducible exact conjS _ ((by with_reducible assumption : _ ∧ _ ∧ _ ∧ _ ∧ _ ∧ _ ∧ T2 w w.heap.size [.bool (qn x), .slice A1 (digs (qt x)).length c1, .slice D1 (digs (qd x)).length d1] [.bool (qn y), .slice A2 (digs (qt y)).length c2, .slice D2 (digs (qd y)).length d2] _).2.2.2.2.2.2.nx (bal _ _))
        | (with_reducible refine conjS _ (T2.re (by with_reducible assumption : _ ∧ _ ∧ _ ∧ _ ∧ _ ∧ _ ∧ T2 w w.heap.size [.bool (qn x), .slice A1 (digs (qt x)).length c1, .slice D1 (digs (qd x)).length d1] [.bool (qn y), .slice A2 (digs (qt y)).length c2, .slice D2 (digs (qd y)).length d2] _).2.2.2.2.2.2 ?_); assumption))
      (first
        | (go_at_call 38; have hh := (by with_reducible assumption : _ ∧ _ ∧ _ ∧ _ ∧ _ ∧ _ ∧ T2 w w.heap.size [.bool (qn x), .slice A1 (digs (qt x)).length c1, .slice D1 (digs (qd x)).length d1] [.bool (qn y), .slice A2 (digs (qt y)).length c2, .slice D2 (digs (qd y)).length d2] _).2.2.2.2.2.2; refine (rminus_any y A2 D2 c2 d2 _).mono ?_; rintro e w12 ⟨rfl, BX⟩; have B12 := BX; have z12 := (hh.nx BX).2.1.2; (first | (have sg := sg.nx BX; have g0 := sg.cell 0; have g1 := sg.cell 1; have g2 := sg.cell 2; have h0 := sg.frozen 0; have h1 := sg.frozen 1; have h2 := sg.frozen 2) | (have sg := (SB.new _ [.bool false, .slice none 0 0, .slice none 0 0] 25).nx BX; have g0 := sg.cell 0; have g1 := sg.cell 1; have g2 := sg.cell 2; have h0 := sg.frozen 0; have h1 := sg.frozen 1; have h2 := sg.frozen 2) | (have sg := ((SB.new _ [.bool false, .slice none 0 0, .slice none 0 0] 25).nx (Below.drew (Below.refl _ _))).nx BX; have g0 := sg.cell 0; have g1 := sg.cell 1; have g2 := sg.cell 2; have h0 := sg.frozen 0; have h1 := sg.frozen 1; have h2 := sg.frozen 2) | skip))
        | ((first | have gl := sg.2 | skip); go_at_call 37; have hh := (by with_reducible assumption : _ ∧ _ ∧ _ ∧ _ ∧ _ ∧ _ ∧ T2 w w.heap.size [.bool (qn x), .slice A1 (digs (qt x)).length c1, .slice D1 (digs (qd x)).length d1] [.bool (qn y), .slice A2 (digs (qt y)).length c2, .slice D2 (digs (qd y)).length d2] _).2.2.2.2.2.2; refine (rsum_any _ _ x (-y) _ (hx.st hh.2.2) ⟨A2, c2, D2, d2, rfl, by rw [q_neg_t]; exact st r3 hh.2.2, by rw [q_neg_d]; exact st r4 hh.2.2⟩ hb).mono ?_; rintro e w16 ⟨A16, c16, D16, d16, rfl, O16, P16, BX⟩; have B16 := BX; have z16 := (hh.nx BX).2.1.2; have kk := hh.nx BX; (first | (have sg := sg.nx BX; have g0 := sg.cell 0; have g1 := sg.cell 1; have g2 := sg.cell 2; have h0 := sg.frozen 0; have h1 := sg.frozen 1; have h2 := sg.frozen 2) | (have sg := (SB.new _ [.bool false, .slice none 0 0, .slice none 0 0] 25).nx BX; have g0 := sg.cell 0; have g1 := sg.cell 1; have g2 := sg.cell 2; have h0 := sg.frozen 0; have h1 := sg.frozen 1; have h2 := sg.frozen 2) | (have sg := ((SB.new _ [.bool false, .slice none 0 0, .slice none 0 0] 25).nx (Below.drew (Below.refl _ _))).nx BX; have g0 := sg.cell 0; have g1 := sg.cell 1; have g2 := sg.cell 2; have h0 := sg.frozen 0; have h1 := sg.frozen 1; have h2 := sg.frozen 2) | skip); (first | (have gz := gt1 (n := w.heap.size) sg (by first | assumption | (simp; omega)); have kw := Lib.hid (T2.wr kk gz (.bool (qn (x + -y))) (.slice A16 (digs (qt (x + -y))).length c16) (.slice D16 (digs (qd (x + -y))).length d16)); have kws := Lib.hid (conjS _ kw.out)) | skip)))
    all_goals
      go_wp2_with fail
      go_meet
      first
        | exact ⟨_, A16, c16, D16, d16, rfl, SB.new w16 _ _, (kk.nx (bal _ _)).2.2⟩
        | exact ⟨_, A16, c16, D16, d16, rfl, SB.put3 sg _ _ _, kw.out.2.2⟩
  case rest =>
    obtain ⟨g, A, c, D, d, rfl, sg, BZ⟩ := hcut
    have hz := hz.out
    unfold cmpQ at hz
    have g0 := sg.cell 0
    have g1 := sg.cell 1
    have ht : (digs (qt (x + -y))).length = 0 ↔ qt (x + -y) = 0 := digs_len0
    have hzn : qt (x + -y) = 0 → qn (x + -y) = false := qn_zero
    generalize qt (x + -y) = t at *
    generalize (digs t).length = n at *
    clear k0 sg hx hb hb' conjS r1 r2 r3 r4
    generalize qn (x + -y) = s at *
    by_cases h0 : n = 0
    · have ht0 := ht.1 h0
      rw [hzn ht0, if_neg (by simp), if_neg (by omega)] at hz
      subst hz
      subst h0
      clear hzn ht ht0
      go_wp2_with fail
      go_ret
      exact ⟨rfl, BZ⟩
    · have ht0 : 0 < t := by omega
      have h1 : ((n : Int) == 0) = false := beq_eq_false_iff_ne.2 (by omega)
      clear ht hzn
      cases s with
      | true =>
        rw [if_pos rfl] at hz
        subst hz
        clear ht0
        go_wp2_with fail
        go_ret
        exact ⟨rfl, BZ⟩
      | false =>
        rw [if_neg (by simp), if_pos ht0] at hz
        subst hz
        clear ht0
        go_wp2_with fail
        go_ret
        exact ⟨rfl, BZ⟩


set_option maxHeartbeats 4000000 in
theorem rreal_any (V : Value) (r i : Rw) (w : World) (hV : VN w w.heap.size V r i) :
    Calls Try.prog 78 #[V] w fun e w' => e = .returned (.bool (decide (i.a.length = 0))) ∧ Below w.heap.size w w' := by
  obtain ⟨s1, a1, b1⟩ := r
  obtain ⟨s2, a2, b2⟩ := i
  obtain ⟨A1, c1, D1, d1, A2, c2, D2, d2, rfl, p1, p2, p3, p4⟩ := hV
  dsimp only at p1 p2 p3 p4 ⊢
  have sg := SB.new w [.bool s1, .slice A1 a1.length c1, .slice D1 b1.length d1, .bool s2, .slice A2 a2.length c2, .slice D2 b2.length d2] 27
  have B1 := bal w (.cells #[.bool s1, .slice A1 a1.length c1, .slice D1 b1.length d1, .bool s2, .slice A2 a2.length c2, .slice D2 b2.length d2] 27)
  have m1 := sg.cell 4
  generalize hm : a2.length = m at *
  clear hm p1 p2 p3 p4 sg
  go_enter Try.func78, Try.ntmps78
  by_cases h2 : m = 0
  · subst h2
    go_wp2_with fail
    go_ret
    exact ⟨by simp, B1⟩
  · have h3 : ((m : Int) == 0) = false := by simpa using h2
    go_wp2_with fail
    go_ret
    exact ⟨by simp [h2], B1⟩
def largeB (r i : Rw) : Bool := decide (512 < r.a.length) || (decide (512 < r.b.length) || (decide (512 < i.a.length) || decide (512 < i.b.length)))
end Go.Proofs.Ytabcnpcfknlmlaa
